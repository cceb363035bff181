/- Each Go function comes to what its plain function says. PRINTED by a program of this session (ty.py). -/
import Derived.Test.YtkgdoilkneogdaaS8
set_option linter.unusedVariables false
set_option linter.unusedSimpArgs false
set_option maxHeartbeats 4000000
set_option maxRecDepth 10000
namespace Go.Proofs.Ty
open Go Go.RW Go.Proofs
/-- passkey/passkeylaw29.ChallengeFull -/
def passkeylaw29ChallengeFullH : Hints := ⟨[(0, [0, 1, 2]), (1, [1, 2, 7]), (2, [2, 7, 8]), (3, [2, 7, 8, 9]), (4, [2, 7, 8, 9, 27]), (6, [2, 7, 8, 9, 10]), (7, [2, 7, 8, 9, 10, 11, 13]), (8, [2, 7, 8, 9, 10, 11, 13, 14]), (9, [2, 7, 8, 9, 10, 11, 13, 14, 15]), (10, [2, 7, 8, 9, 10, 11, 13, 14, 15, 44]), (12, [2, 7, 8, 9, 10, 11, 13, 14, 15, 55]), (13, [2, 7, 8, 9, 10, 11, 13, 14, 15]), (11, [2, 7, 8, 9, 10, 11, 13, 14, 15]), (14, [2, 7, 8, 9, 11, 76]), (15, [6]), (16, [2, 7, 8, 9]), (5, [2, 7, 8, 9]), (17, [6])], []⟩
def passkeylaw29ChallengeFullRc : RCode :=
  .seq (.region false [⟨some 6, .mv, [.k (.d (.bool false))], none, []⟩] [0, 1, 2]) (.seq (.region false [⟨some 16, .mv, [.t 0], none, []⟩, ⟨some 17, .call 9 true, [.t 16], none,
  []⟩, ⟨some 7, .alloc [.d (.int .u64 0), .d (.int .i64 0), .nil 5], [], none, []⟩, ⟨none, .store 3, [.t 7, .t 17], none, []⟩] [1, 2, 7]) (.seq (.region false [⟨some 18, .mv, [.t
  1], none, []⟩, ⟨some 19, .bin .rem, [.t 18, .k (.d (.int .u8 5))], none, []⟩, ⟨some 20, .cvt .i64, [.t 19], none, []⟩, ⟨some 21, .bin .add, [.k (.d (.int .i64 1)), .t 20], none,
  []⟩, ⟨some 8, .mv, [.t 21], none, []⟩] [2, 7, 8]) (.seq (.seq (.region false [⟨some 9, .mv, [.k (.d (.int .i64 0))], none, []⟩] [2, 7, 8, 9]) (.block 0 (.loop [] (.seq (.seq
  (.region false [⟨some 22, .mv, [.t 9], none, []⟩, ⟨some 23, .mv, [.t 2], none, []⟩, ⟨some 24, .bin .rem, [.t 23, .k (.d (.int .u8 40))], none, []⟩, ⟨some 25, .cvt .i64, [.t 24],
  none, []⟩, ⟨some 26, .bin .add, [.k (.d (.int .i64 40)), .t 25], none, []⟩, ⟨some 27, .bin .lss, [.t 22, .t 26], none, []⟩] [2, 7, 8, 9, 27]) (.cond (.t 27) .skip (.exit 0)))
  (.seq (.block 1 (.seq (.region false [⟨some 30, .mv, [.t 9], none, []⟩, ⟨some 31, .mv, [.t 8], none, []⟩, ⟨some 32, .bin .mul, [.t 30, .t 31], none, []⟩, ⟨some 10, .mv, [.t 32],
  none, []⟩] [2, 7, 8, 9, 10]) (.seq (.region false [⟨some 34, .load 3 true, [.t 7], none, []⟩, ⟨some 35, .mv, [.t 10], none, []⟩, ⟨some 36, .call 10 true, [.t 34, .k (.d (.int
  .i64 2)), .k (.d (.str ⟨#[]⟩)), .k (.d (.bool false)), .t 35], none, []⟩, ⟨some 33, .mv, [.t 36], none, []⟩, ⟨some 37, .ext 0, [.t 33], none, []⟩, ⟨some 38, .ext 1, [.t 33],
  none, []⟩, ⟨some 39, .ext 2, [.t 33], none, []⟩, ⟨some 11, .alloc [.d (.int .u64 0), .d (.int .i64 0), .nil 5], [], none, []⟩, ⟨none, .store 3, [.t 11, .t 37], none, []⟩, ⟨some
  12, .mv, [.t 38], none, []⟩, ⟨some 13, .mv, [.t 39], none, []⟩] [2, 7, 8, 9, 10, 11, 13]) (.seq (.region false [⟨some 14, .mv, [.k (.d (.int .i64 0))], none, []⟩] [2, 7, 8, 9,
  10, 11, 13, 14]) (.seq (.seq (.region false [⟨some 15, .mv, [.k (.d (.int .i64 0))], none, []⟩] [2, 7, 8, 9, 10, 11, 13, 14, 15]) (.block 2 (.loop [] (.seq (.seq (.region false
  [⟨some 40, .mv, [.t 15], none, []⟩, ⟨some 41, .fa 2, [.t 7], none, []⟩, ⟨some 42, .load 1 false, [.t 41], none, []⟩, ⟨some 43, .len, [.t 42], none, []⟩, ⟨some 44, .bin .lss, [.t
  40, .t 43], none, []⟩] [2, 7, 8, 9, 10, 11, 13, 14, 15, 44]) (.cond (.t 44) .skip (.exit 2))) (.seq (.block 3 (.seq (.region false [⟨some 47, .mv, [.t 10], none, []⟩, ⟨some 48,
  .fa 2, [.t 7], none, []⟩, ⟨some 49, .load 1 false, [.t 48], none, []⟩, ⟨some 50, .mv, [.t 15], none, []⟩, ⟨some 51, .ia 5, [.t 49, .t 50], none, []⟩, ⟨some 52, .fa 4, [.t 51],
  none, []⟩, ⟨some 53, .load 1 false, [.t 52], none, []⟩, ⟨some 54, .bin .sub, [.t 47, .t 53], none, []⟩, ⟨some 55, .bin .leq, [.t 54, .k (.d (.int .i64 60))], none, []⟩] [2, 7, 8,
  9, 10, 11, 13, 14, 15, 55]) (.cond (.t 55) (.region false [⟨some 56, .mv, [.t 14], none, []⟩, ⟨some 57, .bin .add, [.t 56, .k (.d (.int .i64 1))], none, []⟩, ⟨some 14, .mv, [.t
  57], none, []⟩] [2, 7, 8, 9, 10, 11, 13, 14, 15]) .skip))) (.region false [⟨some 45, .mv, [.t 15], none, []⟩, ⟨some 46, .bin .add, [.t 45, .k (.d (.int .i64 1))], none, []⟩,
  ⟨some 15, .mv, [.t 46], none, []⟩] [2, 7, 8, 9, 10, 11, 13, 14, 15])))))) (.seq (.seq (.region false [⟨some 58, .mv, [.t 13], none, []⟩, ⟨some 59, .bin .eql, [.t 58, .k (.d (.int
  .i64 0))], none, []⟩, ⟨some 60, .mv, [.t 14], none, []⟩, ⟨some 61, .bin .lss, [.t 60, .k (.d (.int .i64 32))], none, []⟩, ⟨some 62, .bool .neq, [.t 59, .t 61], none, []⟩, ⟨some
  63, .mv, [.t 62], none, []⟩, ⟨some 64, .mv, [.t 13], some (63, false), []⟩, ⟨some 65, .bin .neq, [.t 64, .k (.d (.int .i64 0))], some (63, false), []⟩, ⟨some 66, .mv, [.t 65],
  some (63, false), []⟩, ⟨some 67, .mv, [.t 13], some (66, true), []⟩, ⟨some 68, .bin .neq, [.t 67, .k (.d (.int .i64 12))], some (66, true), []⟩, ⟨some 69, .pick, [.t 66, .t 68,
  .k (.d (.bool false))], some (63, false), []⟩, ⟨some 70, .pick, [.t 63, .k (.d (.bool true)), .t 69], none, []⟩, ⟨some 71, .mv, [.t 70], none, []⟩, ⟨some 72, .fa 2, [.t 11], some
  (71, false), []⟩, ⟨some 73, .load 1 false, [.t 72], some (71, false), []⟩, ⟨some 74, .len, [.t 73], some (71, false), []⟩, ⟨some 75, .bin .gtr, [.t 74, .k (.d (.int .i64 32))],
  some (71, false), []⟩, ⟨some 76, .pick, [.t 71, .k (.d (.bool true)), .t 75], none, []⟩] [2, 7, 8, 9, 11, 76]) (.cond (.t 76) (.seq (.region false [⟨some 6, .mv, [.k (.d (.bool
  false))], none, []⟩] [6]) .ret) .skip)) (.region false [⟨some 77, .load 3 true, [.t 11], none, []⟩, ⟨none, .store 3, [.t 7, .t 77], none, []⟩] [2, 7, 8, 9]))))))) (.region false
  [⟨some 28, .mv, [.t 9], none, []⟩, ⟨some 29, .bin .add, [.t 28, .k (.d (.int .i64 1))], none, []⟩, ⟨some 9, .mv, [.t 29], none, []⟩] [2, 7, 8, 9])))))) (.seq (.region false
  [⟨some 78, .call 6 false, [], none, []⟩, ⟨some 6, .mv, [.t 78], none, []⟩] [6]) .ret))))
def passkeylaw29ChallengeFullRr : List RR := [.t 6]
theorem passkeylaw29ChallengeFullC : compFn Try.prog 5 passkeylaw29ChallengeFullH = some (passkeylaw29ChallengeFullRc, passkeylaw29ChallengeFullRr, 79) := by kernel_rfl
theorem passkeylaw29ChallengeFullOK (a0 : BitVec 64) (a1 : BitVec 8) (a2 : BitVec 8) (res : Bool) (h : passkeylaw29ChallengeFull a0 a1 a2 = some res) : CallOK Try.prog 5 [.d (eU64 a0), .d (eU8 a1), .d (eU8 a2)] [] (.d (eB res)) [] := by
  unfold passkeylaw29ChallengeFull at h
  refine callOK passkeylaw29ChallengeFullC fm rfl ?_
  simp only [initE, initM, nbor, List.map_cons, List.map_nil, Nat.reduceAdd]
  unfold passkeylaw29ChallengeFullRc
  refine rwp_seq fun K1 hK1 => ?_
  refine rwp_region fun K2 hK2 => ?_
  refine st0 128 rfl (ok (mv (.d (eB false)))) ?_
  refine hK2 _ _ ?_
  simp only [thenK, blockK, keepE, updM, List.filter_cons, List.filter_nil, List.nil_append, List.cons_append, List.map_cons, List.map_nil, envE, Mem.get, Nat.reduceEqDiff, reduceIte, Option.isNone_none, Option.isNone_some, Bool.false_eq_true, List.length_cons, List.length_nil, Nat.reduceAdd, Nat.reduceMul]
  refine hK1 _ _ _ ?_
  refine rwp_seq fun K3 hK3 => ?_
  refine rwp_region fun K4 hK4 => ?_
  refine st0 192 rfl (ok (mv (.d (eU64 a0)))) ?_
  obtain ⟨y5, h6, h⟩ := bind_inv h
  refine st0 256 rfl (call_ok (v := .d (eTApiChallenges y5)) (u := []) (ar_d (eU64 a0) ar_nil) rfl (challengeNewOK a0 y5 h6) rfl) ?_
  refine st1 320 rfl (mem' := [(256, .var .mine [.d (eU64 (0#64)), .d (eI (0 : Int)), .nil 5])]) (ok (alc (zs := [.d (eU64 (0#64)), .d (eI (0 : Int)), .nil 5]))) rfl ?_
  refine stn 384 rfl (mem' := [(256, .var .mine [.d (eU64 y5.Secret), .d (eI y5.Count), .d ((eL 5 eTApiChallenge) y5.Open)])]) (ok (sto_v (ps' := [.d (eU64 y5.Secret), .d (eI y5.Count), .d ((eL 5 eTApiChallenge) y5.Open)]) rfl rfl rfl rfl)) rfl ?_
  refine hK4 _ _ ?_
  simp only [thenK, blockK, keepE, updM, List.filter_cons, List.filter_nil, List.nil_append, List.cons_append, List.map_cons, List.map_nil, envE, Mem.get, Nat.reduceEqDiff, reduceIte, Option.isNone_none, Option.isNone_some, Bool.false_eq_true, List.length_cons, List.length_nil, Nat.reduceAdd, Nat.reduceMul]
  refine hK3 _ _ _ ?_
  refine rwp_seq fun K7 hK7 => ?_
  refine rwp_region fun K8 hK8 => ?_
  refine st0 448 rfl (ok (mv (.d (eU8 a1)))) ?_
  refine st0 512 rfl (ok (rem8 _ (5#8) (by decide))) ?_
  refine st0 576 rfl (ok (toI8 _)) ?_
  refine st0 640 rfl (ok (addI (1 : Int) _)) ?_
  refine st0 704 rfl (ok (mv (.d (eI (w64 ((1 : Int) + ((a1 % (5#8)).toNat : Int))))))) ?_
  refine hK8 _ _ ?_
  simp only [thenK, blockK, keepE, updM, List.filter_cons, List.filter_nil, List.nil_append, List.cons_append, List.map_cons, List.map_nil, envE, Mem.get, Nat.reduceEqDiff, reduceIte, Option.isNone_none, Option.isNone_some, Bool.false_eq_true, List.length_cons, List.length_nil, Nat.reduceAdd, Nat.reduceMul]
  refine hK7 _ _ _ ?_
  refine rwp_join ([], []) 6336 (fun env mem => passkeylaw29ChallengeFullJ1 = some res ∧ env = [] ∧ mem = []) (fun _ _ hI => ?_) (fun K9 hK9 => ?_)
  · obtain ⟨h, rfl, rfl⟩ := hI
    unfold passkeylaw29ChallengeFullJ1 at h
    refine rwp_seq fun K10 hK10 => ?_
    refine rwp_region fun K11 hK11 => ?_
    obtain ⟨y12, h13, h⟩ := bind_inv h
    refine st0 6400 rfl (call_ok (v := .d (eB y12)) (u := []) ar_nil rfl (passkeylaw29awakeOK  y12 h13) rfl) ?_
    refine st0 6464 rfl (ok (mv (.d (eB y12)))) ?_
    refine hK11 _ _ ?_
    simp only [thenK, blockK, keepE, updM, List.filter_cons, List.filter_nil, List.nil_append, List.cons_append, List.map_cons, List.map_nil, envE, Mem.get, Nat.reduceEqDiff, reduceIte, Option.isNone_none, Option.isNone_some, Bool.false_eq_true, List.length_cons, List.length_nil, Nat.reduceAdd, Nat.reduceMul]
    refine hK10 _ _ _ ?_
    refine rwp_ret ?_
    obtain rfl := Option.some.inj h
    try simp only [thenK, blockK, reduceIte]
    exact Or.inl (end_ok trivial (rs_t (v := .d (eB y12)) rfl rs_nil) (en_d (to_d _) en_nil) ou_nil (by first | exact eok rfl rfl rfl rfl trivial | (refine eok ?_ ?_ ?_ ?_ ?_ <;> first | rfl | exact trivial | simp [retM, Mem.get, PV.renL, PV.ren, Blk.ren, comps, rhoR, rhoM, appN, PV.refsL, PV.refs, keys, nodupB, Blk.refs, allIn, Blk.bor])))
  · refine rwp_seq fun K14 hK14 => ?_
    refine rwp_region fun K15 hK15 => ?_
    refine st0 768 rfl (ok (mv (.d (eI (0 : Int))))) ?_
    refine hK15 _ _ ?_
    simp only [thenK, blockK, keepE, updM, List.filter_cons, List.filter_nil, List.nil_append, List.cons_append, List.map_cons, List.map_nil, envE, Mem.get, Nat.reduceEqDiff, reduceIte, Option.isNone_none, Option.isNone_some, Bool.false_eq_true, List.length_cons, List.length_nil, Nat.reduceAdd, Nat.reduceMul]
    refine hK14 _ _ _ ?_
    refine rwp_block fun K16 hK16 => ?_
    refine rwp_loop ([], []) 5888 (fun k env mem => ∃ (v17 : BitVec 64) (v18 : Int) (v19 : List (TApiChallenge)) (v20 : Int), passkeylaw29ChallengeFullL2 a1 a2 k v17 v18 v19 v20 = some res ∧ env = [(2, .d (eU8 a2)), (7, .ptr 256 0), (8, .d (eI (w64 ((1 : Int) + ((a1 % (5#8)).toNat : Int))))), (9, .d (eI v20))] ∧ mem = [(256, .var .mine [.d (eU64 v17), .d (eI v18), .d ((eL 5 eTApiChallenge) v19)])]) FUEL ⟨_, _, Settled.refl, _, _, ⟨_, _, _, _, h, rfl, rfl⟩, ⟨rfl, ⟨⟨rfl, rfl⟩, ⟨⟨rfl, rfl⟩, ⟨⟨rfl, rfl⟩, ⟨⟨rfl, rfl⟩, trivial⟩⟩⟩⟩, ⟨⟨rfl, rfl⟩, trivial⟩⟩, rfl⟩ (fun k2 env1 mem1 hI K21 hK21 => ?_)
    obtain ⟨v17, v18, v19, v20, h, rfl, rfl⟩ := hI
    cases k2 with
    | zero => simp [passkeylaw29ChallengeFullL2] at h
    | succ k2 =>
      rw [passkeylaw29ChallengeFullL2] at h
      refine rwp_seq fun K22 hK22 => ?_
      refine rwp_seq fun K23 hK23 => ?_
      refine rwp_region fun K24 hK24 => ?_
      refine st0 5952 rfl (ok (mv (.d (eI v20)))) ?_
      refine st0 6016 rfl (ok (mv (.d (eU8 a2)))) ?_
      refine st0 6080 rfl (ok (rem8 _ (40#8) (by decide))) ?_
      refine st0 6144 rfl (ok (toI8 _)) ?_
      refine st0 6208 rfl (ok (addI (40 : Int) _)) ?_
      refine st0 6272 rfl (ok (lssI _ _)) ?_
      refine hK24 _ _ ?_
      simp only [thenK, blockK, keepE, updM, List.filter_cons, List.filter_nil, List.nil_append, List.cons_append, List.map_cons, List.map_nil, envE, Mem.get, Nat.reduceEqDiff, reduceIte, Option.isNone_none, Option.isNone_some, Bool.false_eq_true, List.length_cons, List.length_nil, Nat.reduceAdd, Nat.reduceMul]
      refine hK23 _ _ _ ?_
      rcases Bool.eq_false_or_eq_true ((decide (v20 < (w64 ((40 : Int) + ((a2 % (40#8)).toNat : Int)))))) with h25 | h25
      · replace h := ite_t h h25
        refine rwp_t (isT h25) ?_
        refine rwp_skip ?_
        refine hK22 _ _ _ ?_
        refine rwp_join ([], []) 10688 (fun env mem => ∃ (v26 : BitVec 64) (v27 : Int) (v28 : List (TApiChallenge)), passkeylaw29ChallengeFullJ3 (passkeylaw29ChallengeFullL2 a1 a2 k2) v20 v26 v27 v28 = some res ∧ env = [(2, .d (eU8 a2)), (7, .ptr 256 0), (8, .d (eI (w64 ((1 : Int) + ((a1 % (5#8)).toNat : Int))))), (9, .d (eI v20))] ∧ mem = [(256, .var .mine [.d (eU64 v26), .d (eI v27), .d ((eL 5 eTApiChallenge) v28)])]) (fun _ _ hI => ?_) (fun K29 hK29 => ?_)
        · obtain ⟨v26, v27, v28, h, rfl, rfl⟩ := hI
          unfold passkeylaw29ChallengeFullJ3 at h
          refine rwp_region fun K30 hK30 => ?_
          refine st0 10752 rfl (ok (mv (.d (eI v20)))) ?_
          refine st0 10816 rfl (ok (addI _ (1 : Int))) ?_
          refine st0 10880 rfl (ok (mv (.d (eI (w64 (v20 + (1 : Int))))))) ?_
          refine hK30 _ _ ?_
          simp only [thenK, blockK, keepE, updM, List.filter_cons, List.filter_nil, List.nil_append, List.cons_append, List.map_cons, List.map_nil, envE, Mem.get, Nat.reduceEqDiff, reduceIte, Option.isNone_none, Option.isNone_some, Bool.false_eq_true, List.length_cons, List.length_nil, Nat.reduceAdd, Nat.reduceMul]
          exact hK21.out _ _ _ k2 (Nat.lt_succ_self k2) ⟨_, _, Settled.refl, _, _, ⟨_, _, _, _, h, rfl, rfl⟩, ⟨rfl, ⟨⟨rfl, rfl⟩, ⟨⟨rfl, rfl⟩, ⟨⟨rfl, rfl⟩, ⟨⟨rfl, rfl⟩, trivial⟩⟩⟩⟩, ⟨⟨rfl, rfl⟩, trivial⟩⟩, rfl⟩
        · refine rwp_block fun K31 hK31 => ?_
          refine rwp_seq fun K32 hK32 => ?_
          refine rwp_region fun K33 hK33 => ?_
          refine st0 6336 rfl (ok (mv (.d (eI v20)))) ?_
          refine st0 6400 rfl (ok (mv (.d (eI (w64 ((1 : Int) + ((a1 % (5#8)).toNat : Int))))))) ?_
          obtain ⟨v34, h35, h⟩ := lett_inv h
          refine st0e 6464 rfl (ok (mulI _ _)) (congrArg (fun z => PV.d (eI z)) h35) ?_
          refine st0 6528 rfl (ok (mv (.d (eI v34)))) ?_
          refine hK33 _ _ ?_
          simp only [thenK, blockK, keepE, updM, List.filter_cons, List.filter_nil, List.nil_append, List.cons_append, List.map_cons, List.map_nil, envE, Mem.get, Nat.reduceEqDiff, reduceIte, Option.isNone_none, Option.isNone_some, Bool.false_eq_true, List.length_cons, List.length_nil, Nat.reduceAdd, Nat.reduceMul]
          refine hK32 _ _ _ ?_
          refine rwp_seq fun K36 hK36 => ?_
          refine rwp_region fun K37 hK37 => ?_
          refine st0 6592 rfl (ok (ld_v (v := .d (.agg [eU64 v17, eI v18, (eL 5 eTApiChallenge) v19])) rfl rfl rfl)) ?_
          refine st0 6656 rfl (ok (mv (.d (eI v34)))) ?_
          obtain ⟨y38, h39, h⟩ := bind_inv h
          refine st1 6720 rfl (mem' := [(6657, .row true 1 (y38.2.1.map eU8)), (256, .var .mine [.d (eU64 v17), .d (eI v18), .d ((eL 5 eTApiChallenge) v19)])]) (call_ok (v := .tup [.d (eTApiChallenges y38.1), .ref 6657 y38.2.1.length 0 y38.2.1.length, .d (eI y38.2.2)]) (u := [(6657, .row true 1 (y38.2.1.map eU8))]) (ar_d (eTApiChallenges (TApiChallenges.mk v17 v18 v19)) (ar_d (eI (2 : Int)) (ar_d (eS ([] : List (BitVec 8))) (ar_d (eB false) (ar_d (eI v34) ar_nil))))) rfl (challengeIssueOK (TApiChallenges.mk v17 v18 v19) (2 : Int) ([] : List (BitVec 8)) false v34 y38 h39) rfl) rfl ?_
          refine st0 6784 rfl (ok (mv (.tup [.d (eTApiChallenges y38.1), .ref 6657 y38.2.1.length 0 y38.2.1.length, .d (eI y38.2.2)]))) ?_
          refine st0 6848 rfl (ok (extr (v := .d (eTApiChallenges y38.1)) rfl rfl)) ?_
          refine st0 6912 rfl (ok (extr (v := .ref 6657 y38.2.1.length 0 y38.2.1.length) rfl rfl)) ?_
          refine st0 6976 rfl (ok (extr (v := .d (eI y38.2.2)) rfl rfl)) ?_
          refine st1 7040 rfl (mem' := [(6976, .var .mine [.d (eU64 (0#64)), .d (eI (0 : Int)), .nil 5]), (6657, .row true 1 (y38.2.1.map eU8)), (256, .var .mine [.d (eU64 v17), .d (eI v18), .d ((eL 5 eTApiChallenge) v19)])]) (ok (alc (zs := [.d (eU64 (0#64)), .d (eI (0 : Int)), .nil 5]))) rfl ?_
          refine stn 7104 rfl (mem' := [(6976, .var .mine [.d (eU64 y38.1.Secret), .d (eI y38.1.Count), .d ((eL 5 eTApiChallenge) y38.1.Open)]), (6657, .row true 1 (y38.2.1.map eU8)), (256, .var .mine [.d (eU64 v17), .d (eI v18), .d ((eL 5 eTApiChallenge) v19)])]) (ok (sto_v (ps' := [.d (eU64 y38.1.Secret), .d (eI y38.1.Count), .d ((eL 5 eTApiChallenge) y38.1.Open)]) rfl rfl rfl rfl)) rfl ?_
          refine st0 7168 rfl (ok (mv (.ref 6657 y38.2.1.length 0 y38.2.1.length))) ?_
          refine st0 7232 rfl (ok (mv (.d (eI y38.2.2)))) ?_
          refine hK37 _ _ ?_
          simp only [thenK, blockK, keepE, updM, List.filter_cons, List.filter_nil, List.nil_append, List.cons_append, List.map_cons, List.map_nil, envE, Mem.get, Nat.reduceEqDiff, reduceIte, Option.isNone_none, Option.isNone_some, Bool.false_eq_true, List.length_cons, List.length_nil, Nat.reduceAdd, Nat.reduceMul]
          refine hK36 _ _ _ ?_
          refine rwp_seq fun K40 hK40 => ?_
          refine rwp_region fun K41 hK41 => ?_
          refine st0 7296 rfl (ok (mv (.d (eI (0 : Int))))) ?_
          refine hK41 _ _ ?_
          simp only [thenK, blockK, keepE, updM, List.filter_cons, List.filter_nil, List.nil_append, List.cons_append, List.map_cons, List.map_nil, envE, Mem.get, Nat.reduceEqDiff, reduceIte, Option.isNone_none, Option.isNone_some, Bool.false_eq_true, List.length_cons, List.length_nil, Nat.reduceAdd, Nat.reduceMul]
          refine hK40 _ _ _ ?_
          refine rwp_join ([], []) 9216 (fun env mem => ∃ (v42 : Int), passkeylaw29ChallengeFullJ4 (passkeylaw29ChallengeFullL2 a1 a2 k2) v20 y38 v42 = some res ∧ env = [(2, .d (eU8 a2)), (7, .ptr 256 0), (8, .d (eI (w64 ((1 : Int) + ((a1 % (5#8)).toNat : Int))))), (9, .d (eI v20)), (11, .ptr 6976 0), (13, .d (eI y38.2.2)), (14, .d (eI v42))] ∧ mem = [(256, .var .mine [.d (eU64 v17), .d (eI v18), .d ((eL 5 eTApiChallenge) v19)]), (6976, .var .mine [.d (eU64 y38.1.Secret), .d (eI y38.1.Count), .d ((eL 5 eTApiChallenge) y38.1.Open)])]) (fun _ _ hI => ?_) (fun K43 hK43 => ?_)
          · obtain ⟨v42, h, rfl, rfl⟩ := hI
            unfold passkeylaw29ChallengeFullJ4 at h
            refine rwp_seq fun K44 hK44 => ?_
            refine rwp_join ([], []) 10496 (fun env mem => ∃ (v45 : Bool), passkeylaw29ChallengeFullJ5 (passkeylaw29ChallengeFullL2 a1 a2 k2) v20 y38 v45 = some res ∧ env = [(2, .d (eU8 a2)), (7, .ptr 256 0), (8, .d (eI (w64 ((1 : Int) + ((a1 % (5#8)).toNat : Int))))), (9, .d (eI v20)), (11, .ptr 6976 0), (76, .d (eB v45))] ∧ mem = [(256, .var .mine [.d (eU64 v17), .d (eI v18), .d ((eL 5 eTApiChallenge) v19)]), (6976, .var .mine [.d (eU64 y38.1.Secret), .d (eI y38.1.Count), .d ((eL 5 eTApiChallenge) y38.1.Open)])]) (fun _ _ hI => ?_) (fun K46 hK46 => ?_)
            · obtain ⟨v45, h, rfl, rfl⟩ := hI
              unfold passkeylaw29ChallengeFullJ5 at h
              rcases Bool.eq_false_or_eq_true (v45) with h47 | h47
              · replace h := ite_t h h47
                refine rwp_t (isT h47) ?_
                refine rwp_seq fun K48 hK48 => ?_
                refine rwp_region fun K49 hK49 => ?_
                refine st0 10560 rfl (ok (mv (.d (eB false)))) ?_
                refine hK49 _ _ ?_
                simp only [thenK, blockK, keepE, updM, List.filter_cons, List.filter_nil, List.nil_append, List.cons_append, List.map_cons, List.map_nil, envE, Mem.get, Nat.reduceEqDiff, reduceIte, Option.isNone_none, Option.isNone_some, Bool.false_eq_true, List.length_cons, List.length_nil, Nat.reduceAdd, Nat.reduceMul]
                refine hK48 _ _ _ ?_
                refine rwp_ret ?_
                obtain rfl := Option.some.inj h
                try simp only [thenK, blockK, reduceIte]
                exact Or.inl (end_ok trivial (rs_t (v := .d (eB false)) rfl rs_nil) (en_d (to_d _) en_nil) ou_nil (by first | exact eok rfl rfl rfl rfl trivial | (refine eok ?_ ?_ ?_ ?_ ?_ <;> first | rfl | exact trivial | simp [retM, Mem.get, PV.renL, PV.ren, Blk.ren, comps, rhoR, rhoM, appN, PV.refsL, PV.refs, keys, nodupB, Blk.refs, allIn, Blk.bor])))
              · replace h := ite_f h h47
                refine rwp_f (isF h47) ?_
                refine rwp_skip ?_
                refine hK44 _ _ _ ?_
                refine rwp_region fun K50 hK50 => ?_
                refine st0 10560 rfl (ok (ld_v (v := .d (.agg [eU64 y38.1.Secret, eI y38.1.Count, (eL 5 eTApiChallenge) y38.1.Open])) rfl rfl rfl)) ?_
                refine stn 10624 rfl (mem' := [(256, .var .mine [.d (eU64 y38.1.Secret), .d (eI y38.1.Count), .d ((eL 5 eTApiChallenge) y38.1.Open)]), (6976, .var .mine [.d (eU64 y38.1.Secret), .d (eI y38.1.Count), .d ((eL 5 eTApiChallenge) y38.1.Open)])]) (ok (sto_v (ps' := [.d (eU64 y38.1.Secret), .d (eI y38.1.Count), .d ((eL 5 eTApiChallenge) y38.1.Open)]) rfl rfl rfl rfl)) rfl ?_
                refine hK50 _ _ ?_
                simp only [thenK, blockK, keepE, updM, List.filter_cons, List.filter_nil, List.nil_append, List.cons_append, List.map_cons, List.map_nil, envE, Mem.get, Nat.reduceEqDiff, reduceIte, Option.isNone_none, Option.isNone_some, Bool.false_eq_true, List.length_cons, List.length_nil, Nat.reduceAdd, Nat.reduceMul]
                refine hK31 _ _ _ ?_
                exact hK29 _ _ _ ⟨_, _, Settled.refl, _, _, ⟨_, _, _, h, rfl, rfl⟩, ⟨rfl, ⟨⟨rfl, rfl⟩, ⟨⟨rfl, rfl⟩, ⟨⟨rfl, rfl⟩, ⟨⟨rfl, rfl⟩, trivial⟩⟩⟩⟩, ⟨⟨rfl, rfl⟩, trivial⟩⟩, rfl⟩
            · refine rwp_region fun K51 hK51 => ?_
              refine st0 9280 rfl (ok (mv (.d (eI y38.2.2)))) ?_
              refine st0 9344 rfl (ok (eqlI _ (0 : Int))) ?_
              refine st0 9408 rfl (ok (mv (.d (eI v42)))) ?_
              refine st0 9472 rfl (ok (lssI _ (32 : Int))) ?_
              refine st0 9536 rfl (ok (neqB _ _)) ?_
              refine st0 9600 rfl (ok (mv (.d (eB (!((y38.2.2 == (0 : Int)) == (decide (v42 < (32 : Int))))))))) ?_
              rcases Bool.eq_false_or_eq_true ((!((y38.2.2 == (0 : Int)) == (decide (v42 < (32 : Int)))))) with h52 | h52
              · replace h := ite_t h h52
                refine stGN 9664 rfl rfl h52 ?_
                refine stGN 9728 rfl rfl h52 ?_
                refine stGN 9792 rfl rfl h52 ?_
                refine stGS 9856 rfl rfl ?_
                refine stGS 9920 rfl rfl ?_
                refine stGN 9984 rfl rfl h52 ?_
                refine st0 10048 rfl (ok (pick_t h52 (.d (eB true)) _)) ?_
                refine st0 10112 rfl (ok (mv (.d (eB true)))) ?_
                refine stGN 10176 rfl rfl rfl ?_
                refine stGN 10240 rfl rfl rfl ?_
                refine stGN 10304 rfl rfl rfl ?_
                refine stGN 10368 rfl rfl rfl ?_
                refine st0 10432 rfl (ok (pick_t rfl (.d (eB true)) _)) ?_
                refine hK51 _ _ ?_
                simp only [thenK, blockK, keepE, updM, List.filter_cons, List.filter_nil, List.nil_append, List.cons_append, List.map_cons, List.map_nil, envE, Mem.get, Nat.reduceEqDiff, reduceIte, Option.isNone_none, Option.isNone_some, Bool.false_eq_true, List.length_cons, List.length_nil, Nat.reduceAdd, Nat.reduceMul]
                exact hK46 _ _ _ ⟨_, _, Settled.refl, _, _, ⟨_, h, rfl, rfl⟩, ⟨rfl, ⟨⟨rfl, rfl⟩, ⟨⟨rfl, rfl⟩, ⟨⟨rfl, rfl⟩, ⟨⟨rfl, rfl⟩, ⟨⟨rfl, rfl⟩, ⟨⟨rfl, rfl⟩, trivial⟩⟩⟩⟩⟩⟩, ⟨⟨rfl, rfl⟩, ⟨⟨rfl, rfl⟩, trivial⟩⟩⟩, rfl⟩
              · replace h := ite_f h h52
                refine stG (isF h52) ?_
                refine st0 9664 rfl (ok (mv (.d (eI y38.2.2)))) ?_
                refine stG (isF h52) ?_
                refine st0 9728 rfl (ok (neqI _ (0 : Int))) ?_
                refine stG (isF h52) ?_
                refine st0 9792 rfl (ok (mv (.d (eB (y38.2.2 != (0 : Int)))))) ?_
                rcases Bool.eq_false_or_eq_true ((y38.2.2 != (0 : Int))) with h53 | h53
                · replace h := ite_t h h53
                  refine stG (isT h53) ?_
                  refine st0 9856 rfl (ok (mv (.d (eI y38.2.2)))) ?_
                  refine stG (isT h53) ?_
                  refine st0 9920 rfl (ok (neqI _ (12 : Int))) ?_
                  refine stG (isF h52) ?_
                  refine st0 9984 rfl (ok (pick_t h53 (.d (eB (y38.2.2 != (12 : Int)))) _)) ?_
                  refine st0 10048 rfl (ok (pick_f h52 _ (.d (eB (y38.2.2 != (12 : Int)))))) ?_
                  refine st0 10112 rfl (ok (mv (.d (eB (y38.2.2 != (12 : Int)))))) ?_
                  rcases Bool.eq_false_or_eq_true ((y38.2.2 != (12 : Int))) with h54 | h54
                  · replace h := ite_t h h54
                    refine stGN 10176 rfl rfl h54 ?_
                    refine stGN 10240 rfl rfl h54 ?_
                    refine stGN 10304 rfl rfl h54 ?_
                    refine stGN 10368 rfl rfl h54 ?_
                    refine st0 10432 rfl (ok (pick_t h54 (.d (eB true)) _)) ?_
                    refine hK51 _ _ ?_
                    simp only [thenK, blockK, keepE, updM, List.filter_cons, List.filter_nil, List.nil_append, List.cons_append, List.map_cons, List.map_nil, envE, Mem.get, Nat.reduceEqDiff, reduceIte, Option.isNone_none, Option.isNone_some, Bool.false_eq_true, List.length_cons, List.length_nil, Nat.reduceAdd, Nat.reduceMul]
                    exact hK46 _ _ _ ⟨_, _, Settled.refl, _, _, ⟨_, h, rfl, rfl⟩, ⟨rfl, ⟨⟨rfl, rfl⟩, ⟨⟨rfl, rfl⟩, ⟨⟨rfl, rfl⟩, ⟨⟨rfl, rfl⟩, ⟨⟨rfl, rfl⟩, ⟨⟨rfl, rfl⟩, trivial⟩⟩⟩⟩⟩⟩, ⟨⟨rfl, rfl⟩, ⟨⟨rfl, rfl⟩, trivial⟩⟩⟩, rfl⟩
                  · replace h := ite_f h h54
                    refine stG (isF h54) ?_
                    refine st0 10176 rfl (ok (fa_k 2 rfl)) ?_
                    refine stG (isF h54) ?_
                    refine st0 10240 rfl (ok (ld_v (v := .d ((eL 5 eTApiChallenge) y38.1.Open)) rfl rfl rfl)) ?_
                    refine stG (isF h54) ?_
                    refine st0 10304 rfl (ok (lenL _ _)) ?_
                    refine stG (isF h54) ?_
                    refine st0 10368 rfl (ok (gtrI _ (32 : Int))) ?_
                    refine st0 10432 rfl (ok (pick_f h54 _ (.d (eB (decide ((32 : Int) < (y38.1.Open.length : Int))))))) ?_
                    refine hK51 _ _ ?_
                    simp only [thenK, blockK, keepE, updM, List.filter_cons, List.filter_nil, List.nil_append, List.cons_append, List.map_cons, List.map_nil, envE, Mem.get, Nat.reduceEqDiff, reduceIte, Option.isNone_none, Option.isNone_some, Bool.false_eq_true, List.length_cons, List.length_nil, Nat.reduceAdd, Nat.reduceMul]
                    exact hK46 _ _ _ ⟨_, _, Settled.refl, _, _, ⟨_, h, rfl, rfl⟩, ⟨rfl, ⟨⟨rfl, rfl⟩, ⟨⟨rfl, rfl⟩, ⟨⟨rfl, rfl⟩, ⟨⟨rfl, rfl⟩, ⟨⟨rfl, rfl⟩, ⟨⟨rfl, rfl⟩, trivial⟩⟩⟩⟩⟩⟩, ⟨⟨rfl, rfl⟩, ⟨⟨rfl, rfl⟩, trivial⟩⟩⟩, rfl⟩
                · replace h := ite_f h h53
                  refine stGN 9856 rfl rfl h53 ?_
                  refine stGN 9920 rfl rfl h53 ?_
                  refine stG (isF h52) ?_
                  refine st0 9984 rfl (ok (pick_f h53 _ (.d (eB false)))) ?_
                  refine st0 10048 rfl (ok (pick_f h52 _ (.d (eB false)))) ?_
                  refine st0 10112 rfl (ok (mv (.d (eB false)))) ?_
                  refine stG rfl ?_
                  refine st0 10176 rfl (ok (fa_k 2 rfl)) ?_
                  refine stG rfl ?_
                  refine st0 10240 rfl (ok (ld_v (v := .d ((eL 5 eTApiChallenge) y38.1.Open)) rfl rfl rfl)) ?_
                  refine stG rfl ?_
                  refine st0 10304 rfl (ok (lenL _ _)) ?_
                  refine stG rfl ?_
                  refine st0 10368 rfl (ok (gtrI _ (32 : Int))) ?_
                  refine st0 10432 rfl (ok (pick_f rfl _ (.d (eB (decide ((32 : Int) < (y38.1.Open.length : Int))))))) ?_
                  refine hK51 _ _ ?_
                  simp only [thenK, blockK, keepE, updM, List.filter_cons, List.filter_nil, List.nil_append, List.cons_append, List.map_cons, List.map_nil, envE, Mem.get, Nat.reduceEqDiff, reduceIte, Option.isNone_none, Option.isNone_some, Bool.false_eq_true, List.length_cons, List.length_nil, Nat.reduceAdd, Nat.reduceMul]
                  exact hK46 _ _ _ ⟨_, _, Settled.refl, _, _, ⟨_, h, rfl, rfl⟩, ⟨rfl, ⟨⟨rfl, rfl⟩, ⟨⟨rfl, rfl⟩, ⟨⟨rfl, rfl⟩, ⟨⟨rfl, rfl⟩, ⟨⟨rfl, rfl⟩, ⟨⟨rfl, rfl⟩, trivial⟩⟩⟩⟩⟩⟩, ⟨⟨rfl, rfl⟩, ⟨⟨rfl, rfl⟩, trivial⟩⟩⟩, rfl⟩
          · refine rwp_seq fun K55 hK55 => ?_
            refine rwp_region fun K56 hK56 => ?_
            refine st0 7360 rfl (ok (mv (.d (eI (0 : Int))))) ?_
            refine hK56 _ _ ?_
            simp only [thenK, blockK, keepE, updM, List.filter_cons, List.filter_nil, List.nil_append, List.cons_append, List.map_cons, List.map_nil, envE, Mem.get, Nat.reduceEqDiff, reduceIte, Option.isNone_none, Option.isNone_some, Bool.false_eq_true, List.length_cons, List.length_nil, Nat.reduceAdd, Nat.reduceMul]
            refine hK55 _ _ _ ?_
            refine rwp_block fun K57 hK57 => ?_
            refine rwp_loop ([], []) 8832 (fun k env mem => ∃ (v58 : Int) (v59 : Int), passkeylaw29ChallengeFullL6 (passkeylaw29ChallengeFullL2 a1 a2 k2) v19 v20 v34 y38 k v58 v59 = some res ∧ env = [(2, .d (eU8 a2)), (7, .ptr 256 0), (8, .d (eI (w64 ((1 : Int) + ((a1 % (5#8)).toNat : Int))))), (9, .d (eI v20)), (10, .d (eI v34)), (11, .ptr 6976 0), (13, .d (eI y38.2.2)), (14, .d (eI v58)), (15, .d (eI v59))] ∧ mem = [(256, .var .mine [.d (eU64 v17), .d (eI v18), .d ((eL 5 eTApiChallenge) v19)]), (6976, .var .mine [.d (eU64 y38.1.Secret), .d (eI y38.1.Count), .d ((eL 5 eTApiChallenge) y38.1.Open)])]) FUEL ⟨_, _, Settled.refl, _, _, ⟨_, _, h, rfl, rfl⟩, ⟨rfl, ⟨⟨rfl, rfl⟩, ⟨⟨rfl, rfl⟩, ⟨⟨rfl, rfl⟩, ⟨⟨rfl, rfl⟩, ⟨⟨rfl, rfl⟩, ⟨⟨rfl, rfl⟩, ⟨⟨rfl, rfl⟩, ⟨⟨rfl, rfl⟩, ⟨⟨rfl, rfl⟩, trivial⟩⟩⟩⟩⟩⟩⟩⟩⟩, ⟨⟨rfl, rfl⟩, ⟨⟨rfl, rfl⟩, trivial⟩⟩⟩, rfl⟩ (fun k6 env1 mem1 hI K60 hK60 => ?_)
            obtain ⟨v58, v59, h, rfl, rfl⟩ := hI
            cases k6 with
            | zero => simp [passkeylaw29ChallengeFullL6] at h
            | succ k6 =>
              rw [passkeylaw29ChallengeFullL6] at h
              refine rwp_seq fun K61 hK61 => ?_
              refine rwp_seq fun K62 hK62 => ?_
              refine rwp_region fun K63 hK63 => ?_
              refine st0 8896 rfl (ok (mv (.d (eI v59)))) ?_
              refine st0 8960 rfl (ok (fa_k 2 rfl)) ?_
              refine st0 9024 rfl (ok (ld_v (v := .d ((eL 5 eTApiChallenge) v19)) rfl rfl rfl)) ?_
              refine st0 9088 rfl (ok (lenL _ _)) ?_
              refine st0 9152 rfl (ok (lssI _ _)) ?_
              refine hK63 _ _ ?_
              simp only [thenK, blockK, keepE, updM, List.filter_cons, List.filter_nil, List.nil_append, List.cons_append, List.map_cons, List.map_nil, envE, Mem.get, Nat.reduceEqDiff, reduceIte, Option.isNone_none, Option.isNone_some, Bool.false_eq_true, List.length_cons, List.length_nil, Nat.reduceAdd, Nat.reduceMul]
              refine hK62 _ _ _ ?_
              rcases Bool.eq_false_or_eq_true ((decide (v59 < (v19.length : Int)))) with h64 | h64
              · replace h := ite_t h h64
                refine rwp_t (isT h64) ?_
                refine rwp_skip ?_
                refine hK61 _ _ _ ?_
                refine rwp_join ([], []) 9984 (fun env mem => ∃ (v65 : Int), passkeylaw29ChallengeFullJ7 (passkeylaw29ChallengeFullL6 (passkeylaw29ChallengeFullL2 a1 a2 k2) v19 v20 v34 y38 k6) v59 v65 = some res ∧ env = [(2, .d (eU8 a2)), (7, .ptr 256 0), (8, .d (eI (w64 ((1 : Int) + ((a1 % (5#8)).toNat : Int))))), (9, .d (eI v20)), (10, .d (eI v34)), (11, .ptr 6976 0), (13, .d (eI y38.2.2)), (14, .d (eI v65)), (15, .d (eI v59))] ∧ mem = [(256, .var .mine [.d (eU64 v17), .d (eI v18), .d ((eL 5 eTApiChallenge) v19)]), (6976, .var .mine [.d (eU64 y38.1.Secret), .d (eI y38.1.Count), .d ((eL 5 eTApiChallenge) y38.1.Open)])]) (fun _ _ hI => ?_) (fun K66 hK66 => ?_)
                · obtain ⟨v65, h, rfl, rfl⟩ := hI
                  unfold passkeylaw29ChallengeFullJ7 at h
                  refine rwp_region fun K67 hK67 => ?_
                  refine st0 10048 rfl (ok (mv (.d (eI v59)))) ?_
                  refine st0 10112 rfl (ok (addI _ (1 : Int))) ?_
                  refine st0 10176 rfl (ok (mv (.d (eI (w64 (v59 + (1 : Int))))))) ?_
                  refine hK67 _ _ ?_
                  simp only [thenK, blockK, keepE, updM, List.filter_cons, List.filter_nil, List.nil_append, List.cons_append, List.map_cons, List.map_nil, envE, Mem.get, Nat.reduceEqDiff, reduceIte, Option.isNone_none, Option.isNone_some, Bool.false_eq_true, List.length_cons, List.length_nil, Nat.reduceAdd, Nat.reduceMul]
                  exact hK60.out _ _ _ k6 (Nat.lt_succ_self k6) ⟨_, _, Settled.refl, _, _, ⟨_, _, h, rfl, rfl⟩, ⟨rfl, ⟨⟨rfl, rfl⟩, ⟨⟨rfl, rfl⟩, ⟨⟨rfl, rfl⟩, ⟨⟨rfl, rfl⟩, ⟨⟨rfl, rfl⟩, ⟨⟨rfl, rfl⟩, ⟨⟨rfl, rfl⟩, ⟨⟨rfl, rfl⟩, ⟨⟨rfl, rfl⟩, trivial⟩⟩⟩⟩⟩⟩⟩⟩⟩, ⟨⟨rfl, rfl⟩, ⟨⟨rfl, rfl⟩, trivial⟩⟩⟩, rfl⟩
                · refine rwp_block fun K68 hK68 => ?_
                  refine rwp_seq fun K69 hK69 => ?_
                  refine rwp_region fun K70 hK70 => ?_
                  refine st0 9216 rfl (ok (mv (.d (eI v34)))) ?_
                  refine st0 9280 rfl (ok (fa_k 2 rfl)) ?_
                  refine st0 9344 rfl (ok (ld_v (v := .d ((eL 5 eTApiChallenge) v19)) rfl rfl rfl)) ?_
                  refine st0 9408 rfl (ok (mv (.d (eI v59)))) ?_
                  obtain ⟨h71, h⟩ := asq_inv h
                  refine st0 9472 rfl (ok (iaL (e := eTApiChallenge) (xs := v19) (TApiChallenge.mk (0 : Int) (0 : Int) ([] : List (BitVec 8)) false (0 : Int)) h71)) ?_
                  refine st0 9536 rfl (ok fa_iptr) ?_
                  refine st0 9600 rfl (ok (ld_i (v := eI ((v19.getD v59.toNat (TApiChallenge.mk (0 : Int) (0 : Int) ([] : List (BitVec 8)) false (0 : Int))).Since)) rfl rfl)) ?_
                  obtain ⟨v72, h73, h⟩ := lett_inv h
                  refine st0e 9664 rfl (ok (subI _ _)) (congrArg (fun z => PV.d (eI z)) h73) ?_
                  refine st0 9728 rfl (ok (leqI _ (60 : Int))) ?_
                  refine hK70 _ _ ?_
                  simp only [thenK, blockK, keepE, updM, List.filter_cons, List.filter_nil, List.nil_append, List.cons_append, List.map_cons, List.map_nil, envE, Mem.get, Nat.reduceEqDiff, reduceIte, Option.isNone_none, Option.isNone_some, Bool.false_eq_true, List.length_cons, List.length_nil, Nat.reduceAdd, Nat.reduceMul]
                  refine hK69 _ _ _ ?_
                  rcases Bool.eq_false_or_eq_true ((decide (v72 ≤ (60 : Int)))) with h74 | h74
                  · replace h := ite_t h h74
                    refine rwp_t (isT h74) ?_
                    refine rwp_region fun K75 hK75 => ?_
                    refine st0 9792 rfl (ok (mv (.d (eI v58)))) ?_
                    refine st0 9856 rfl (ok (addI _ (1 : Int))) ?_
                    refine st0 9920 rfl (ok (mv (.d (eI (w64 (v58 + (1 : Int))))))) ?_
                    refine hK75 _ _ ?_
                    simp only [thenK, blockK, keepE, updM, List.filter_cons, List.filter_nil, List.nil_append, List.cons_append, List.map_cons, List.map_nil, envE, Mem.get, Nat.reduceEqDiff, reduceIte, Option.isNone_none, Option.isNone_some, Bool.false_eq_true, List.length_cons, List.length_nil, Nat.reduceAdd, Nat.reduceMul]
                    refine hK68 _ _ _ ?_
                    exact hK66 _ _ _ ⟨_, _, Settled.refl, _, _, ⟨_, h, rfl, rfl⟩, ⟨rfl, ⟨⟨rfl, rfl⟩, ⟨⟨rfl, rfl⟩, ⟨⟨rfl, rfl⟩, ⟨⟨rfl, rfl⟩, ⟨⟨rfl, rfl⟩, ⟨⟨rfl, rfl⟩, ⟨⟨rfl, rfl⟩, ⟨⟨rfl, rfl⟩, ⟨⟨rfl, rfl⟩, trivial⟩⟩⟩⟩⟩⟩⟩⟩⟩, ⟨⟨rfl, rfl⟩, ⟨⟨rfl, rfl⟩, trivial⟩⟩⟩, rfl⟩
                  · replace h := ite_f h h74
                    refine rwp_f (isF h74) ?_
                    refine rwp_skip ?_
                    refine hK68 _ _ _ ?_
                    exact hK66 _ _ _ ⟨_, _, Settled.refl, _, _, ⟨_, h, rfl, rfl⟩, ⟨rfl, ⟨⟨rfl, rfl⟩, ⟨⟨rfl, rfl⟩, ⟨⟨rfl, rfl⟩, ⟨⟨rfl, rfl⟩, ⟨⟨rfl, rfl⟩, ⟨⟨rfl, rfl⟩, ⟨⟨rfl, rfl⟩, ⟨⟨rfl, rfl⟩, ⟨⟨rfl, rfl⟩, trivial⟩⟩⟩⟩⟩⟩⟩⟩⟩, ⟨⟨rfl, rfl⟩, ⟨⟨rfl, rfl⟩, trivial⟩⟩⟩, rfl⟩
              · replace h := ite_f h h64
                refine rwp_f (isF h64) ?_
                refine rwp_exit ?_
                refine hK57 _ _ _ ?_
                exact hK43 _ _ _ ⟨_, _, Settled.refl, _, _, ⟨_, h, rfl, rfl⟩, ⟨rfl, ⟨⟨rfl, rfl⟩, ⟨⟨rfl, rfl⟩, ⟨⟨rfl, rfl⟩, ⟨⟨rfl, rfl⟩, ⟨⟨rfl, rfl⟩, ⟨⟨rfl, rfl⟩, ⟨⟨rfl, rfl⟩, trivial⟩⟩⟩⟩⟩⟩⟩, ⟨⟨rfl, rfl⟩, ⟨⟨rfl, rfl⟩, trivial⟩⟩⟩, rfl⟩
      · replace h := ite_f h h25
        refine rwp_f (isF h25) ?_
        refine rwp_exit ?_
        refine hK16 _ _ _ ?_
        exact hK9 _ _ _ ⟨_, _, Settled.refl, _, _, ⟨h, rfl, rfl⟩, ⟨rfl, trivial, trivial⟩, rfl⟩

end Go.Proofs.Ty
