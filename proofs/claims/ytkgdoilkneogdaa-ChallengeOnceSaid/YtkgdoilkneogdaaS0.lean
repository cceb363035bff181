/- Each Go function comes to what its plain function says. PRINTED by a program of this session (ty.py). -/
import Derived.Test.YtkgdoilkneogdaaProg
import Derived.Test.YtkgdoilkneogdaaF
import Derived.KernelRfl
set_option linter.unusedVariables false
set_option linter.unusedSimpArgs false
set_option maxHeartbeats 4000000
set_option maxRecDepth 10000
namespace Go.Proofs.Ty
open Go Go.RW Go.Proofs
theorem fm : Try.prog.follows .mixedOrders = true := by kernel_rfl
/-- passkey/challenge.New -/
def challengeNewH : Hints := ⟨[(0, [0, 2]), (1, [2])], []⟩
def challengeNewRc : RCode :=
  .seq (.region false [⟨some 2, .alloc [.d (.int .u64 0), .d (.int .i64 0), .nil 5], [], none, []⟩] [0, 2]) (.seq (.region false [⟨some 3, .mv, [.t 0], none, []⟩, ⟨some 4, .build [.d
  (.int .u64 0), .d (.int .i64 0), .nil 5] [(0, 1)], [.t 3], none, []⟩, ⟨none, .store 3, [.t 2, .t 4], none, []⟩] [2]) .ret)
def challengeNewRr : List RR := [.c 2 3 true]
theorem challengeNewC : compFn Try.prog 9 challengeNewH = some (challengeNewRc, challengeNewRr, 5) := by kernel_rfl
theorem challengeNewOK (a0 : BitVec 64) (res : TApiChallenges) (h : challengeNew a0 = some res) : CallOK Try.prog 9 [.d (eU64 a0)] [] (.d (eTApiChallenges res)) [] := by
  unfold challengeNew at h
  refine callOK challengeNewC fm rfl ?_
  simp only [initE, initM, nbor, List.map_cons, List.map_nil, Nat.reduceAdd]
  unfold challengeNewRc
  refine rwp_seq fun K1 hK1 => ?_
  refine rwp_region fun K2 hK2 => ?_
  refine st1 128 rfl (mem' := [(64, .var .mine [.d (eU64 (0#64)), .d (eI (0 : Int)), .nil 5])]) (ok (alc (zs := [.d (eU64 (0#64)), .d (eI (0 : Int)), .nil 5]))) rfl ?_
  refine hK2 _ _ ?_
  simp only [thenK, blockK, keepE, updM, List.filter_cons, List.filter_nil, List.nil_append, List.cons_append, List.map_cons, List.map_nil, envE, Mem.get, Nat.reduceEqDiff, reduceIte, Option.isNone_none, Option.isNone_some, Bool.false_eq_true, List.length_cons, List.length_nil, Nat.reduceAdd, Nat.reduceMul]
  refine hK1 _ _ _ ?_
  refine rwp_seq fun K3 hK3 => ?_
  refine rwp_region fun K4 hK4 => ?_
  refine st0 192 rfl (ok (mv (.d (eU64 a0)))) ?_
  refine st0 256 rfl (ok (bld (v := .agg [.d (eU64 a0), .d (eI (0 : Int)), .nil 5]) rfl rfl)) ?_
  refine stn 320 rfl (mem' := [(64, .var .mine [.d (eU64 a0), .d (eI (0 : Int)), .nil 5])]) (ok (sto_v (ps' := [.d (eU64 a0), .d (eI (0 : Int)), .nil 5]) rfl rfl rfl rfl)) rfl ?_
  refine hK4 _ _ ?_
  simp only [thenK, blockK, keepE, updM, List.filter_cons, List.filter_nil, List.nil_append, List.cons_append, List.map_cons, List.map_nil, envE, Mem.get, Nat.reduceEqDiff, reduceIte, Option.isNone_none, Option.isNone_some, Bool.false_eq_true, List.length_cons, List.length_nil, Nat.reduceAdd, Nat.reduceMul]
  refine hK3 _ _ _ ?_
  refine rwp_ret ?_
  obtain rfl := Option.some.inj h
  try simp only [thenK, blockK, reduceIte]
  exact Or.inl (end_ok trivial (rs_c (id := 64) (off := 0) (v := .agg [.d (eU64 a0), .d (eI (0 : Int)), .nil 5]) rfl rfl rfl rfl rs_nil) (en_d (to_agg (ds_d _ (ds_d _ (ds_n eTApiChallenge ds_nil))) (x := eTApiChallenges (TApiChallenges.mk a0 (0 : Int) ([] : List (TApiChallenge)))) rfl) en_nil) ou_nil (by first | exact eok rfl rfl rfl rfl trivial | (refine eok ?_ ?_ ?_ ?_ ?_ <;> first | rfl | exact trivial | simp [retM, Mem.get, PV.renL, PV.ren, Blk.ren, comps, rhoR, rhoM, appN, PV.refsL, PV.refs, keys, nodupB, Blk.refs, allIn, Blk.bor])))

/-- passkey/challenge.Expire -/
def challengeExpireH : Hints := ⟨[(0, [1, 2, 4]), (1, [1, 2, 4, 5]), (2, [1, 4, 5, 14, 15, 16]), (3, [1, 4, 5, 14, 15, 16, 17]), (4, [1, 4, 5, 7, 14, 15, 16]), (5, [1, 4, 5, 7, 14, 15, 16, 32]), (6, [1, 4, 5, 14, 15, 16]), (7, [1, 4, 5, 14, 15, 16]), (8, [4])], []⟩
def challengeExpireRc : RCode :=
  .seq (.region false [⟨some 2, .box, [.t 0], none, []⟩, ⟨some 4, .alloc [.d (.int .u64 0), .d (.int .i64 0), .nil 5], [], none, []⟩] [1, 2, 4]) (.seq (.region false [⟨some 8, .fa 0,
  [.t 2], none, []⟩, ⟨some 9, .load 1 false, [.t 8], none, []⟩, ⟨some 10, .fa 1, [.t 2], none, []⟩, ⟨some 11, .load 1 false, [.t 10], none, []⟩, ⟨some 12, .build [.d (.int .u64 0),
  .d (.int .i64 0), .nil 5] [(0, 1), (1, 1)], [.t 9, .t 11], none, []⟩, ⟨some 5, .alloc [.d (.int .u64 0), .d (.int .i64 0), .nil 5], [], none, []⟩, ⟨none, .store 3, [.t 5, .t 12],
  none, []⟩] [1, 2, 4, 5]) (.seq (.seq (.region false [⟨some 13, .fa 2, [.t 2], none, []⟩, ⟨some 14, .load 1 false, [.t 13], none, []⟩, ⟨some 15, .len, [.t 14], none, []⟩, ⟨some
  16, .mv, [.k (.d (.int .i64 0))], none, []⟩] [1, 4, 5, 14, 15, 16]) (.block 0 (.loop [] (.seq (.region false [⟨some 17, .bin .lss, [.t 16, .t 15], none, []⟩] [1, 4, 5, 14, 15,
  16, 17]) (.seq (.cond (.t 17) .skip (.exit 0)) (.seq (.block 1 (.seq (.region false [⟨some 18, .ia 5, [.t 14, .t 16], none, []⟩, ⟨some 19, .load 5 true, [.t 18], none, []⟩, ⟨some
  7, .alloc [.d (.int .i64 0), .d (.int .i64 0), .d (.str ⟨#[]⟩), .d (.bool false), .d (.int .i64 0)], [], none, []⟩, ⟨none, .store 5, [.t 7, .t 19], none, []⟩] [1, 4, 5, 7, 14,
  15, 16]) (.seq (.region false [⟨some 20, .mv, [.t 1], none, []⟩, ⟨some 21, .bin .lss, [.t 20, .k (.d (.int .i64 0))], none, []⟩, ⟨some 22, .mv, [.t 21], none, []⟩, ⟨some 23, .mv,
  [.t 1], some (22, false), []⟩, ⟨some 24, .bin .gtr, [.t 23, .k (.d (.int .i64 1099511627776))], some (22, false), []⟩, ⟨some 25, .pick, [.t 22, .k (.d (.bool true)), .t 24],
  none, []⟩, ⟨some 26, .mv, [.t 25], none, []⟩, ⟨some 27, .mv, [.t 1], some (26, false), []⟩, ⟨some 28, .fa 4, [.t 7], some (26, false), []⟩, ⟨some 29, .load 1 false, [.t 28], some
  (26, false), []⟩, ⟨some 30, .bin .sub, [.t 27, .t 29], some (26, false), []⟩, ⟨some 31, .bin .leq, [.t 30, .k (.d (.int .i64 60))], some (26, false), []⟩, ⟨some 32, .pick, [.t
  26, .k (.d (.bool true)), .t 31], none, []⟩] [1, 4, 5, 7, 14, 15, 16, 32]) (.cond (.t 32) (.region false [⟨some 33, .fa 2, [.t 5], none, []⟩, ⟨some 34, .load 1 false, [.t 33],
  none, []⟩, ⟨some 35, .load 5 true, [.t 7], none, []⟩, ⟨some 36, .bslice 5 true 1 [.d (.int .i64 0), .d (.int .i64 0), .d (.str ⟨#[]⟩), .d (.bool false), .d (.int .i64 0)] [0],
  [.t 35], none, []⟩, ⟨some 37, .app 5 2932031007402, [.t 34, .t 36], none, []⟩, ⟨some 38, .fa 2, [.t 5], none, []⟩, ⟨none, .store 1, [.t 38, .t 37], none, []⟩] [1, 4, 5, 14, 15,
  16]) .skip)))) (.region false [⟨some 39, .bin .add, [.t 16, .k (.d (.int .i64 1))], none, []⟩, ⟨some 16, .mv, [.t 39], none, []⟩] [1, 4, 5, 14, 15, 16]))))))) (.seq (.region
  false [⟨some 40, .load 3 true, [.t 5], none, []⟩, ⟨none, .store 3, [.t 4, .t 40], none, []⟩] [4]) .ret)))
def challengeExpireRr : List RR := [.c 4 3 true]
theorem challengeExpireC : compFn Try.prog 17 challengeExpireH = some (challengeExpireRc, challengeExpireRr, 41) := by kernel_rfl
theorem challengeExpireOwnOK (a0 : TApiChallenges) (a1 : Int) (res : TApiChallenges) (h : challengeExpireOwn a0 a1 = some res) : CallOK Try.prog 17 [.d (eTApiChallenges a0), .d (eI a1)] [] (.agg [.d (eU64 res.Secret), .d (eI res.Count), .ref 10 res.Open.length 0 res.Open.length]) [(10, .row true 5 (res.Open.map eTApiChallenge))] := by
  unfold challengeExpireOwn at h
  refine callOK challengeExpireC fm rfl ?_
  simp only [initE, initM, nbor, List.map_cons, List.map_nil, Nat.reduceAdd]
  unfold challengeExpireRc
  refine rwp_seq fun K1 hK1 => ?_
  refine rwp_region fun K2 hK2 => ?_
  refine st1 128 rfl (mem' := [(64, .var .mine [.d (eU64 a0.Secret), .d (eI a0.Count), .d ((eL 5 eTApiChallenge) a0.Open)])]) (ok (bx (ps := [.d (eU64 a0.Secret), .d (eI a0.Count), .d ((eL 5 eTApiChallenge) a0.Open)]) rfl rfl)) rfl ?_
  refine st1 192 rfl (mem' := [(128, .var .mine [.d (eU64 (0#64)), .d (eI (0 : Int)), .nil 5]), (64, .var .mine [.d (eU64 a0.Secret), .d (eI a0.Count), .d ((eL 5 eTApiChallenge) a0.Open)])]) (ok (alc (zs := [.d (eU64 (0#64)), .d (eI (0 : Int)), .nil 5]))) rfl ?_
  refine hK2 _ _ ?_
  simp only [thenK, blockK, keepE, updM, List.filter_cons, List.filter_nil, List.nil_append, List.cons_append, List.map_cons, List.map_nil, envE, Mem.get, Nat.reduceEqDiff, reduceIte, Option.isNone_none, Option.isNone_some, Bool.false_eq_true, List.length_cons, List.length_nil, Nat.reduceAdd, Nat.reduceMul]
  refine hK1 _ _ _ ?_
  refine rwp_seq fun K3 hK3 => ?_
  refine rwp_region fun K4 hK4 => ?_
  refine st0 256 rfl (ok (fa_k 0 rfl)) ?_
  refine st0 320 rfl (ok (ld_v (v := .d (eU64 a0.Secret)) rfl rfl rfl)) ?_
  refine st0 384 rfl (ok (fa_k 1 rfl)) ?_
  refine st0 448 rfl (ok (ld_v (v := .d (eI a0.Count)) rfl rfl rfl)) ?_
  refine st0 512 rfl (ok (bld (v := .agg [.d (eU64 a0.Secret), .d (eI a0.Count), .nil 5]) rfl rfl)) ?_
  refine st1 576 rfl (mem' := [(512, .var .mine [.d (eU64 (0#64)), .d (eI (0 : Int)), .nil 5]), (128, .var .mine [.d (eU64 (0#64)), .d (eI (0 : Int)), .nil 5]), (64, .var .mine [.d (eU64 a0.Secret), .d (eI a0.Count), .d ((eL 5 eTApiChallenge) a0.Open)])]) (ok (alc (zs := [.d (eU64 (0#64)), .d (eI (0 : Int)), .nil 5]))) rfl ?_
  refine stn 640 rfl (mem' := [(512, .var .mine [.d (eU64 a0.Secret), .d (eI a0.Count), .nil 5]), (128, .var .mine [.d (eU64 (0#64)), .d (eI (0 : Int)), .nil 5]), (64, .var .mine [.d (eU64 a0.Secret), .d (eI a0.Count), .d ((eL 5 eTApiChallenge) a0.Open)])]) (ok (sto_v (ps' := [.d (eU64 a0.Secret), .d (eI a0.Count), .nil 5]) rfl rfl rfl rfl)) rfl ?_
  refine hK4 _ _ ?_
  simp only [thenK, blockK, keepE, updM, List.filter_cons, List.filter_nil, List.nil_append, List.cons_append, List.map_cons, List.map_nil, envE, Mem.get, Nat.reduceEqDiff, reduceIte, Option.isNone_none, Option.isNone_some, Bool.false_eq_true, List.length_cons, List.length_nil, Nat.reduceAdd, Nat.reduceMul]
  refine hK3 _ _ _ ?_
  refine rwp_join ([], []) 3072 (fun env mem => ∃ (v5 : List (TApiChallenge)), challengeExpireOwnJ1 a0 v5 = some res ∧ env = [(4, .ptr 128 0), (5, .ptr 512 0)] ∧ mem = [(128, .var .mine [.d (eU64 (0#64)), .d (eI (0 : Int)), .nil 5]), (512, .var .mine [.d (eU64 a0.Secret), .d (eI a0.Count), .ref 2881 v5.length 0 v5.length]), (2881, .row true 5 (v5.map eTApiChallenge))]) (fun _ _ hI => ?_) (fun K6 hK6 => ?_)
  · obtain ⟨v5, h, rfl, rfl⟩ := hI
    unfold challengeExpireOwnJ1 at h
    refine rwp_seq fun K7 hK7 => ?_
    refine rwp_region fun K8 hK8 => ?_
    refine st0 3136 rfl (ok (ld_v (v := .agg [.d (eU64 a0.Secret), .d (eI a0.Count), .ref 2881 v5.length 0 v5.length]) rfl rfl rfl)) ?_
    refine stn 3200 rfl (mem' := [(128, .var .mine [.d (eU64 a0.Secret), .d (eI a0.Count), .ref 2881 v5.length 0 v5.length]), (512, .var .mine [.d (eU64 a0.Secret), .d (eI a0.Count), .ref 2881 v5.length 0 v5.length]), (2881, .row true 5 (v5.map eTApiChallenge))]) (ok (sto_v (ps' := [.d (eU64 a0.Secret), .d (eI a0.Count), .ref 2881 v5.length 0 v5.length]) rfl rfl rfl rfl)) rfl ?_
    refine hK8 _ _ ?_
    simp only [thenK, blockK, keepE, updM, List.filter_cons, List.filter_nil, List.nil_append, List.cons_append, List.map_cons, List.map_nil, envE, Mem.get, Nat.reduceEqDiff, reduceIte, Option.isNone_none, Option.isNone_some, Bool.false_eq_true, List.length_cons, List.length_nil, Nat.reduceAdd, Nat.reduceMul]
    refine hK7 _ _ _ ?_
    refine rwp_ret ?_
    obtain rfl := Option.some.inj h
    try simp only [thenK, blockK, reduceIte]
    exact Or.inl (end_ok trivial (rs_c (id := 128) (off := 0) (v := .agg [.d (eU64 a0.Secret), .d (eI a0.Count), .ref 2881 v5.length 0 v5.length]) rfl rfl rfl rfl rs_nil) (en_agg en_nil) ou_nil (by first | exact eok rfl rfl rfl rfl (And.intro (And.intro rfl rfl) trivial) | (refine eok ?_ ?_ ?_ ?_ ?_ <;> first | rfl | exact (And.intro (And.intro rfl rfl) trivial) | simp [retM, Mem.get, PV.renL, PV.ren, Blk.ren, comps, rhoR, rhoM, appN, PV.refsL, PV.refs, keys, nodupB, Blk.refs, allIn, Blk.bor])))
  · refine rwp_seq fun K9 hK9 => ?_
    refine rwp_region fun K10 hK10 => ?_
    refine st0 704 rfl (ok (fa_k 2 rfl)) ?_
    refine st0 768 rfl (ok (ld_v (v := .d ((eL 5 eTApiChallenge) a0.Open)) rfl rfl rfl)) ?_
    refine st0 832 rfl (ok (lenL _ _)) ?_
    refine st0 896 rfl (ok (mv (.d (eI (0 : Int))))) ?_
    refine hK10 _ _ ?_
    simp only [thenK, blockK, keepE, updM, List.filter_cons, List.filter_nil, List.nil_append, List.cons_append, List.map_cons, List.map_nil, envE, Mem.get, Nat.reduceEqDiff, reduceIte, Option.isNone_none, Option.isNone_some, Bool.false_eq_true, List.length_cons, List.length_nil, Nat.reduceAdd, Nat.reduceMul]
    refine hK9 _ _ _ ?_
    refine rwp_block fun K11 hK11 => ?_
    refine rwp_loop ([], [(512, 2, 2881)]) 2944 (fun k env mem => ∃ (v12 : List (TApiChallenge)) (v13 : Int), challengeExpireOwnL2 a0 a1 k v12 v13 = some res ∧ env = [(1, .d (eI a1)), (4, .ptr 128 0), (5, .ptr 512 0), (14, .d ((eL 5 eTApiChallenge) a0.Open)), (15, .d (eI (a0.Open.length : Int))), (16, .d (eI v13))] ∧ mem = [(128, .var .mine [.d (eU64 (0#64)), .d (eI (0 : Int)), .nil 5]), (512, .var .mine [.d (eU64 a0.Secret), .d (eI a0.Count), .ref 2881 v12.length 0 v12.length]), (2881, .row true 5 (v12.map eTApiChallenge))]) FUEL ⟨_, _, Settled.refl, _, _, ⟨_, _, h, rfl, rfl⟩, ⟨rfl, ⟨⟨rfl, rfl⟩, ⟨⟨rfl, rfl⟩, ⟨⟨rfl, rfl⟩, ⟨⟨rfl, rfl⟩, ⟨⟨rfl, rfl⟩, ⟨⟨rfl, rfl⟩, trivial⟩⟩⟩⟩⟩⟩, ⟨⟨rfl, rfl⟩, ⟨⟨rfl, rfl⟩, ⟨⟨rfl, rfl⟩, trivial⟩⟩⟩⟩, rfl⟩ (fun k2 env1 mem1 hI K14 hK14 => ?_)
    obtain ⟨v12, v13, h, rfl, rfl⟩ := hI
    cases k2 with
    | zero => simp [challengeExpireOwnL2] at h
    | succ k2 =>
      rw [challengeExpireOwnL2] at h
      refine rwp_seq fun K15 hK15 => ?_
      refine rwp_region fun K16 hK16 => ?_
      refine st0 3008 rfl (ok (lssI _ _)) ?_
      refine hK16 _ _ ?_
      simp only [thenK, blockK, keepE, updM, List.filter_cons, List.filter_nil, List.nil_append, List.cons_append, List.map_cons, List.map_nil, envE, Mem.get, Nat.reduceEqDiff, reduceIte, Option.isNone_none, Option.isNone_some, Bool.false_eq_true, List.length_cons, List.length_nil, Nat.reduceAdd, Nat.reduceMul]
      refine hK15 _ _ _ ?_
      refine rwp_seq fun K17 hK17 => ?_
      rcases Bool.eq_false_or_eq_true ((decide (v13 < (a0.Open.length : Int)))) with h18 | h18
      · replace h := ite_t h h18
        refine rwp_t (isT h18) ?_
        refine rwp_skip ?_
        refine hK17 _ _ _ ?_
        refine rwp_join ([], []) 4672 (fun env mem => ∃ (v19 : List (TApiChallenge)), challengeExpireOwnJ3 (challengeExpireOwnL2 a0 a1 k2) v13 v19 = some res ∧ env = [(1, .d (eI a1)), (4, .ptr 128 0), (5, .ptr 512 0), (14, .d ((eL 5 eTApiChallenge) a0.Open)), (15, .d (eI (a0.Open.length : Int))), (16, .d (eI v13))] ∧ mem = [(128, .var .mine [.d (eU64 (0#64)), .d (eI (0 : Int)), .nil 5]), (512, .var .mine [.d (eU64 a0.Secret), .d (eI a0.Count), .ref 2881 v19.length 0 v19.length]), (2881, .row true 5 (v19.map eTApiChallenge))]) (fun _ _ hI => ?_) (fun K20 hK20 => ?_)
        · obtain ⟨v19, h, rfl, rfl⟩ := hI
          unfold challengeExpireOwnJ3 at h
          refine rwp_region fun K21 hK21 => ?_
          refine st0 4736 rfl (ok (addI _ (1 : Int))) ?_
          refine st0 4800 rfl (ok (mv (.d (eI (w64 (v13 + (1 : Int))))))) ?_
          refine hK21 _ _ ?_
          simp only [thenK, blockK, keepE, updM, List.filter_cons, List.filter_nil, List.nil_append, List.cons_append, List.map_cons, List.map_nil, envE, Mem.get, Nat.reduceEqDiff, reduceIte, Option.isNone_none, Option.isNone_some, Bool.false_eq_true, List.length_cons, List.length_nil, Nat.reduceAdd, Nat.reduceMul]
          exact hK14.out _ _ _ k2 (Nat.lt_succ_self k2) ⟨_, _, Settled.refl, _, _, ⟨_, _, h, rfl, rfl⟩, ⟨rfl, ⟨⟨rfl, rfl⟩, ⟨⟨rfl, rfl⟩, ⟨⟨rfl, rfl⟩, ⟨⟨rfl, rfl⟩, ⟨⟨rfl, rfl⟩, ⟨⟨rfl, rfl⟩, trivial⟩⟩⟩⟩⟩⟩, ⟨⟨rfl, rfl⟩, ⟨⟨rfl, rfl⟩, ⟨⟨rfl, rfl⟩, trivial⟩⟩⟩⟩, rfl⟩
        · refine rwp_block fun K22 hK22 => ?_
          refine rwp_seq fun K23 hK23 => ?_
          refine rwp_region fun K24 hK24 => ?_
          obtain ⟨h25, h⟩ := asq_inv h
          refine st0 3072 rfl (ok (iaL (e := eTApiChallenge) (xs := a0.Open) (TApiChallenge.mk (0 : Int) (0 : Int) ([] : List (BitVec 8)) false (0 : Int)) h25)) ?_
          refine st0 3136 rfl (ok (ld_i (v := eTApiChallenge (a0.Open.getD v13.toNat (TApiChallenge.mk (0 : Int) (0 : Int) ([] : List (BitVec 8)) false (0 : Int)))) rfl rfl)) ?_
          refine st1 3200 rfl (mem' := [(3136, .var .mine [.d (eI (0 : Int)), .d (eI (0 : Int)), .d (eS ([] : List (BitVec 8))), .d (eB false), .d (eI (0 : Int))]), (128, .var .mine [.d (eU64 (0#64)), .d (eI (0 : Int)), .nil 5]), (512, .var .mine [.d (eU64 a0.Secret), .d (eI a0.Count), .ref 2881 v12.length 0 v12.length]), (2881, .row true 5 (v12.map eTApiChallenge))]) (ok (alc (zs := [.d (eI (0 : Int)), .d (eI (0 : Int)), .d (eS ([] : List (BitVec 8))), .d (eB false), .d (eI (0 : Int))]))) rfl ?_
          refine stn 3264 rfl (mem' := [(3136, .var .mine [.d (eI ((a0.Open.getD v13.toNat (TApiChallenge.mk (0 : Int) (0 : Int) ([] : List (BitVec 8)) false (0 : Int))).Number)), .d (eI ((a0.Open.getD v13.toNat (TApiChallenge.mk (0 : Int) (0 : Int) ([] : List (BitVec 8)) false (0 : Int))).Kind)), .d (eS ((a0.Open.getD v13.toNat (TApiChallenge.mk (0 : Int) (0 : Int) ([] : List (BitVec 8)) false (0 : Int))).Account)), .d (eB ((a0.Open.getD v13.toNat (TApiChallenge.mk (0 : Int) (0 : Int) ([] : List (BitVec 8)) false (0 : Int))).Bound)), .d (eI ((a0.Open.getD v13.toNat (TApiChallenge.mk (0 : Int) (0 : Int) ([] : List (BitVec 8)) false (0 : Int))).Since))]), (128, .var .mine [.d (eU64 (0#64)), .d (eI (0 : Int)), .nil 5]), (512, .var .mine [.d (eU64 a0.Secret), .d (eI a0.Count), .ref 2881 v12.length 0 v12.length]), (2881, .row true 5 (v12.map eTApiChallenge))]) (ok (sto_v (ps' := [.d (eI ((a0.Open.getD v13.toNat (TApiChallenge.mk (0 : Int) (0 : Int) ([] : List (BitVec 8)) false (0 : Int))).Number)), .d (eI ((a0.Open.getD v13.toNat (TApiChallenge.mk (0 : Int) (0 : Int) ([] : List (BitVec 8)) false (0 : Int))).Kind)), .d (eS ((a0.Open.getD v13.toNat (TApiChallenge.mk (0 : Int) (0 : Int) ([] : List (BitVec 8)) false (0 : Int))).Account)), .d (eB ((a0.Open.getD v13.toNat (TApiChallenge.mk (0 : Int) (0 : Int) ([] : List (BitVec 8)) false (0 : Int))).Bound)), .d (eI ((a0.Open.getD v13.toNat (TApiChallenge.mk (0 : Int) (0 : Int) ([] : List (BitVec 8)) false (0 : Int))).Since))]) rfl rfl rfl rfl)) rfl ?_
          refine hK24 _ _ ?_
          simp only [thenK, blockK, keepE, updM, List.filter_cons, List.filter_nil, List.nil_append, List.cons_append, List.map_cons, List.map_nil, envE, Mem.get, Nat.reduceEqDiff, reduceIte, Option.isNone_none, Option.isNone_some, Bool.false_eq_true, List.length_cons, List.length_nil, Nat.reduceAdd, Nat.reduceMul]
          refine hK23 _ _ _ ?_
          refine rwp_join ([], []) 4160 (fun env mem => ∃ (v26 : Bool), challengeExpireOwnJ4 (challengeExpireOwnL2 a0 a1 k2) a0 v12 v13 v26 = some res ∧ env = [(1, .d (eI a1)), (4, .ptr 128 0), (5, .ptr 512 0), (7, .ptr 3136 0), (14, .d ((eL 5 eTApiChallenge) a0.Open)), (15, .d (eI (a0.Open.length : Int))), (16, .d (eI v13)), (32, .d (eB v26))] ∧ mem = [(128, .var .mine [.d (eU64 (0#64)), .d (eI (0 : Int)), .nil 5]), (512, .var .mine [.d (eU64 a0.Secret), .d (eI a0.Count), .ref 2881 v12.length 0 v12.length]), (2881, .row true 5 (v12.map eTApiChallenge)), (3136, .var .mine [.d (eI ((a0.Open.getD v13.toNat (TApiChallenge.mk (0 : Int) (0 : Int) ([] : List (BitVec 8)) false (0 : Int))).Number)), .d (eI ((a0.Open.getD v13.toNat (TApiChallenge.mk (0 : Int) (0 : Int) ([] : List (BitVec 8)) false (0 : Int))).Kind)), .d (eS ((a0.Open.getD v13.toNat (TApiChallenge.mk (0 : Int) (0 : Int) ([] : List (BitVec 8)) false (0 : Int))).Account)), .d (eB ((a0.Open.getD v13.toNat (TApiChallenge.mk (0 : Int) (0 : Int) ([] : List (BitVec 8)) false (0 : Int))).Bound)), .d (eI ((a0.Open.getD v13.toNat (TApiChallenge.mk (0 : Int) (0 : Int) ([] : List (BitVec 8)) false (0 : Int))).Since))])]) (fun _ _ hI => ?_) (fun K27 hK27 => ?_)
          · obtain ⟨v26, h, rfl, rfl⟩ := hI
            unfold challengeExpireOwnJ4 at h
            rcases Bool.eq_false_or_eq_true (v26) with h28 | h28
            · replace h := ite_t h h28
              refine rwp_t (isT h28) ?_
              refine rwp_region fun K29 hK29 => ?_
              refine st0 4224 rfl (ok (fa_k 2 rfl)) ?_
              refine st0 4288 rfl (ok (ld_v (v := .ref 2881 v12.length 0 v12.length) rfl rfl rfl)) ?_
              refine st0 4352 rfl (ok (ld_v (v := .d (.agg [eI ((a0.Open.getD v13.toNat (TApiChallenge.mk (0 : Int) (0 : Int) ([] : List (BitVec 8)) false (0 : Int))).Number), eI ((a0.Open.getD v13.toNat (TApiChallenge.mk (0 : Int) (0 : Int) ([] : List (BitVec 8)) false (0 : Int))).Kind), eS ((a0.Open.getD v13.toNat (TApiChallenge.mk (0 : Int) (0 : Int) ([] : List (BitVec 8)) false (0 : Int))).Account), eB ((a0.Open.getD v13.toNat (TApiChallenge.mk (0 : Int) (0 : Int) ([] : List (BitVec 8)) false (0 : Int))).Bound), eI ((a0.Open.getD v13.toNat (TApiChallenge.mk (0 : Int) (0 : Int) ([] : List (BitVec 8)) false (0 : Int))).Since)])) rfl rfl rfl)) ?_
              refine st1 4416 rfl (mem' := [(4352, .row true 5 (([(TApiChallenge.mk ((a0.Open.getD v13.toNat (TApiChallenge.mk (0 : Int) (0 : Int) ([] : List (BitVec 8)) false (0 : Int))).Number) ((a0.Open.getD v13.toNat (TApiChallenge.mk (0 : Int) (0 : Int) ([] : List (BitVec 8)) false (0 : Int))).Kind) ((a0.Open.getD v13.toNat (TApiChallenge.mk (0 : Int) (0 : Int) ([] : List (BitVec 8)) false (0 : Int))).Account) ((a0.Open.getD v13.toNat (TApiChallenge.mk (0 : Int) (0 : Int) ([] : List (BitVec 8)) false (0 : Int))).Bound) ((a0.Open.getD v13.toNat (TApiChallenge.mk (0 : Int) (0 : Int) ([] : List (BitVec 8)) false (0 : Int))).Since))] : List (TApiChallenge)).map eTApiChallenge)), (128, .var .mine [.d (eU64 (0#64)), .d (eI (0 : Int)), .nil 5]), (512, .var .mine [.d (eU64 a0.Secret), .d (eI a0.Count), .ref 2881 v12.length 0 v12.length]), (2881, .row true 5 (v12.map eTApiChallenge)), (3136, .var .mine [.d (eI ((a0.Open.getD v13.toNat (TApiChallenge.mk (0 : Int) (0 : Int) ([] : List (BitVec 8)) false (0 : Int))).Number)), .d (eI ((a0.Open.getD v13.toNat (TApiChallenge.mk (0 : Int) (0 : Int) ([] : List (BitVec 8)) false (0 : Int))).Kind)), .d (eS ((a0.Open.getD v13.toNat (TApiChallenge.mk (0 : Int) (0 : Int) ([] : List (BitVec 8)) false (0 : Int))).Account)), .d (eB ((a0.Open.getD v13.toNat (TApiChallenge.mk (0 : Int) (0 : Int) ([] : List (BitVec 8)) false (0 : Int))).Bound)), .d (eI ((a0.Open.getD v13.toNat (TApiChallenge.mk (0 : Int) (0 : Int) ([] : List (BitVec 8)) false (0 : Int))).Since))])]) (ok (bsl (e := eTApiChallenge) (ys := ([(TApiChallenge.mk ((a0.Open.getD v13.toNat (TApiChallenge.mk (0 : Int) (0 : Int) ([] : List (BitVec 8)) false (0 : Int))).Number) ((a0.Open.getD v13.toNat (TApiChallenge.mk (0 : Int) (0 : Int) ([] : List (BitVec 8)) false (0 : Int))).Kind) ((a0.Open.getD v13.toNat (TApiChallenge.mk (0 : Int) (0 : Int) ([] : List (BitVec 8)) false (0 : Int))).Account) ((a0.Open.getD v13.toNat (TApiChallenge.mk (0 : Int) (0 : Int) ([] : List (BitVec 8)) false (0 : Int))).Bound) ((a0.Open.getD v13.toNat (TApiChallenge.mk (0 : Int) (0 : Int) ([] : List (BitVec 8)) false (0 : Int))).Since))] : List (TApiChallenge))) rfl rfl rfl)) rfl ?_
              obtain ⟨h30, h⟩ := asq_inv h
              refine st1 4480 rfl (mem' := [(2881, .row true 5 ((v12 ++ ([(TApiChallenge.mk ((a0.Open.getD v13.toNat (TApiChallenge.mk (0 : Int) (0 : Int) ([] : List (BitVec 8)) false (0 : Int))).Number) ((a0.Open.getD v13.toNat (TApiChallenge.mk (0 : Int) (0 : Int) ([] : List (BitVec 8)) false (0 : Int))).Kind) ((a0.Open.getD v13.toNat (TApiChallenge.mk (0 : Int) (0 : Int) ([] : List (BitVec 8)) false (0 : Int))).Account) ((a0.Open.getD v13.toNat (TApiChallenge.mk (0 : Int) (0 : Int) ([] : List (BitVec 8)) false (0 : Int))).Bound) ((a0.Open.getD v13.toNat (TApiChallenge.mk (0 : Int) (0 : Int) ([] : List (BitVec 8)) false (0 : Int))).Since))] : List (TApiChallenge))).map eTApiChallenge)), (4352, .row true 5 (([(TApiChallenge.mk ((a0.Open.getD v13.toNat (TApiChallenge.mk (0 : Int) (0 : Int) ([] : List (BitVec 8)) false (0 : Int))).Number) ((a0.Open.getD v13.toNat (TApiChallenge.mk (0 : Int) (0 : Int) ([] : List (BitVec 8)) false (0 : Int))).Kind) ((a0.Open.getD v13.toNat (TApiChallenge.mk (0 : Int) (0 : Int) ([] : List (BitVec 8)) false (0 : Int))).Account) ((a0.Open.getD v13.toNat (TApiChallenge.mk (0 : Int) (0 : Int) ([] : List (BitVec 8)) false (0 : Int))).Bound) ((a0.Open.getD v13.toNat (TApiChallenge.mk (0 : Int) (0 : Int) ([] : List (BitVec 8)) false (0 : Int))).Since))] : List (TApiChallenge)).map eTApiChallenge)), (128, .var .mine [.d (eU64 (0#64)), .d (eI (0 : Int)), .nil 5]), (512, .var .mine [.d (eU64 a0.Secret), .d (eI a0.Count), .ref 2881 v12.length 0 v12.length]), (3136, .var .mine [.d (eI ((a0.Open.getD v13.toNat (TApiChallenge.mk (0 : Int) (0 : Int) ([] : List (BitVec 8)) false (0 : Int))).Number)), .d (eI ((a0.Open.getD v13.toNat (TApiChallenge.mk (0 : Int) (0 : Int) ([] : List (BitVec 8)) false (0 : Int))).Kind)), .d (eS ((a0.Open.getD v13.toNat (TApiChallenge.mk (0 : Int) (0 : Int) ([] : List (BitVec 8)) false (0 : Int))).Account)), .d (eB ((a0.Open.getD v13.toNat (TApiChallenge.mk (0 : Int) (0 : Int) ([] : List (BitVec 8)) false (0 : Int))).Bound)), .d (eI ((a0.Open.getD v13.toNat (TApiChallenge.mk (0 : Int) (0 : Int) ([] : List (BitVec 8)) false (0 : Int))).Since))])]) (ok (appR (e := eTApiChallenge) (xs := v12) (ys := ([(TApiChallenge.mk ((a0.Open.getD v13.toNat (TApiChallenge.mk (0 : Int) (0 : Int) ([] : List (BitVec 8)) false (0 : Int))).Number) ((a0.Open.getD v13.toNat (TApiChallenge.mk (0 : Int) (0 : Int) ([] : List (BitVec 8)) false (0 : Int))).Kind) ((a0.Open.getD v13.toNat (TApiChallenge.mk (0 : Int) (0 : Int) ([] : List (BitVec 8)) false (0 : Int))).Account) ((a0.Open.getD v13.toNat (TApiChallenge.mk (0 : Int) (0 : Int) ([] : List (BitVec 8)) false (0 : Int))).Bound) ((a0.Open.getD v13.toNat (TApiChallenge.mk (0 : Int) (0 : Int) ([] : List (BitVec 8)) false (0 : Int))).Since))] : List (TApiChallenge))) (contR (xs := ([(TApiChallenge.mk ((a0.Open.getD v13.toNat (TApiChallenge.mk (0 : Int) (0 : Int) ([] : List (BitVec 8)) false (0 : Int))).Number) ((a0.Open.getD v13.toNat (TApiChallenge.mk (0 : Int) (0 : Int) ([] : List (BitVec 8)) false (0 : Int))).Kind) ((a0.Open.getD v13.toNat (TApiChallenge.mk (0 : Int) (0 : Int) ([] : List (BitVec 8)) false (0 : Int))).Account) ((a0.Open.getD v13.toNat (TApiChallenge.mk (0 : Int) (0 : Int) ([] : List (BitVec 8)) false (0 : Int))).Bound) ((a0.Open.getD v13.toNat (TApiChallenge.mk (0 : Int) (0 : Int) ([] : List (BitVec 8)) false (0 : Int))).Since))] : List (TApiChallenge))) rfl rfl rfl) rfl rfl rfl h30)) rfl ?_
              refine st0 4544 rfl (ok (fa_k 2 rfl)) ?_
              refine stn 4608 rfl (mem' := [(512, .var .mine [.d (eU64 a0.Secret), .d (eI a0.Count), .ref 2881 (((v12 ++ ([(TApiChallenge.mk ((a0.Open.getD v13.toNat (TApiChallenge.mk (0 : Int) (0 : Int) ([] : List (BitVec 8)) false (0 : Int))).Number) ((a0.Open.getD v13.toNat (TApiChallenge.mk (0 : Int) (0 : Int) ([] : List (BitVec 8)) false (0 : Int))).Kind) ((a0.Open.getD v13.toNat (TApiChallenge.mk (0 : Int) (0 : Int) ([] : List (BitVec 8)) false (0 : Int))).Account) ((a0.Open.getD v13.toNat (TApiChallenge.mk (0 : Int) (0 : Int) ([] : List (BitVec 8)) false (0 : Int))).Bound) ((a0.Open.getD v13.toNat (TApiChallenge.mk (0 : Int) (0 : Int) ([] : List (BitVec 8)) false (0 : Int))).Since))] : List (TApiChallenge)))).length) 0 (((v12 ++ ([(TApiChallenge.mk ((a0.Open.getD v13.toNat (TApiChallenge.mk (0 : Int) (0 : Int) ([] : List (BitVec 8)) false (0 : Int))).Number) ((a0.Open.getD v13.toNat (TApiChallenge.mk (0 : Int) (0 : Int) ([] : List (BitVec 8)) false (0 : Int))).Kind) ((a0.Open.getD v13.toNat (TApiChallenge.mk (0 : Int) (0 : Int) ([] : List (BitVec 8)) false (0 : Int))).Account) ((a0.Open.getD v13.toNat (TApiChallenge.mk (0 : Int) (0 : Int) ([] : List (BitVec 8)) false (0 : Int))).Bound) ((a0.Open.getD v13.toNat (TApiChallenge.mk (0 : Int) (0 : Int) ([] : List (BitVec 8)) false (0 : Int))).Since))] : List (TApiChallenge)))).length)]), (2881, .row true 5 ((v12 ++ ([(TApiChallenge.mk ((a0.Open.getD v13.toNat (TApiChallenge.mk (0 : Int) (0 : Int) ([] : List (BitVec 8)) false (0 : Int))).Number) ((a0.Open.getD v13.toNat (TApiChallenge.mk (0 : Int) (0 : Int) ([] : List (BitVec 8)) false (0 : Int))).Kind) ((a0.Open.getD v13.toNat (TApiChallenge.mk (0 : Int) (0 : Int) ([] : List (BitVec 8)) false (0 : Int))).Account) ((a0.Open.getD v13.toNat (TApiChallenge.mk (0 : Int) (0 : Int) ([] : List (BitVec 8)) false (0 : Int))).Bound) ((a0.Open.getD v13.toNat (TApiChallenge.mk (0 : Int) (0 : Int) ([] : List (BitVec 8)) false (0 : Int))).Since))] : List (TApiChallenge))).map eTApiChallenge)), (4352, .row true 5 (([(TApiChallenge.mk ((a0.Open.getD v13.toNat (TApiChallenge.mk (0 : Int) (0 : Int) ([] : List (BitVec 8)) false (0 : Int))).Number) ((a0.Open.getD v13.toNat (TApiChallenge.mk (0 : Int) (0 : Int) ([] : List (BitVec 8)) false (0 : Int))).Kind) ((a0.Open.getD v13.toNat (TApiChallenge.mk (0 : Int) (0 : Int) ([] : List (BitVec 8)) false (0 : Int))).Account) ((a0.Open.getD v13.toNat (TApiChallenge.mk (0 : Int) (0 : Int) ([] : List (BitVec 8)) false (0 : Int))).Bound) ((a0.Open.getD v13.toNat (TApiChallenge.mk (0 : Int) (0 : Int) ([] : List (BitVec 8)) false (0 : Int))).Since))] : List (TApiChallenge)).map eTApiChallenge)), (128, .var .mine [.d (eU64 (0#64)), .d (eI (0 : Int)), .nil 5]), (3136, .var .mine [.d (eI ((a0.Open.getD v13.toNat (TApiChallenge.mk (0 : Int) (0 : Int) ([] : List (BitVec 8)) false (0 : Int))).Number)), .d (eI ((a0.Open.getD v13.toNat (TApiChallenge.mk (0 : Int) (0 : Int) ([] : List (BitVec 8)) false (0 : Int))).Kind)), .d (eS ((a0.Open.getD v13.toNat (TApiChallenge.mk (0 : Int) (0 : Int) ([] : List (BitVec 8)) false (0 : Int))).Account)), .d (eB ((a0.Open.getD v13.toNat (TApiChallenge.mk (0 : Int) (0 : Int) ([] : List (BitVec 8)) false (0 : Int))).Bound)), .d (eI ((a0.Open.getD v13.toNat (TApiChallenge.mk (0 : Int) (0 : Int) ([] : List (BitVec 8)) false (0 : Int))).Since))])]) (ok (sto_v (ps' := [.d (eU64 a0.Secret), .d (eI a0.Count), .ref 2881 (((v12 ++ ([(TApiChallenge.mk ((a0.Open.getD v13.toNat (TApiChallenge.mk (0 : Int) (0 : Int) ([] : List (BitVec 8)) false (0 : Int))).Number) ((a0.Open.getD v13.toNat (TApiChallenge.mk (0 : Int) (0 : Int) ([] : List (BitVec 8)) false (0 : Int))).Kind) ((a0.Open.getD v13.toNat (TApiChallenge.mk (0 : Int) (0 : Int) ([] : List (BitVec 8)) false (0 : Int))).Account) ((a0.Open.getD v13.toNat (TApiChallenge.mk (0 : Int) (0 : Int) ([] : List (BitVec 8)) false (0 : Int))).Bound) ((a0.Open.getD v13.toNat (TApiChallenge.mk (0 : Int) (0 : Int) ([] : List (BitVec 8)) false (0 : Int))).Since))] : List (TApiChallenge)))).length) 0 (((v12 ++ ([(TApiChallenge.mk ((a0.Open.getD v13.toNat (TApiChallenge.mk (0 : Int) (0 : Int) ([] : List (BitVec 8)) false (0 : Int))).Number) ((a0.Open.getD v13.toNat (TApiChallenge.mk (0 : Int) (0 : Int) ([] : List (BitVec 8)) false (0 : Int))).Kind) ((a0.Open.getD v13.toNat (TApiChallenge.mk (0 : Int) (0 : Int) ([] : List (BitVec 8)) false (0 : Int))).Account) ((a0.Open.getD v13.toNat (TApiChallenge.mk (0 : Int) (0 : Int) ([] : List (BitVec 8)) false (0 : Int))).Bound) ((a0.Open.getD v13.toNat (TApiChallenge.mk (0 : Int) (0 : Int) ([] : List (BitVec 8)) false (0 : Int))).Since))] : List (TApiChallenge)))).length)]) rfl rfl rfl rfl)) rfl ?_
              refine hK29 _ _ ?_
              simp only [thenK, blockK, keepE, updM, List.filter_cons, List.filter_nil, List.nil_append, List.cons_append, List.map_cons, List.map_nil, envE, Mem.get, Nat.reduceEqDiff, reduceIte, Option.isNone_none, Option.isNone_some, Bool.false_eq_true, List.length_cons, List.length_nil, Nat.reduceAdd, Nat.reduceMul]
              refine hK22 _ _ _ ?_
              exact hK20 _ _ _ ⟨_, _, Settled.refl, _, _, ⟨_, h, rfl, rfl⟩, ⟨rfl, ⟨⟨rfl, rfl⟩, ⟨⟨rfl, rfl⟩, ⟨⟨rfl, rfl⟩, ⟨⟨rfl, rfl⟩, ⟨⟨rfl, rfl⟩, ⟨⟨rfl, rfl⟩, trivial⟩⟩⟩⟩⟩⟩, ⟨⟨rfl, rfl⟩, ⟨⟨rfl, rfl⟩, ⟨⟨rfl, rfl⟩, trivial⟩⟩⟩⟩, rfl⟩
            · replace h := ite_f h h28
              refine rwp_f (isF h28) ?_
              refine rwp_skip ?_
              refine hK22 _ _ _ ?_
              exact hK20 _ _ _ ⟨_, _, Settled.refl, _, _, ⟨_, h, rfl, rfl⟩, ⟨rfl, ⟨⟨rfl, rfl⟩, ⟨⟨rfl, rfl⟩, ⟨⟨rfl, rfl⟩, ⟨⟨rfl, rfl⟩, ⟨⟨rfl, rfl⟩, ⟨⟨rfl, rfl⟩, trivial⟩⟩⟩⟩⟩⟩, ⟨⟨rfl, rfl⟩, ⟨⟨rfl, rfl⟩, ⟨⟨rfl, rfl⟩, trivial⟩⟩⟩⟩, rfl⟩
          · refine rwp_region fun K31 hK31 => ?_
            refine st0 3328 rfl (ok (mv (.d (eI a1)))) ?_
            refine st0 3392 rfl (ok (lssI _ (0 : Int))) ?_
            refine st0 3456 rfl (ok (mv (.d (eB (decide (a1 < (0 : Int))))))) ?_
            rcases Bool.eq_false_or_eq_true ((decide (a1 < (0 : Int)))) with h32 | h32
            · replace h := ite_t h h32
              refine stGN 3520 rfl rfl h32 ?_
              refine stGN 3584 rfl rfl h32 ?_
              refine st0 3648 rfl (ok (pick_t h32 (.d (eB true)) _)) ?_
              refine st0 3712 rfl (ok (mv (.d (eB true)))) ?_
              refine stGN 3776 rfl rfl rfl ?_
              refine stGN 3840 rfl rfl rfl ?_
              refine stGN 3904 rfl rfl rfl ?_
              refine stGN 3968 rfl rfl rfl ?_
              refine stGN 4032 rfl rfl rfl ?_
              refine st0 4096 rfl (ok (pick_t rfl (.d (eB true)) _)) ?_
              refine hK31 _ _ ?_
              simp only [thenK, blockK, keepE, updM, List.filter_cons, List.filter_nil, List.nil_append, List.cons_append, List.map_cons, List.map_nil, envE, Mem.get, Nat.reduceEqDiff, reduceIte, Option.isNone_none, Option.isNone_some, Bool.false_eq_true, List.length_cons, List.length_nil, Nat.reduceAdd, Nat.reduceMul]
              exact hK27 _ _ _ ⟨_, _, Settled.refl, _, _, ⟨_, h, rfl, rfl⟩, ⟨rfl, ⟨⟨rfl, rfl⟩, ⟨⟨rfl, rfl⟩, ⟨⟨rfl, rfl⟩, ⟨⟨rfl, rfl⟩, ⟨⟨rfl, rfl⟩, ⟨⟨rfl, rfl⟩, ⟨⟨rfl, rfl⟩, ⟨⟨rfl, rfl⟩, trivial⟩⟩⟩⟩⟩⟩⟩⟩, ⟨⟨rfl, rfl⟩, ⟨⟨rfl, rfl⟩, ⟨⟨rfl, rfl⟩, ⟨⟨rfl, rfl⟩, trivial⟩⟩⟩⟩⟩, rfl⟩
            · replace h := ite_f h h32
              refine stG (isF h32) ?_
              refine st0 3520 rfl (ok (mv (.d (eI a1)))) ?_
              refine stG (isF h32) ?_
              refine st0 3584 rfl (ok (gtrI _ (1099511627776 : Int))) ?_
              refine st0 3648 rfl (ok (pick_f h32 _ (.d (eB (decide ((1099511627776 : Int) < a1)))))) ?_
              refine st0 3712 rfl (ok (mv (.d (eB (decide ((1099511627776 : Int) < a1)))))) ?_
              rcases Bool.eq_false_or_eq_true ((decide ((1099511627776 : Int) < a1))) with h33 | h33
              · replace h := ite_t h h33
                refine stGN 3776 rfl rfl h33 ?_
                refine stGN 3840 rfl rfl h33 ?_
                refine stGN 3904 rfl rfl h33 ?_
                refine stGN 3968 rfl rfl h33 ?_
                refine stGN 4032 rfl rfl h33 ?_
                refine st0 4096 rfl (ok (pick_t h33 (.d (eB true)) _)) ?_
                refine hK31 _ _ ?_
                simp only [thenK, blockK, keepE, updM, List.filter_cons, List.filter_nil, List.nil_append, List.cons_append, List.map_cons, List.map_nil, envE, Mem.get, Nat.reduceEqDiff, reduceIte, Option.isNone_none, Option.isNone_some, Bool.false_eq_true, List.length_cons, List.length_nil, Nat.reduceAdd, Nat.reduceMul]
                exact hK27 _ _ _ ⟨_, _, Settled.refl, _, _, ⟨_, h, rfl, rfl⟩, ⟨rfl, ⟨⟨rfl, rfl⟩, ⟨⟨rfl, rfl⟩, ⟨⟨rfl, rfl⟩, ⟨⟨rfl, rfl⟩, ⟨⟨rfl, rfl⟩, ⟨⟨rfl, rfl⟩, ⟨⟨rfl, rfl⟩, ⟨⟨rfl, rfl⟩, trivial⟩⟩⟩⟩⟩⟩⟩⟩, ⟨⟨rfl, rfl⟩, ⟨⟨rfl, rfl⟩, ⟨⟨rfl, rfl⟩, ⟨⟨rfl, rfl⟩, trivial⟩⟩⟩⟩⟩, rfl⟩
              · replace h := ite_f h h33
                refine stG (isF h33) ?_
                refine st0 3776 rfl (ok (mv (.d (eI a1)))) ?_
                refine stG (isF h33) ?_
                refine st0 3840 rfl (ok (fa_k 4 rfl)) ?_
                refine stG (isF h33) ?_
                refine st0 3904 rfl (ok (ld_v (v := .d (eI ((a0.Open.getD v13.toNat (TApiChallenge.mk (0 : Int) (0 : Int) ([] : List (BitVec 8)) false (0 : Int))).Since))) rfl rfl rfl)) ?_
                refine stG (isF h33) ?_
                obtain ⟨v34, h35, h⟩ := lett_inv h
                refine st0e 3968 rfl (ok (subI _ _)) (congrArg (fun z => PV.d (eI z)) h35) ?_
                refine stG (isF h33) ?_
                refine st0 4032 rfl (ok (leqI _ (60 : Int))) ?_
                refine st0 4096 rfl (ok (pick_f h33 _ (.d (eB (decide (v34 ≤ (60 : Int))))))) ?_
                refine hK31 _ _ ?_
                simp only [thenK, blockK, keepE, updM, List.filter_cons, List.filter_nil, List.nil_append, List.cons_append, List.map_cons, List.map_nil, envE, Mem.get, Nat.reduceEqDiff, reduceIte, Option.isNone_none, Option.isNone_some, Bool.false_eq_true, List.length_cons, List.length_nil, Nat.reduceAdd, Nat.reduceMul]
                exact hK27 _ _ _ ⟨_, _, Settled.refl, _, _, ⟨_, h, rfl, rfl⟩, ⟨rfl, ⟨⟨rfl, rfl⟩, ⟨⟨rfl, rfl⟩, ⟨⟨rfl, rfl⟩, ⟨⟨rfl, rfl⟩, ⟨⟨rfl, rfl⟩, ⟨⟨rfl, rfl⟩, ⟨⟨rfl, rfl⟩, ⟨⟨rfl, rfl⟩, trivial⟩⟩⟩⟩⟩⟩⟩⟩, ⟨⟨rfl, rfl⟩, ⟨⟨rfl, rfl⟩, ⟨⟨rfl, rfl⟩, ⟨⟨rfl, rfl⟩, trivial⟩⟩⟩⟩⟩, rfl⟩
      · replace h := ite_f h h18
        refine rwp_f (isF h18) ?_
        refine rwp_exit ?_
        refine hK11 _ _ _ ?_
        exact hK6 _ _ _ ⟨_, _, Settled.refl, _, _, ⟨_, h, rfl, rfl⟩, ⟨rfl, ⟨⟨rfl, rfl⟩, ⟨⟨rfl, rfl⟩, trivial⟩⟩, ⟨⟨rfl, rfl⟩, ⟨⟨rfl, rfl⟩, ⟨⟨rfl, rfl⟩, trivial⟩⟩⟩⟩, rfl⟩

/-- passkey/digest.Words -/
def digestWordsH : Hints := ⟨[(0, [0]), (1, [0, 3]), (2, [3, 7, 8, 9]), (3, [3, 7, 8, 9, 10]), (4, [3, 5, 7, 8, 9]), (5, [3, 5, 7, 8, 9, 13]), (6, [3, 5, 7, 8, 9, 13, 14]), (7, [3, 5, 6, 7, 8, 9, 13]), (8, [3, 5, 7, 8, 9, 13]), (9, [3, 5, 7, 8, 9, 13]), (10, [3, 7, 8, 9]), (11, [2])], []⟩
def digestWordsRc : RCode :=
  .seq (.region false [⟨some 2, .mv, [.k (.nil 1)], none, []⟩] [0]) (.seq (.region false [⟨some 3, .mv, [.k (.nil 1)], none, []⟩] [0, 3]) (.seq (.seq (.region false [⟨some 7, .mv,
  [.t 0], none, []⟩, ⟨some 8, .len, [.t 7], none, []⟩, ⟨some 9, .mv, [.k (.d (.int .i64 0))], none, []⟩] [3, 7, 8, 9]) (.block 0 (.loop [] (.seq (.region false [⟨some 10, .bin
  .lss, [.t 9, .t 8], none, []⟩] [3, 7, 8, 9, 10]) (.seq (.cond (.t 10) .skip (.exit 0)) (.seq (.block 1 (.seq (.region false [⟨some 11, .ia 1, [.t 7, .t 9], none, []⟩, ⟨some 12,
  .load 1 false, [.t 11], none, []⟩, ⟨some 5, .mv, [.t 12], none, []⟩] [3, 5, 7, 8, 9]) (.seq (.region false [⟨some 13, .mv, [.k (.d (.int .i64 0))], none, []⟩] [3, 5, 7, 8, 9,
  13]) (.block 2 (.loop [] (.seq (.region false [⟨some 14, .bin .lss, [.t 13, .k (.d (.int .i64 8))], none, []⟩] [3, 5, 7, 8, 9, 13, 14]) (.seq (.cond (.t 14) .skip (.exit 2))
  (.seq (.block 3 (.seq (.region false [⟨some 15, .mv, [.t 13], none, []⟩, ⟨some 6, .mv, [.t 15], none, []⟩] [3, 5, 6, 7, 8, 9, 13]) (.region false [⟨some 16, .mv, [.t 3], none,
  []⟩, ⟨some 17, .mv, [.t 5], none, []⟩, ⟨some 18, .mv, [.t 6], none, []⟩, ⟨some 19, .bin .mul, [.k (.d (.int .i64 8)), .t 18], none, []⟩, ⟨some 20, .bin .sub, [.k (.d (.int .i64
  56)), .t 19], none, []⟩, ⟨some 21, .bin .shr, [.t 17, .t 20], none, []⟩, ⟨some 22, .cvt .u8, [.t 21], none, []⟩, ⟨some 23, .bslice 1 false 1 [.d (.int .u8 0)] [0], [.t 22], none,
  []⟩, ⟨some 24, .app 1 140737488355328, [.t 16, .t 23], none, []⟩, ⟨some 3, .mv, [.t 24], none, []⟩] [3, 5, 7, 8, 9, 13]))) (.region false [⟨some 25, .bin .add, [.t 13, .k (.d
  (.int .i64 1))], none, []⟩, ⟨some 13, .mv, [.t 25], none, []⟩] [3, 5, 7, 8, 9, 13]))))))))) (.region false [⟨some 26, .bin .add, [.t 9, .k (.d (.int .i64 1))], none, []⟩, ⟨some
  9, .mv, [.t 26], none, []⟩] [3, 7, 8, 9]))))))) (.seq (.region false [⟨some 27, .mv, [.t 3], none, []⟩, ⟨some 2, .mv, [.t 27], none, []⟩] [2]) .ret)))
def digestWordsRr : List RR := [.t 2]
theorem digestWordsC : compFn Try.prog 13 digestWordsH = some (digestWordsRc, digestWordsRr, 28) := by kernel_rfl
theorem digestWordsOK (a0 : List (BitVec 64)) (res : List (BitVec 8)) (h : digestWords a0 = some res) : CallOK Try.prog 13 [.d ((eL 1 eU64) a0)] [] (.ref 0 res.length 0 res.length) [(0, .row true 1 (res.map eU8))] := by
  unfold digestWords at h
  refine callOK digestWordsC fm rfl ?_
  simp only [initE, initM, nbor, List.map_cons, List.map_nil, Nat.reduceAdd]
  unfold digestWordsRc
  refine rwp_seq fun K1 hK1 => ?_
  refine rwp_region fun K2 hK2 => ?_
  refine st0 128 rfl (ok (mv (.nil 1))) ?_
  refine hK2 _ _ ?_
  simp only [thenK, blockK, keepE, updM, List.filter_cons, List.filter_nil, List.nil_append, List.cons_append, List.map_cons, List.map_nil, envE, Mem.get, Nat.reduceEqDiff, reduceIte, Option.isNone_none, Option.isNone_some, Bool.false_eq_true, List.length_cons, List.length_nil, Nat.reduceAdd, Nat.reduceMul]
  refine hK1 _ _ _ ?_
  refine rwp_seq fun K3 hK3 => ?_
  refine rwp_region fun K4 hK4 => ?_
  refine st0 192 rfl (ok (mv (.nil 1))) ?_
  refine hK4 _ _ ?_
  simp only [thenK, blockK, keepE, updM, List.filter_cons, List.filter_nil, List.nil_append, List.cons_append, List.map_cons, List.map_nil, envE, Mem.get, Nat.reduceEqDiff, reduceIte, Option.isNone_none, Option.isNone_some, Bool.false_eq_true, List.length_cons, List.length_nil, Nat.reduceAdd, Nat.reduceMul]
  refine hK3 _ _ _ ?_
  refine rwp_join ([], []) 2432 (fun env mem => ∃ (v5 : List (BitVec 8)), digestWordsJ1 v5 = some res ∧ env = [(3, .ref 2241 v5.length 0 v5.length)] ∧ mem = [(2241, .row true 1 (v5.map eU8))]) (fun _ _ hI => ?_) (fun K6 hK6 => ?_)
  · obtain ⟨v5, h, rfl, rfl⟩ := hI
    unfold digestWordsJ1 at h
    refine rwp_seq fun K7 hK7 => ?_
    refine rwp_region fun K8 hK8 => ?_
    refine st0 2496 rfl (ok (mv (.ref 2241 v5.length 0 v5.length))) ?_
    refine st0 2560 rfl (ok (mv (.ref 2241 v5.length 0 v5.length))) ?_
    refine hK8 _ _ ?_
    simp only [thenK, blockK, keepE, updM, List.filter_cons, List.filter_nil, List.nil_append, List.cons_append, List.map_cons, List.map_nil, envE, Mem.get, Nat.reduceEqDiff, reduceIte, Option.isNone_none, Option.isNone_some, Bool.false_eq_true, List.length_cons, List.length_nil, Nat.reduceAdd, Nat.reduceMul]
    refine hK7 _ _ _ ?_
    refine rwp_ret ?_
    obtain rfl := Option.some.inj h
    try simp only [thenK, blockK, reduceIte]
    exact Or.inl (end_ok trivial (rs_t (v := .ref 2241 v5.length 0 v5.length) rfl rs_nil) (en_ref en_nil) ou_nil (by first | exact eok rfl rfl rfl rfl (And.intro (And.intro rfl rfl) trivial) | (refine eok ?_ ?_ ?_ ?_ ?_ <;> first | rfl | exact (And.intro (And.intro rfl rfl) trivial) | simp [retM, Mem.get, PV.renL, PV.ren, Blk.ren, comps, rhoR, rhoM, appN, PV.refsL, PV.refs, keys, nodupB, Blk.refs, allIn, Blk.bor])))
  · refine rwp_seq fun K9 hK9 => ?_
    refine rwp_region fun K10 hK10 => ?_
    refine st0 256 rfl (ok (mv (.d ((eL 1 eU64) a0)))) ?_
    refine st0 320 rfl (ok (lenL _ _)) ?_
    refine st0 384 rfl (ok (mv (.d (eI (0 : Int))))) ?_
    refine hK10 _ _ ?_
    simp only [thenK, blockK, keepE, updM, List.filter_cons, List.filter_nil, List.nil_append, List.cons_append, List.map_cons, List.map_nil, envE, Mem.get, Nat.reduceEqDiff, reduceIte, Option.isNone_none, Option.isNone_some, Bool.false_eq_true, List.length_cons, List.length_nil, Nat.reduceAdd, Nat.reduceMul]
    refine hK9 _ _ _ ?_
    refine rwp_block fun K11 hK11 => ?_
    refine rwp_loop ([(3, 2241)], []) 2304 (fun k env mem => ∃ (v12 : List (BitVec 8)) (v13 : Int), digestWordsL2 a0 k v12 v13 = some res ∧ env = [(3, .ref 2241 v12.length 0 v12.length), (7, .d ((eL 1 eU64) a0)), (8, .d (eI (a0.length : Int))), (9, .d (eI v13))] ∧ mem = [(2241, .row true 1 (v12.map eU8))]) FUEL ⟨_, _, Settled.refl, _, _, ⟨_, _, h, rfl, rfl⟩, ⟨rfl, ⟨⟨rfl, rfl⟩, ⟨⟨rfl, rfl⟩, ⟨⟨rfl, rfl⟩, ⟨⟨rfl, rfl⟩, trivial⟩⟩⟩⟩, ⟨⟨rfl, rfl⟩, trivial⟩⟩, rfl⟩ (fun k2 env1 mem1 hI K14 hK14 => ?_)
    obtain ⟨v12, v13, h, rfl, rfl⟩ := hI
    cases k2 with
    | zero => simp [digestWordsL2] at h
    | succ k2 =>
      rw [digestWordsL2] at h
      refine rwp_seq fun K15 hK15 => ?_
      refine rwp_region fun K16 hK16 => ?_
      refine st0 2368 rfl (ok (lssI _ _)) ?_
      refine hK16 _ _ ?_
      simp only [thenK, blockK, keepE, updM, List.filter_cons, List.filter_nil, List.nil_append, List.cons_append, List.map_cons, List.map_nil, envE, Mem.get, Nat.reduceEqDiff, reduceIte, Option.isNone_none, Option.isNone_some, Bool.false_eq_true, List.length_cons, List.length_nil, Nat.reduceAdd, Nat.reduceMul]
      refine hK15 _ _ _ ?_
      refine rwp_seq fun K17 hK17 => ?_
      rcases Bool.eq_false_or_eq_true ((decide (v13 < (a0.length : Int)))) with h18 | h18
      · replace h := ite_t h h18
        refine rwp_t (isT h18) ?_
        refine rwp_skip ?_
        refine hK17 _ _ _ ?_
        refine rwp_join ([], []) 3840 (fun env mem => ∃ (v19 : List (BitVec 8)), digestWordsJ3 (digestWordsL2 a0 k2) v13 v19 = some res ∧ env = [(3, .ref 2241 v19.length 0 v19.length), (7, .d ((eL 1 eU64) a0)), (8, .d (eI (a0.length : Int))), (9, .d (eI v13))] ∧ mem = [(2241, .row true 1 (v19.map eU8))]) (fun _ _ hI => ?_) (fun K20 hK20 => ?_)
        · obtain ⟨v19, h, rfl, rfl⟩ := hI
          unfold digestWordsJ3 at h
          refine rwp_region fun K21 hK21 => ?_
          refine st0 3904 rfl (ok (addI _ (1 : Int))) ?_
          refine st0 3968 rfl (ok (mv (.d (eI (w64 (v13 + (1 : Int))))))) ?_
          refine hK21 _ _ ?_
          simp only [thenK, blockK, keepE, updM, List.filter_cons, List.filter_nil, List.nil_append, List.cons_append, List.map_cons, List.map_nil, envE, Mem.get, Nat.reduceEqDiff, reduceIte, Option.isNone_none, Option.isNone_some, Bool.false_eq_true, List.length_cons, List.length_nil, Nat.reduceAdd, Nat.reduceMul]
          exact hK14.out _ _ _ k2 (Nat.lt_succ_self k2) ⟨_, _, Settled.refl, _, _, ⟨_, _, h, rfl, rfl⟩, ⟨rfl, ⟨⟨rfl, rfl⟩, ⟨⟨rfl, rfl⟩, ⟨⟨rfl, rfl⟩, ⟨⟨rfl, rfl⟩, trivial⟩⟩⟩⟩, ⟨⟨rfl, rfl⟩, trivial⟩⟩, rfl⟩
        · refine rwp_block fun K22 hK22 => ?_
          refine rwp_seq fun K23 hK23 => ?_
          refine rwp_region fun K24 hK24 => ?_
          obtain ⟨h25, h⟩ := asq_inv h
          refine st0 2432 rfl (ok (iaL (e := eU64) (xs := a0) 0#64 h25)) ?_
          refine st0 2496 rfl (ok (ld_i (v := eU64 (a0.getD v13.toNat 0#64)) rfl rfl)) ?_
          refine st0 2560 rfl (ok (mv (.d (eU64 (a0.getD v13.toNat 0#64))))) ?_
          refine hK24 _ _ ?_
          simp only [thenK, blockK, keepE, updM, List.filter_cons, List.filter_nil, List.nil_append, List.cons_append, List.map_cons, List.map_nil, envE, Mem.get, Nat.reduceEqDiff, reduceIte, Option.isNone_none, Option.isNone_some, Bool.false_eq_true, List.length_cons, List.length_nil, Nat.reduceAdd, Nat.reduceMul]
          refine hK23 _ _ _ ?_
          refine rwp_seq fun K26 hK26 => ?_
          refine rwp_region fun K27 hK27 => ?_
          refine st0 2624 rfl (ok (mv (.d (eI (0 : Int))))) ?_
          refine hK27 _ _ ?_
          simp only [thenK, blockK, keepE, updM, List.filter_cons, List.filter_nil, List.nil_append, List.cons_append, List.map_cons, List.map_nil, envE, Mem.get, Nat.reduceEqDiff, reduceIte, Option.isNone_none, Option.isNone_some, Bool.false_eq_true, List.length_cons, List.length_nil, Nat.reduceAdd, Nat.reduceMul]
          refine hK26 _ _ _ ?_
          refine rwp_block fun K28 hK28 => ?_
          refine rwp_loop ([], []) 3712 (fun k env mem => ∃ (v29 : List (BitVec 8)) (v30 : Int), digestWordsL4 (digestWordsL2 a0 k2) a0 v13 k v29 v30 = some res ∧ env = [(3, .ref 2241 v29.length 0 v29.length), (5, .d (eU64 (a0.getD v13.toNat 0#64))), (7, .d ((eL 1 eU64) a0)), (8, .d (eI (a0.length : Int))), (9, .d (eI v13)), (13, .d (eI v30))] ∧ mem = [(2241, .row true 1 (v29.map eU8))]) FUEL ⟨_, _, Settled.refl, _, _, ⟨_, _, h, rfl, rfl⟩, ⟨rfl, ⟨⟨rfl, rfl⟩, ⟨⟨rfl, rfl⟩, ⟨⟨rfl, rfl⟩, ⟨⟨rfl, rfl⟩, ⟨⟨rfl, rfl⟩, ⟨⟨rfl, rfl⟩, trivial⟩⟩⟩⟩⟩⟩, ⟨⟨rfl, rfl⟩, trivial⟩⟩, rfl⟩ (fun k4 env1 mem1 hI K31 hK31 => ?_)
          obtain ⟨v29, v30, h, rfl, rfl⟩ := hI
          cases k4 with
          | zero => simp [digestWordsL4] at h
          | succ k4 =>
            rw [digestWordsL4] at h
            refine rwp_seq fun K32 hK32 => ?_
            refine rwp_region fun K33 hK33 => ?_
            refine st0 3776 rfl (ok (lssI _ (8 : Int))) ?_
            refine hK33 _ _ ?_
            simp only [thenK, blockK, keepE, updM, List.filter_cons, List.filter_nil, List.nil_append, List.cons_append, List.map_cons, List.map_nil, envE, Mem.get, Nat.reduceEqDiff, reduceIte, Option.isNone_none, Option.isNone_some, Bool.false_eq_true, List.length_cons, List.length_nil, Nat.reduceAdd, Nat.reduceMul]
            refine hK32 _ _ _ ?_
            refine rwp_seq fun K34 hK34 => ?_
            rcases Bool.eq_false_or_eq_true ((decide (v30 < (8 : Int)))) with h35 | h35
            · replace h := ite_t h h35
              refine rwp_t (isT h35) ?_
              refine rwp_skip ?_
              refine hK34 _ _ _ ?_
              refine rwp_seq fun K36 hK36 => ?_
              refine rwp_block fun K37 hK37 => ?_
              refine rwp_seq fun K38 hK38 => ?_
              refine rwp_region fun K39 hK39 => ?_
              refine st0 3840 rfl (ok (mv (.d (eI v30)))) ?_
              refine st0 3904 rfl (ok (mv (.d (eI v30)))) ?_
              refine hK39 _ _ ?_
              simp only [thenK, blockK, keepE, updM, List.filter_cons, List.filter_nil, List.nil_append, List.cons_append, List.map_cons, List.map_nil, envE, Mem.get, Nat.reduceEqDiff, reduceIte, Option.isNone_none, Option.isNone_some, Bool.false_eq_true, List.length_cons, List.length_nil, Nat.reduceAdd, Nat.reduceMul]
              refine hK38 _ _ _ ?_
              refine rwp_region fun K40 hK40 => ?_
              refine st0 3968 rfl (ok (mv (.ref 2241 v29.length 0 v29.length))) ?_
              refine st0 4032 rfl (ok (mv (.d (eU64 (a0.getD v13.toNat 0#64))))) ?_
              refine st0 4096 rfl (ok (mv (.d (eI v30)))) ?_
              refine st0 4160 rfl (ok (mulI (8 : Int) _)) ?_
              refine st0 4224 rfl (ok (subI (56 : Int) _)) ?_
              obtain ⟨h41, h⟩ := asq_inv h
              obtain ⟨v42, h43, h⟩ := lett_inv h
              refine st0e 4288 rfl (ok (shrI64 _ h41)) (congrArg (fun z => PV.d (eU64 z)) h43) ?_
              refine st0 4352 rfl (ok (cvt64_8 _)) ?_
              refine st1 4416 rfl (mem' := [(4352, .row true 1 (([(v42.setWidth 8)] : List (BitVec 8)).map eU8)), (2241, .row true 1 (v29.map eU8))]) (ok (bsl (e := eU8) (ys := ([(v42.setWidth 8)] : List (BitVec 8))) rfl rfl rfl)) rfl ?_
              obtain ⟨h44, h⟩ := asq_inv h
              refine st1 4480 rfl (mem' := [(2241, .row true 1 ((v29 ++ ([(v42.setWidth 8)] : List (BitVec 8))).map eU8)), (4352, .row true 1 (([(v42.setWidth 8)] : List (BitVec 8)).map eU8))]) (ok (appR (e := eU8) (xs := v29) (ys := ([(v42.setWidth 8)] : List (BitVec 8))) (contR (xs := ([(v42.setWidth 8)] : List (BitVec 8))) rfl rfl rfl) rfl rfl rfl h44)) rfl ?_
              refine st0 4544 rfl (ok (mv (.ref 2241 (((v29 ++ ([(v42.setWidth 8)] : List (BitVec 8)))).length) 0 (((v29 ++ ([(v42.setWidth 8)] : List (BitVec 8)))).length)))) ?_
              refine hK40 _ _ ?_
              simp only [thenK, blockK, keepE, updM, List.filter_cons, List.filter_nil, List.nil_append, List.cons_append, List.map_cons, List.map_nil, envE, Mem.get, Nat.reduceEqDiff, reduceIte, Option.isNone_none, Option.isNone_some, Bool.false_eq_true, List.length_cons, List.length_nil, Nat.reduceAdd, Nat.reduceMul]
              refine hK37 _ _ _ ?_
              refine hK36 _ _ _ ?_
              refine rwp_region fun K45 hK45 => ?_
              refine st0 4608 rfl (ok (addI _ (1 : Int))) ?_
              refine st0 4672 rfl (ok (mv (.d (eI (w64 (v30 + (1 : Int))))))) ?_
              refine hK45 _ _ ?_
              simp only [thenK, blockK, keepE, updM, List.filter_cons, List.filter_nil, List.nil_append, List.cons_append, List.map_cons, List.map_nil, envE, Mem.get, Nat.reduceEqDiff, reduceIte, Option.isNone_none, Option.isNone_some, Bool.false_eq_true, List.length_cons, List.length_nil, Nat.reduceAdd, Nat.reduceMul]
              exact hK31.out _ _ _ k4 (Nat.lt_succ_self k4) ⟨_, _, Settled.refl, _, _, ⟨_, _, h, rfl, rfl⟩, ⟨rfl, ⟨⟨rfl, rfl⟩, ⟨⟨rfl, rfl⟩, ⟨⟨rfl, rfl⟩, ⟨⟨rfl, rfl⟩, ⟨⟨rfl, rfl⟩, ⟨⟨rfl, rfl⟩, trivial⟩⟩⟩⟩⟩⟩, ⟨⟨rfl, rfl⟩, trivial⟩⟩, rfl⟩
            · replace h := ite_f h h35
              refine rwp_f (isF h35) ?_
              refine rwp_exit ?_
              refine hK28 _ _ _ ?_
              refine hK22 _ _ _ ?_
              exact hK20 _ _ _ ⟨_, _, Settled.refl, _, _, ⟨_, h, rfl, rfl⟩, ⟨rfl, ⟨⟨rfl, rfl⟩, ⟨⟨rfl, rfl⟩, ⟨⟨rfl, rfl⟩, ⟨⟨rfl, rfl⟩, trivial⟩⟩⟩⟩, ⟨⟨rfl, rfl⟩, trivial⟩⟩, rfl⟩
      · replace h := ite_f h h18
        refine rwp_f (isF h18) ?_
        refine rwp_exit ?_
        refine hK11 _ _ _ ?_
        exact hK6 _ _ _ ⟨_, _, Settled.refl, _, _, ⟨_, h, rfl, rfl⟩, ⟨rfl, ⟨⟨rfl, rfl⟩, trivial⟩, ⟨⟨rfl, rfl⟩, trivial⟩⟩, rfl⟩

end Go.Proofs.Ty
