/- Each Go function comes to what its plain function says. PRINTED by a program of this session (ty.py). -/
import Derived.Test.YtkgdoilkneogdaaS3
set_option linter.unusedVariables false
set_option linter.unusedSimpArgs false
set_option maxHeartbeats 4000000
set_option maxRecDepth 10000
namespace Go.Proofs.Ty
open Go Go.RW Go.Proofs
/-- passkey/challenge.Use -/
def challengeUseH : Hints := ⟨[(0, [1, 2, 3, 4, 8, 9]), (1, [1, 2, 3, 4, 8, 9, 19]), (2, [8, 9, 10]), (3, [1, 2, 4, 8, 9, 11]), (4, [1, 2, 4, 8, 9, 11, 26, 27, 28]), (5, [1, 2, 4, 8, 9, 11, 26, 27, 28, 29]), (6, [1, 2, 4, 8, 9, 11, 12, 13, 26, 27, 28]), (7, [1, 2, 4, 8, 9, 11, 12, 13, 26, 27, 28, 45]), (8, [8, 9, 11, 13]), (9, [8, 9, 10]), (10, [1, 2, 4, 8, 9, 11, 26, 27, 28]), (11, [8, 9, 10])], []⟩
def challengeUseRc : RCode :=
  .seq (.region false [⟨some 4, .box, [.t 0], none, []⟩, ⟨some 8, .alloc [.d (.int .u64 0), .d (.int .i64 0), .nil 5], [], none, []⟩, ⟨some 9, .alloc [.d (.int .i64 0), .d (.int .i64
  0), .d (.str ⟨#[]⟩), .d (.bool false), .d (.int .i64 0)], [], none, []⟩, ⟨some 10, .mv, [.k (.d (.int .i64 0))], none, []⟩] [1, 2, 3, 4, 8, 9]) (.seq (.seq (.region false [⟨some
  14, .mv, [.t 3], none, []⟩, ⟨some 15, .bin .lss, [.t 14, .k (.d (.int .i64 0))], none, []⟩, ⟨some 16, .mv, [.t 15], none, []⟩, ⟨some 17, .mv, [.t 3], some (16, false), []⟩, ⟨some
  18, .bin .gtr, [.t 17, .k (.d (.int .i64 1099511627776))], some (16, false), []⟩, ⟨some 19, .pick, [.t 16, .k (.d (.bool true)), .t 18], none, []⟩] [1, 2, 3, 4, 8, 9, 19]) (.cond
  (.t 19) (.seq (.region false [⟨some 20, .load 3 true, [.t 4], none, []⟩, ⟨some 21, .build [.d (.int .i64 0), .d (.int .i64 0), .d (.str ⟨#[]⟩), .d (.bool false), .d (.int .i64
  0)] [], [], none, []⟩, ⟨none, .store 3, [.t 8, .t 20], none, []⟩, ⟨none, .store 5, [.t 9, .t 21], none, []⟩, ⟨some 10, .mv, [.k (.d (.int .i64 9))], none, []⟩] [8, 9, 10]) .ret)
  .skip)) (.seq (.region false [⟨some 22, .load 3 true, [.t 4], none, []⟩, ⟨some 23, .mv, [.t 3], none, []⟩, ⟨some 24, .call 17 true, [.t 22, .t 23], none, []⟩, ⟨some 11, .alloc
  [.d (.int .u64 0), .d (.int .i64 0), .nil 5], [], none, []⟩, ⟨none, .store 3, [.t 11, .t 24], none, []⟩] [1, 2, 4, 8, 9, 11]) (.seq (.seq (.region false [⟨some 25, .fa 2, [.t
  11], none, []⟩, ⟨some 26, .load 1 false, [.t 25], none, []⟩, ⟨some 27, .len, [.t 26], none, []⟩, ⟨some 28, .mv, [.k (.d (.int .i64 0))], none, []⟩] [1, 2, 4, 8, 9, 11, 26, 27,
  28]) (.block 0 (.loop [] (.seq (.region false [⟨some 29, .bin .lss, [.t 28, .t 27], none, []⟩] [1, 2, 4, 8, 9, 11, 26, 27, 28, 29]) (.seq (.cond (.t 29) .skip (.exit 0)) (.seq
  (.block 1 (.seq (.region false [⟨some 30, .mv, [.t 28], none, []⟩, ⟨some 31, .ia 5, [.t 26, .t 28], none, []⟩, ⟨some 32, .load 5 true, [.t 31], none, []⟩, ⟨some 13, .alloc [.d
  (.int .i64 0), .d (.int .i64 0), .d (.str ⟨#[]⟩), .d (.bool false), .d (.int .i64 0)], [], none, []⟩, ⟨some 12, .mv, [.t 30], none, []⟩, ⟨none, .store 5, [.t 13, .t 32], none,
  []⟩] [1, 2, 4, 8, 9, 11, 12, 13, 26, 27, 28]) (.seq (.region true [⟨some 33, .fa 1, [.t 13], none, []⟩, ⟨some 34, .load 1 false, [.t 33], none, [0]⟩, ⟨some 35, .mv, [.t 2], none,
  []⟩, ⟨some 36, .bin .eql, [.t 34, .t 35], none, [0, 1, 2]⟩, ⟨some 37, .mv, [.t 36], none, [0, 1, 2, 3]⟩, ⟨some 38, .load 3 true, [.t 4], some (37, true), [0, 1, 2, 3, 4]⟩, ⟨some
  39, .load 5 true, [.t 13], some (37, true), [0, 1, 2, 3, 4]⟩, ⟨some 40, .call 7 true, [.t 38, .t 39], some (37, true), [0, 1, 2, 3, 4, 5, 6]⟩, ⟨some 41, .b2s, [.t 40], some (37,
  true), [0, 1, 2, 3, 4, 5, 6, 7]⟩, ⟨some 42, .mv, [.t 1], some (37, true), [0, 1, 2, 3, 4]⟩, ⟨some 43, .b2s, [.t 42], some (37, true), [0, 1, 2, 3, 4, 9]⟩, ⟨some 44, .bin .eql,
  [.t 41, .t 43], some (37, true), [0, 1, 2, 3, 4, 5, 6, 7, 8, 9, 10]⟩, ⟨some 45, .pick, [.t 37, .t 44, .k (.d (.bool false))], none, [0, 1, 2, 3, 4, 5, 6, 7, 8, 9, 10, 11]⟩] [1,
  2, 4, 8, 9, 11, 12, 13, 26, 27, 28, 45]) (.cond (.t 45) (.seq (.region true [⟨some 46, .fa 2, [.t 11], none, []⟩, ⟨some 47, .load 1 false, [.t 46], none, [0]⟩, ⟨some 48, .mv, [.t
  12], none, []⟩, ⟨some 49, .slice 5 false true false, [.t 47, .t 48], none, [0, 1, 2]⟩, ⟨some 50, .fa 2, [.t 11], none, []⟩, ⟨some 51, .load 1 false, [.t 50], none, [4]⟩, ⟨some
  52, .mv, [.t 12], none, []⟩, ⟨some 53, .bin .add, [.t 52, .k (.d (.int .i64 1))], none, [6]⟩, ⟨some 54, .slice 5 true false false, [.t 51, .t 53], none, [4, 5, 6, 7]⟩, ⟨some 55,
  .app 5 2932031007402, [.t 49, .t 54], none, [0, 1, 2, 3, 4, 5, 6, 7, 8]⟩, ⟨some 56, .fa 2, [.t 11], none, [0, 1, 2, 3, 4, 5, 6, 7, 8, 9]⟩, ⟨none, .store 1, [.t 56, .t 55], none,
  [0, 1, 2, 3, 4, 5, 6, 7, 8, 9, 10]⟩] [8, 9, 11, 13]) (.seq (.region true [⟨some 57, .load 3 true, [.t 11], none, []⟩, ⟨some 58, .load 5 true, [.t 13], none, []⟩, ⟨none, .store 3,
  [.t 8, .t 57], none, [0]⟩, ⟨none, .store 5, [.t 9, .t 58], none, [0, 1, 2]⟩, ⟨some 10, .mv, [.k (.d (.int .i64 0))], none, [0, 1, 2, 3]⟩] [8, 9, 10]) .ret)) .skip)))) (.region
  false [⟨some 59, .bin .add, [.t 28, .k (.d (.int .i64 1))], none, []⟩, ⟨some 28, .mv, [.t 59], none, []⟩] [1, 2, 4, 8, 9, 11, 26, 27, 28]))))))) (.seq (.region false [⟨some 60,
  .load 3 true, [.t 4], none, []⟩, ⟨some 61, .build [.d (.int .i64 0), .d (.int .i64 0), .d (.str ⟨#[]⟩), .d (.bool false), .d (.int .i64 0)] [], [], none, []⟩, ⟨none, .store 3,
  [.t 8, .t 60], none, []⟩, ⟨none, .store 5, [.t 9, .t 61], none, []⟩, ⟨some 10, .mv, [.k (.d (.int .i64 35))], none, []⟩] [8, 9, 10]) .ret))))
def challengeUseRr : List RR := [.c 8 3 true, .c 9 5 true, .t 10]
theorem challengeUseC : compFn Try.prog 12 challengeUseH = some (challengeUseRc, challengeUseRr, 62) := by kernel_rfl
theorem challengeUseOK (a0 : TApiChallenges) (a1 : List (BitVec 8)) (a2 : Int) (a3 : Int) (res : TApiChallenges × TApiChallenge × Int) (h : challengeUse a0 a1 a2 a3 = some res) : CallOK Try.prog 12 [.d (eTApiChallenges a0), .d ((eL 1 eU8) a1), .d (eI a2), .d (eI a3)] [] (.tup [.d (eTApiChallenges res.1), .d (eTApiChallenge res.2.1), .d (eI res.2.2)]) [] := by
  unfold challengeUse at h
  refine callOK challengeUseC fm rfl ?_
  simp only [initE, initM, nbor, List.map_cons, List.map_nil, Nat.reduceAdd]
  unfold challengeUseRc
  refine rwp_seq fun K1 hK1 => ?_
  refine rwp_region fun K2 hK2 => ?_
  refine st1 128 rfl (mem' := [(64, .var .mine [.d (eU64 a0.Secret), .d (eI a0.Count), .d ((eL 5 eTApiChallenge) a0.Open)])]) (ok (bx (ps := [.d (eU64 a0.Secret), .d (eI a0.Count), .d ((eL 5 eTApiChallenge) a0.Open)]) rfl rfl)) rfl ?_
  refine st1 192 rfl (mem' := [(128, .var .mine [.d (eU64 (0#64)), .d (eI (0 : Int)), .nil 5]), (64, .var .mine [.d (eU64 a0.Secret), .d (eI a0.Count), .d ((eL 5 eTApiChallenge) a0.Open)])]) (ok (alc (zs := [.d (eU64 (0#64)), .d (eI (0 : Int)), .nil 5]))) rfl ?_
  refine st1 256 rfl (mem' := [(192, .var .mine [.d (eI (0 : Int)), .d (eI (0 : Int)), .d (eS ([] : List (BitVec 8))), .d (eB false), .d (eI (0 : Int))]), (128, .var .mine [.d (eU64 (0#64)), .d (eI (0 : Int)), .nil 5]), (64, .var .mine [.d (eU64 a0.Secret), .d (eI a0.Count), .d ((eL 5 eTApiChallenge) a0.Open)])]) (ok (alc (zs := [.d (eI (0 : Int)), .d (eI (0 : Int)), .d (eS ([] : List (BitVec 8))), .d (eB false), .d (eI (0 : Int))]))) rfl ?_
  refine st0 320 rfl (ok (mv (.d (eI (0 : Int))))) ?_
  refine hK2 _ _ ?_
  simp only [thenK, blockK, keepE, updM, List.filter_cons, List.filter_nil, List.nil_append, List.cons_append, List.map_cons, List.map_nil, envE, Mem.get, Nat.reduceEqDiff, reduceIte, Option.isNone_none, Option.isNone_some, Bool.false_eq_true, List.length_cons, List.length_nil, Nat.reduceAdd, Nat.reduceMul]
  refine hK1 _ _ _ ?_
  refine rwp_seq fun K3 hK3 => ?_
  refine rwp_join ([], []) 768 (fun env mem => ∃ (v4 : Bool), challengeUseJ1 a0 a1 a2 a3 v4 = some res ∧ env = [(1, .d ((eL 1 eU8) a1)), (2, .d (eI a2)), (3, .d (eI a3)), (4, .ptr 64 0), (8, .ptr 128 0), (9, .ptr 192 0), (19, .d (eB v4))] ∧ mem = [(64, .var .mine [.d (eU64 a0.Secret), .d (eI a0.Count), .d ((eL 5 eTApiChallenge) a0.Open)]), (128, .var .mine [.d (eU64 (0#64)), .d (eI (0 : Int)), .nil 5]), (192, .var .mine [.d (eI (0 : Int)), .d (eI (0 : Int)), .d (eS ([] : List (BitVec 8))), .d (eB false), .d (eI (0 : Int))])]) (fun _ _ hI => ?_) (fun K5 hK5 => ?_)
  · obtain ⟨v4, h, rfl, rfl⟩ := hI
    unfold challengeUseJ1 at h
    rcases Bool.eq_false_or_eq_true (v4) with h6 | h6
    · replace h := ite_t h h6
      refine rwp_t (isT h6) ?_
      refine rwp_seq fun K7 hK7 => ?_
      refine rwp_region fun K8 hK8 => ?_
      refine st0 832 rfl (ok (ld_v (v := .d (.agg [eU64 a0.Secret, eI a0.Count, (eL 5 eTApiChallenge) a0.Open])) rfl rfl rfl)) ?_
      refine st0 896 rfl (ok (bld (v := .d (.agg [eI (0 : Int), eI (0 : Int), eS ([] : List (BitVec 8)), eB false, eI (0 : Int)])) rfl rfl)) ?_
      refine stn 960 rfl (mem' := [(128, .var .mine [.d (eU64 a0.Secret), .d (eI a0.Count), .d ((eL 5 eTApiChallenge) a0.Open)]), (64, .var .mine [.d (eU64 a0.Secret), .d (eI a0.Count), .d ((eL 5 eTApiChallenge) a0.Open)]), (192, .var .mine [.d (eI (0 : Int)), .d (eI (0 : Int)), .d (eS ([] : List (BitVec 8))), .d (eB false), .d (eI (0 : Int))])]) (ok (sto_v (ps' := [.d (eU64 a0.Secret), .d (eI a0.Count), .d ((eL 5 eTApiChallenge) a0.Open)]) rfl rfl rfl rfl)) rfl ?_
      refine stn 1024 rfl (mem' := [(192, .var .mine [.d (eI (0 : Int)), .d (eI (0 : Int)), .d (eS ([] : List (BitVec 8))), .d (eB false), .d (eI (0 : Int))]), (128, .var .mine [.d (eU64 a0.Secret), .d (eI a0.Count), .d ((eL 5 eTApiChallenge) a0.Open)]), (64, .var .mine [.d (eU64 a0.Secret), .d (eI a0.Count), .d ((eL 5 eTApiChallenge) a0.Open)])]) (ok (sto_v (ps' := [.d (eI (0 : Int)), .d (eI (0 : Int)), .d (eS ([] : List (BitVec 8))), .d (eB false), .d (eI (0 : Int))]) rfl rfl rfl rfl)) rfl ?_
      refine st0 1088 rfl (ok (mv (.d (eI (9 : Int))))) ?_
      refine hK8 _ _ ?_
      simp only [thenK, blockK, keepE, updM, List.filter_cons, List.filter_nil, List.nil_append, List.cons_append, List.map_cons, List.map_nil, envE, Mem.get, Nat.reduceEqDiff, reduceIte, Option.isNone_none, Option.isNone_some, Bool.false_eq_true, List.length_cons, List.length_nil, Nat.reduceAdd, Nat.reduceMul]
      refine hK7 _ _ _ ?_
      refine rwp_ret ?_
      obtain rfl := Option.some.inj h
      try simp only [thenK, blockK, reduceIte]
      exact Or.inl (end_ok trivial (rs_c (id := 128) (off := 0) (v := .d (.agg [eU64 a0.Secret, eI a0.Count, (eL 5 eTApiChallenge) a0.Open])) rfl rfl rfl rfl (rs_c (id := 192) (off := 0) (v := .d (.agg [eI (0 : Int), eI (0 : Int), eS ([] : List (BitVec 8)), eB false, eI (0 : Int)])) rfl rfl rfl rfl (rs_t (v := .d (eI (9 : Int))) rfl rs_nil))) (en_d (to_d _) (en_d (to_d _) (en_d (to_d _) en_nil))) ou_nil (by first | exact eok rfl rfl rfl rfl trivial | (refine eok ?_ ?_ ?_ ?_ ?_ <;> first | rfl | exact trivial | simp [retM, Mem.get, PV.renL, PV.ren, Blk.ren, comps, rhoR, rhoM, appN, PV.refsL, PV.refs, keys, nodupB, Blk.refs, allIn, Blk.bor])))
    · replace h := ite_f h h6
      refine rwp_f (isF h6) ?_
      refine rwp_skip ?_
      refine hK3 _ _ _ ?_
      refine rwp_seq fun K9 hK9 => ?_
      refine rwp_region fun K10 hK10 => ?_
      refine st0 832 rfl (ok (ld_v (v := .d (.agg [eU64 a0.Secret, eI a0.Count, (eL 5 eTApiChallenge) a0.Open])) rfl rfl rfl)) ?_
      refine st0 896 rfl (ok (mv (.d (eI a3)))) ?_
      obtain ⟨y11, h12, h⟩ := bind_inv h
      refine st1 960 rfl (mem' := [(906, .row true 5 (y11.Open.map eTApiChallenge)), (64, .var .mine [.d (eU64 a0.Secret), .d (eI a0.Count), .d ((eL 5 eTApiChallenge) a0.Open)]), (128, .var .mine [.d (eU64 (0#64)), .d (eI (0 : Int)), .nil 5]), (192, .var .mine [.d (eI (0 : Int)), .d (eI (0 : Int)), .d (eS ([] : List (BitVec 8))), .d (eB false), .d (eI (0 : Int))])]) (call_ok (v := .agg [.d (eU64 y11.Secret), .d (eI y11.Count), .ref 906 y11.Open.length 0 y11.Open.length]) (u := [(906, .row true 5 (y11.Open.map eTApiChallenge))]) (ar_d (eTApiChallenges (TApiChallenges.mk a0.Secret a0.Count a0.Open)) (ar_d (eI a3) ar_nil)) rfl (challengeExpireOwnOK (TApiChallenges.mk a0.Secret a0.Count a0.Open) a3 y11 h12) rfl) rfl ?_
      refine st1 1024 rfl (mem' := [(960, .var .mine [.d (eU64 (0#64)), .d (eI (0 : Int)), .nil 5]), (906, .row true 5 (y11.Open.map eTApiChallenge)), (64, .var .mine [.d (eU64 a0.Secret), .d (eI a0.Count), .d ((eL 5 eTApiChallenge) a0.Open)]), (128, .var .mine [.d (eU64 (0#64)), .d (eI (0 : Int)), .nil 5]), (192, .var .mine [.d (eI (0 : Int)), .d (eI (0 : Int)), .d (eS ([] : List (BitVec 8))), .d (eB false), .d (eI (0 : Int))])]) (ok (alc (zs := [.d (eU64 (0#64)), .d (eI (0 : Int)), .nil 5]))) rfl ?_
      refine stn 1088 rfl (mem' := [(960, .var .mine [.d (eU64 y11.Secret), .d (eI y11.Count), .ref 906 y11.Open.length 0 y11.Open.length]), (906, .row true 5 (y11.Open.map eTApiChallenge)), (64, .var .mine [.d (eU64 a0.Secret), .d (eI a0.Count), .d ((eL 5 eTApiChallenge) a0.Open)]), (128, .var .mine [.d (eU64 (0#64)), .d (eI (0 : Int)), .nil 5]), (192, .var .mine [.d (eI (0 : Int)), .d (eI (0 : Int)), .d (eS ([] : List (BitVec 8))), .d (eB false), .d (eI (0 : Int))])]) (ok (sto_v (ps' := [.d (eU64 y11.Secret), .d (eI y11.Count), .ref 906 y11.Open.length 0 y11.Open.length]) rfl rfl rfl rfl)) rfl ?_
      refine hK10 _ _ ?_
      simp only [thenK, blockK, keepE, updM, List.filter_cons, List.filter_nil, List.nil_append, List.cons_append, List.map_cons, List.map_nil, envE, Mem.get, Nat.reduceEqDiff, reduceIte, Option.isNone_none, Option.isNone_some, Bool.false_eq_true, List.length_cons, List.length_nil, Nat.reduceAdd, Nat.reduceMul]
      refine hK9 _ _ _ ?_
      refine rwp_join ([], []) 3072 (fun env mem => challengeUseJ2 a0 = some res ∧ env = [(4, .ptr 64 0), (8, .ptr 128 0), (9, .ptr 192 0)] ∧ mem = [(64, .var .mine [.d (eU64 a0.Secret), .d (eI a0.Count), .d ((eL 5 eTApiChallenge) a0.Open)]), (128, .var .mine [.d (eU64 (0#64)), .d (eI (0 : Int)), .nil 5]), (192, .var .mine [.d (eI (0 : Int)), .d (eI (0 : Int)), .d (eS ([] : List (BitVec 8))), .d (eB false), .d (eI (0 : Int))])]) (fun _ _ hI => ?_) (fun K13 hK13 => ?_)
      · obtain ⟨h, rfl, rfl⟩ := hI
        unfold challengeUseJ2 at h
        refine rwp_seq fun K14 hK14 => ?_
        refine rwp_region fun K15 hK15 => ?_
        refine st0 3136 rfl (ok (ld_v (v := .d (.agg [eU64 a0.Secret, eI a0.Count, (eL 5 eTApiChallenge) a0.Open])) rfl rfl rfl)) ?_
        refine st0 3200 rfl (ok (bld (v := .d (.agg [eI (0 : Int), eI (0 : Int), eS ([] : List (BitVec 8)), eB false, eI (0 : Int)])) rfl rfl)) ?_
        refine stn 3264 rfl (mem' := [(128, .var .mine [.d (eU64 a0.Secret), .d (eI a0.Count), .d ((eL 5 eTApiChallenge) a0.Open)]), (64, .var .mine [.d (eU64 a0.Secret), .d (eI a0.Count), .d ((eL 5 eTApiChallenge) a0.Open)]), (192, .var .mine [.d (eI (0 : Int)), .d (eI (0 : Int)), .d (eS ([] : List (BitVec 8))), .d (eB false), .d (eI (0 : Int))])]) (ok (sto_v (ps' := [.d (eU64 a0.Secret), .d (eI a0.Count), .d ((eL 5 eTApiChallenge) a0.Open)]) rfl rfl rfl rfl)) rfl ?_
        refine stn 3328 rfl (mem' := [(192, .var .mine [.d (eI (0 : Int)), .d (eI (0 : Int)), .d (eS ([] : List (BitVec 8))), .d (eB false), .d (eI (0 : Int))]), (128, .var .mine [.d (eU64 a0.Secret), .d (eI a0.Count), .d ((eL 5 eTApiChallenge) a0.Open)]), (64, .var .mine [.d (eU64 a0.Secret), .d (eI a0.Count), .d ((eL 5 eTApiChallenge) a0.Open)])]) (ok (sto_v (ps' := [.d (eI (0 : Int)), .d (eI (0 : Int)), .d (eS ([] : List (BitVec 8))), .d (eB false), .d (eI (0 : Int))]) rfl rfl rfl rfl)) rfl ?_
        refine st0 3392 rfl (ok (mv (.d (eI (35 : Int))))) ?_
        refine hK15 _ _ ?_
        simp only [thenK, blockK, keepE, updM, List.filter_cons, List.filter_nil, List.nil_append, List.cons_append, List.map_cons, List.map_nil, envE, Mem.get, Nat.reduceEqDiff, reduceIte, Option.isNone_none, Option.isNone_some, Bool.false_eq_true, List.length_cons, List.length_nil, Nat.reduceAdd, Nat.reduceMul]
        refine hK14 _ _ _ ?_
        refine rwp_ret ?_
        obtain rfl := Option.some.inj h
        try simp only [thenK, blockK, reduceIte]
        exact Or.inl (end_ok trivial (rs_c (id := 128) (off := 0) (v := .d (.agg [eU64 a0.Secret, eI a0.Count, (eL 5 eTApiChallenge) a0.Open])) rfl rfl rfl rfl (rs_c (id := 192) (off := 0) (v := .d (.agg [eI (0 : Int), eI (0 : Int), eS ([] : List (BitVec 8)), eB false, eI (0 : Int)])) rfl rfl rfl rfl (rs_t (v := .d (eI (35 : Int))) rfl rs_nil))) (en_d (to_d _) (en_d (to_d _) (en_d (to_d _) en_nil))) ou_nil (by first | exact eok rfl rfl rfl rfl trivial | (refine eok ?_ ?_ ?_ ?_ ?_ <;> first | rfl | exact trivial | simp [retM, Mem.get, PV.renL, PV.ren, Blk.ren, comps, rhoR, rhoM, appN, PV.refsL, PV.refs, keys, nodupB, Blk.refs, allIn, Blk.bor])))
      · refine rwp_seq fun K16 hK16 => ?_
        refine rwp_region fun K17 hK17 => ?_
        refine st0 1152 rfl (ok (fa_k 2 rfl)) ?_
        refine st0 1216 rfl (ok (ld_v (v := .ref 906 y11.Open.length 0 y11.Open.length) rfl rfl rfl)) ?_
        refine st0 1280 rfl (ok (lenR _ _ _ _)) ?_
        refine st0 1344 rfl (ok (mv (.d (eI (0 : Int))))) ?_
        refine hK17 _ _ ?_
        simp only [thenK, blockK, keepE, updM, List.filter_cons, List.filter_nil, List.nil_append, List.cons_append, List.map_cons, List.map_nil, envE, Mem.get, Nat.reduceEqDiff, reduceIte, Option.isNone_none, Option.isNone_some, Bool.false_eq_true, List.length_cons, List.length_nil, Nat.reduceAdd, Nat.reduceMul]
        refine hK16 _ _ _ ?_
        refine rwp_block fun K18 hK18 => ?_
        refine rwp_loop ([], []) 2944 (fun k env mem => ∃ (v19 : Int), challengeUseL3 a0 a1 a2 y11 k v19 = some res ∧ env = [(1, .d ((eL 1 eU8) a1)), (2, .d (eI a2)), (4, .ptr 64 0), (8, .ptr 128 0), (9, .ptr 192 0), (11, .ptr 960 0), (26, .ref 906 y11.Open.length 0 y11.Open.length), (27, .d (eI (y11.Open.length : Int))), (28, .d (eI v19))] ∧ mem = [(64, .var .mine [.d (eU64 a0.Secret), .d (eI a0.Count), .d ((eL 5 eTApiChallenge) a0.Open)]), (128, .var .mine [.d (eU64 (0#64)), .d (eI (0 : Int)), .nil 5]), (192, .var .mine [.d (eI (0 : Int)), .d (eI (0 : Int)), .d (eS ([] : List (BitVec 8))), .d (eB false), .d (eI (0 : Int))]), (960, .var .mine [.d (eU64 y11.Secret), .d (eI y11.Count), .ref 906 y11.Open.length 0 y11.Open.length]), (906, .row true 5 (y11.Open.map eTApiChallenge))]) FUEL ⟨_, _, Settled.refl, _, _, ⟨_, h, rfl, rfl⟩, ⟨rfl, ⟨⟨rfl, rfl⟩, ⟨⟨rfl, rfl⟩, ⟨⟨rfl, rfl⟩, ⟨⟨rfl, rfl⟩, ⟨⟨rfl, rfl⟩, ⟨⟨rfl, rfl⟩, ⟨⟨rfl, rfl⟩, ⟨⟨rfl, rfl⟩, ⟨⟨rfl, rfl⟩, trivial⟩⟩⟩⟩⟩⟩⟩⟩⟩, ⟨⟨rfl, rfl⟩, ⟨⟨rfl, rfl⟩, ⟨⟨rfl, rfl⟩, ⟨⟨rfl, rfl⟩, ⟨⟨rfl, rfl⟩, trivial⟩⟩⟩⟩⟩⟩, rfl⟩ (fun k3 env1 mem1 hI K20 hK20 => ?_)
        obtain ⟨v19, h, rfl, rfl⟩ := hI
        cases k3 with
        | zero => simp [challengeUseL3] at h
        | succ k3 =>
          rw [challengeUseL3] at h
          refine rwp_seq fun K21 hK21 => ?_
          refine rwp_region fun K22 hK22 => ?_
          refine st0 3008 rfl (ok (lssI _ _)) ?_
          refine hK22 _ _ ?_
          simp only [thenK, blockK, keepE, updM, List.filter_cons, List.filter_nil, List.nil_append, List.cons_append, List.map_cons, List.map_nil, envE, Mem.get, Nat.reduceEqDiff, reduceIte, Option.isNone_none, Option.isNone_some, Bool.false_eq_true, List.length_cons, List.length_nil, Nat.reduceAdd, Nat.reduceMul]
          refine hK21 _ _ _ ?_
          refine rwp_seq fun K23 hK23 => ?_
          rcases Bool.eq_false_or_eq_true ((decide (v19 < (y11.Open.length : Int)))) with h24 | h24
          · replace h := ite_t h h24
            refine rwp_t (isT h24) ?_
            refine rwp_skip ?_
            refine hK23 _ _ _ ?_
            refine rwp_seq fun K25 hK25 => ?_
            refine rwp_block fun K26 hK26 => ?_
            refine rwp_seq fun K27 hK27 => ?_
            refine rwp_region fun K28 hK28 => ?_
            refine st0 3072 rfl (ok (mv (.d (eI v19)))) ?_
            obtain ⟨h29, h⟩ := asq_inv h
            refine st0 3136 rfl (ok (iaR (xs := y11.Open) (e := eTApiChallenge) rfl rfl h29)) ?_
            refine st0 3200 rfl (ok (ld_r (e := eTApiChallenge) (xs := y11.Open) (TApiChallenge.mk (0 : Int) (0 : Int) ([] : List (BitVec 8)) false (0 : Int)) rfl rfl (by have := h29; simp at this ⊢; omega) rfl)) ?_
            refine st1 3264 rfl (mem' := [(3200, .var .mine [.d (eI (0 : Int)), .d (eI (0 : Int)), .d (eS ([] : List (BitVec 8))), .d (eB false), .d (eI (0 : Int))]), (64, .var .mine [.d (eU64 a0.Secret), .d (eI a0.Count), .d ((eL 5 eTApiChallenge) a0.Open)]), (128, .var .mine [.d (eU64 (0#64)), .d (eI (0 : Int)), .nil 5]), (192, .var .mine [.d (eI (0 : Int)), .d (eI (0 : Int)), .d (eS ([] : List (BitVec 8))), .d (eB false), .d (eI (0 : Int))]), (960, .var .mine [.d (eU64 y11.Secret), .d (eI y11.Count), .ref 906 y11.Open.length 0 y11.Open.length]), (906, .row true 5 (y11.Open.map eTApiChallenge))]) (ok (alc (zs := [.d (eI (0 : Int)), .d (eI (0 : Int)), .d (eS ([] : List (BitVec 8))), .d (eB false), .d (eI (0 : Int))]))) rfl ?_
            refine st0 3328 rfl (ok (mv (.d (eI v19)))) ?_
            refine stn 3392 rfl (mem' := [(3200, .var .mine [.d (eI ((y11.Open.getD (0 + v19.toNat) (TApiChallenge.mk (0 : Int) (0 : Int) ([] : List (BitVec 8)) false (0 : Int))).Number)), .d (eI ((y11.Open.getD (0 + v19.toNat) (TApiChallenge.mk (0 : Int) (0 : Int) ([] : List (BitVec 8)) false (0 : Int))).Kind)), .d (eS ((y11.Open.getD (0 + v19.toNat) (TApiChallenge.mk (0 : Int) (0 : Int) ([] : List (BitVec 8)) false (0 : Int))).Account)), .d (eB ((y11.Open.getD (0 + v19.toNat) (TApiChallenge.mk (0 : Int) (0 : Int) ([] : List (BitVec 8)) false (0 : Int))).Bound)), .d (eI ((y11.Open.getD (0 + v19.toNat) (TApiChallenge.mk (0 : Int) (0 : Int) ([] : List (BitVec 8)) false (0 : Int))).Since))]), (64, .var .mine [.d (eU64 a0.Secret), .d (eI a0.Count), .d ((eL 5 eTApiChallenge) a0.Open)]), (128, .var .mine [.d (eU64 (0#64)), .d (eI (0 : Int)), .nil 5]), (192, .var .mine [.d (eI (0 : Int)), .d (eI (0 : Int)), .d (eS ([] : List (BitVec 8))), .d (eB false), .d (eI (0 : Int))]), (960, .var .mine [.d (eU64 y11.Secret), .d (eI y11.Count), .ref 906 y11.Open.length 0 y11.Open.length]), (906, .row true 5 (y11.Open.map eTApiChallenge))]) (ok (sto_v (ps' := [.d (eI ((y11.Open.getD (0 + v19.toNat) (TApiChallenge.mk (0 : Int) (0 : Int) ([] : List (BitVec 8)) false (0 : Int))).Number)), .d (eI ((y11.Open.getD (0 + v19.toNat) (TApiChallenge.mk (0 : Int) (0 : Int) ([] : List (BitVec 8)) false (0 : Int))).Kind)), .d (eS ((y11.Open.getD (0 + v19.toNat) (TApiChallenge.mk (0 : Int) (0 : Int) ([] : List (BitVec 8)) false (0 : Int))).Account)), .d (eB ((y11.Open.getD (0 + v19.toNat) (TApiChallenge.mk (0 : Int) (0 : Int) ([] : List (BitVec 8)) false (0 : Int))).Bound)), .d (eI ((y11.Open.getD (0 + v19.toNat) (TApiChallenge.mk (0 : Int) (0 : Int) ([] : List (BitVec 8)) false (0 : Int))).Since))]) rfl rfl rfl rfl)) rfl ?_
            refine hK28 _ _ ?_
            simp only [thenK, blockK, keepE, updM, List.filter_cons, List.filter_nil, List.nil_append, List.cons_append, List.map_cons, List.map_nil, envE, Mem.get, Nat.reduceEqDiff, reduceIte, Option.isNone_none, Option.isNone_some, Bool.false_eq_true, List.length_cons, List.length_nil, Nat.reduceAdd, Nat.reduceMul]
            refine hK27 _ _ _ ?_
            refine rwp_join ([], []) 4288 (fun env mem => ∃ (v30 : Bool), challengeUseJ4 (challengeUseL3 a0 a1 a2 y11 k3) y11 v19 v30 = some res ∧ env = [(1, .d ((eL 1 eU8) a1)), (2, .d (eI a2)), (4, .ptr 64 0), (8, .ptr 128 0), (9, .ptr 192 0), (11, .ptr 960 0), (12, .d (eI v19)), (13, .ptr 3200 0), (26, .ref 906 y11.Open.length 0 y11.Open.length), (27, .d (eI (y11.Open.length : Int))), (28, .d (eI v19)), (45, .d (eB v30))] ∧ mem = [(64, .var .mine [.d (eU64 a0.Secret), .d (eI a0.Count), .d ((eL 5 eTApiChallenge) a0.Open)]), (128, .var .mine [.d (eU64 (0#64)), .d (eI (0 : Int)), .nil 5]), (192, .var .mine [.d (eI (0 : Int)), .d (eI (0 : Int)), .d (eS ([] : List (BitVec 8))), .d (eB false), .d (eI (0 : Int))]), (960, .var .mine [.d (eU64 y11.Secret), .d (eI y11.Count), .ref 906 y11.Open.length 0 y11.Open.length]), (906, .row true 5 (y11.Open.map eTApiChallenge)), (3200, .var .mine [.d (eI ((y11.Open.getD (0 + v19.toNat) (TApiChallenge.mk (0 : Int) (0 : Int) ([] : List (BitVec 8)) false (0 : Int))).Number)), .d (eI ((y11.Open.getD (0 + v19.toNat) (TApiChallenge.mk (0 : Int) (0 : Int) ([] : List (BitVec 8)) false (0 : Int))).Kind)), .d (eS ((y11.Open.getD (0 + v19.toNat) (TApiChallenge.mk (0 : Int) (0 : Int) ([] : List (BitVec 8)) false (0 : Int))).Account)), .d (eB ((y11.Open.getD (0 + v19.toNat) (TApiChallenge.mk (0 : Int) (0 : Int) ([] : List (BitVec 8)) false (0 : Int))).Bound)), .d (eI ((y11.Open.getD (0 + v19.toNat) (TApiChallenge.mk (0 : Int) (0 : Int) ([] : List (BitVec 8)) false (0 : Int))).Since))])]) (fun _ _ hI => ?_) (fun K31 hK31 => ?_)
            · obtain ⟨v30, h, rfl, rfl⟩ := hI
              unfold challengeUseJ4 at h
              rcases Bool.eq_false_or_eq_true (v30) with h32 | h32
              · replace h := ite_t h h32
                refine rwp_t (isT h32) ?_
                refine rwp_seq fun K33 hK33 => ?_
                refine rwp_draw fun K34 hK34 => ?_
                refine dr0 4352 rfl (ok (fa_k 2 rfl)) (by kernel_rfl) ?_
                refine dr0 4416 rfl (ok (ld_v (v := .ref 906 y11.Open.length 0 y11.Open.length) rfl rfl rfl)) (by kernel_rfl) ?_
                refine dr0 4480 rfl (ok (mv (.d (eI v19)))) (by kernel_rfl) ?_
                obtain ⟨h35, h⟩ := asq_inv h
                refine dr0 4544 rfl (ok (slR_h (ys := y11.Open.map eTApiChallenge) rfl (by simp) h35)) (by kernel_rfl) ?_
                refine dr0 4608 rfl (ok (fa_k 2 rfl)) (by kernel_rfl) ?_
                refine dr0 4672 rfl (ok (ld_v (v := .ref 906 y11.Open.length 0 y11.Open.length) rfl rfl rfl)) (by kernel_rfl) ?_
                refine dr0 4736 rfl (ok (mv (.d (eI v19)))) (by kernel_rfl) ?_
                refine dr0 4800 rfl (ok (addI _ (1 : Int))) (by kernel_rfl) ?_
                obtain ⟨h36, h⟩ := asq_inv h
                refine dr0 4864 rfl (ok (slR_l (ys := y11.Open.map eTApiChallenge) rfl (by simp) h36)) (by kernel_rfl) ?_
                obtain ⟨h37, h⟩ := asq_inv h
                refine dr1 4928 rfl (mem' := [(4864, .row true 5 ((y11.Open.take (v19.toNat - 0) ++ ((y11.Open.drop (0 + (w64 (v19 + (1 : Int))).toNat)).take (y11.Open.length - (w64 (v19 + (1 : Int))).toNat))).map eTApiChallenge)), (906, .dead), (64, .var .mine [.d (eU64 a0.Secret), .d (eI a0.Count), .d ((eL 5 eTApiChallenge) a0.Open)]), (128, .var .mine [.d (eU64 (0#64)), .d (eI (0 : Int)), .nil 5]), (192, .var .mine [.d (eI (0 : Int)), .d (eI (0 : Int)), .d (eS ([] : List (BitVec 8))), .d (eB false), .d (eI (0 : Int))]), (960, .var .mine [.d (eU64 y11.Secret), .d (eI y11.Count), .ref 906 y11.Open.length 0 y11.Open.length]), (3200, .var .mine [.d (eI ((y11.Open.getD (0 + v19.toNat) (TApiChallenge.mk (0 : Int) (0 : Int) ([] : List (BitVec 8)) false (0 : Int))).Number)), .d (eI ((y11.Open.getD (0 + v19.toNat) (TApiChallenge.mk (0 : Int) (0 : Int) ([] : List (BitVec 8)) false (0 : Int))).Kind)), .d (eS ((y11.Open.getD (0 + v19.toNat) (TApiChallenge.mk (0 : Int) (0 : Int) ([] : List (BitVec 8)) false (0 : Int))).Account)), .d (eB ((y11.Open.getD (0 + v19.toNat) (TApiChallenge.mk (0 : Int) (0 : Int) ([] : List (BitVec 8)) false (0 : Int))).Bound)), .d (eI ((y11.Open.getD (0 + v19.toNat) (TApiChallenge.mk (0 : Int) (0 : Int) ([] : List (BitVec 8)) false (0 : Int))).Since))])]) (ok (appS2 (e := eTApiChallenge) (xs := y11.Open) (ys := ((y11.Open.drop (0 + (w64 (v19 + (1 : Int))).toNat)).take (y11.Open.length - (w64 (v19 + (1 : Int))).toNat))) (contP (xs := y11.Open) rfl rfl) rfl rfl h37)) rfl (by kernel_rfl) ?_
                refine dr0 4992 rfl (ok (fa_k 2 rfl)) (by kernel_rfl) ?_
                refine drn 5056 rfl (mem' := [(960, .var .mine [.d (eU64 y11.Secret), .d (eI y11.Count), .ref 4864 (((y11.Open.take (v19.toNat - 0) ++ ((y11.Open.drop (0 + (w64 (v19 + (1 : Int))).toNat)).take (y11.Open.length - (w64 (v19 + (1 : Int))).toNat)))).length) 0 (((y11.Open.take (v19.toNat - 0) ++ ((y11.Open.drop (0 + (w64 (v19 + (1 : Int))).toNat)).take (y11.Open.length - (w64 (v19 + (1 : Int))).toNat)))).length)]), (4864, .row true 5 ((y11.Open.take (v19.toNat - 0) ++ ((y11.Open.drop (0 + (w64 (v19 + (1 : Int))).toNat)).take (y11.Open.length - (w64 (v19 + (1 : Int))).toNat))).map eTApiChallenge)), (906, .dead), (64, .var .mine [.d (eU64 a0.Secret), .d (eI a0.Count), .d ((eL 5 eTApiChallenge) a0.Open)]), (128, .var .mine [.d (eU64 (0#64)), .d (eI (0 : Int)), .nil 5]), (192, .var .mine [.d (eI (0 : Int)), .d (eI (0 : Int)), .d (eS ([] : List (BitVec 8))), .d (eB false), .d (eI (0 : Int))]), (3200, .var .mine [.d (eI ((y11.Open.getD (0 + v19.toNat) (TApiChallenge.mk (0 : Int) (0 : Int) ([] : List (BitVec 8)) false (0 : Int))).Number)), .d (eI ((y11.Open.getD (0 + v19.toNat) (TApiChallenge.mk (0 : Int) (0 : Int) ([] : List (BitVec 8)) false (0 : Int))).Kind)), .d (eS ((y11.Open.getD (0 + v19.toNat) (TApiChallenge.mk (0 : Int) (0 : Int) ([] : List (BitVec 8)) false (0 : Int))).Account)), .d (eB ((y11.Open.getD (0 + v19.toNat) (TApiChallenge.mk (0 : Int) (0 : Int) ([] : List (BitVec 8)) false (0 : Int))).Bound)), .d (eI ((y11.Open.getD (0 + v19.toNat) (TApiChallenge.mk (0 : Int) (0 : Int) ([] : List (BitVec 8)) false (0 : Int))).Since))])]) (ok (sto_v (ps' := [.d (eU64 y11.Secret), .d (eI y11.Count), .ref 4864 (((y11.Open.take (v19.toNat - 0) ++ ((y11.Open.drop (0 + (w64 (v19 + (1 : Int))).toNat)).take (y11.Open.length - (w64 (v19 + (1 : Int))).toNat)))).length) 0 (((y11.Open.take (v19.toNat - 0) ++ ((y11.Open.drop (0 + (w64 (v19 + (1 : Int))).toNat)).take (y11.Open.length - (w64 (v19 + (1 : Int))).toNat)))).length)]) rfl rfl rfl rfl)) rfl (by kernel_rfl) ?_
                refine hK34 _ _ ?_
                simp only [thenK, blockK, keepE, updM, List.filter_cons, List.filter_nil, List.nil_append, List.cons_append, List.map_cons, List.map_nil, envE, Mem.get, Nat.reduceEqDiff, reduceIte, Option.isNone_none, Option.isNone_some, Bool.false_eq_true, List.length_cons, List.length_nil, Nat.reduceAdd, Nat.reduceMul]
                refine hK33 _ _ _ ?_
                refine rwp_seq fun K38 hK38 => ?_
                refine rwp_draw fun K39 hK39 => ?_
                refine dr0 5120 rfl (ok (ld_v (v := .agg [.d (eU64 y11.Secret), .d (eI y11.Count), .ref 4864 (((y11.Open.take (v19.toNat - 0) ++ ((y11.Open.drop (0 + (w64 (v19 + (1 : Int))).toNat)).take (y11.Open.length - (w64 (v19 + (1 : Int))).toNat)))).length) 0 (((y11.Open.take (v19.toNat - 0) ++ ((y11.Open.drop (0 + (w64 (v19 + (1 : Int))).toNat)).take (y11.Open.length - (w64 (v19 + (1 : Int))).toNat)))).length)]) rfl rfl rfl)) (by kernel_rfl) ?_
                refine dr0 5184 rfl (ok (ld_v (v := .d (.agg [eI ((y11.Open.getD (0 + v19.toNat) (TApiChallenge.mk (0 : Int) (0 : Int) ([] : List (BitVec 8)) false (0 : Int))).Number), eI ((y11.Open.getD (0 + v19.toNat) (TApiChallenge.mk (0 : Int) (0 : Int) ([] : List (BitVec 8)) false (0 : Int))).Kind), eS ((y11.Open.getD (0 + v19.toNat) (TApiChallenge.mk (0 : Int) (0 : Int) ([] : List (BitVec 8)) false (0 : Int))).Account), eB ((y11.Open.getD (0 + v19.toNat) (TApiChallenge.mk (0 : Int) (0 : Int) ([] : List (BitVec 8)) false (0 : Int))).Bound), eI ((y11.Open.getD (0 + v19.toNat) (TApiChallenge.mk (0 : Int) (0 : Int) ([] : List (BitVec 8)) false (0 : Int))).Since)])) rfl rfl rfl)) (by kernel_rfl) ?_
                refine drn 5248 rfl (mem' := [(128, .var .mine [.d (eU64 y11.Secret), .d (eI y11.Count), .ref 4864 (((y11.Open.take (v19.toNat - 0) ++ ((y11.Open.drop (0 + (w64 (v19 + (1 : Int))).toNat)).take (y11.Open.length - (w64 (v19 + (1 : Int))).toNat)))).length) 0 (((y11.Open.take (v19.toNat - 0) ++ ((y11.Open.drop (0 + (w64 (v19 + (1 : Int))).toNat)).take (y11.Open.length - (w64 (v19 + (1 : Int))).toNat)))).length)]), (960, .var .mine [.d (eU64 y11.Secret), .d (eI y11.Count), .ref 4864 (((y11.Open.take (v19.toNat - 0) ++ ((y11.Open.drop (0 + (w64 (v19 + (1 : Int))).toNat)).take (y11.Open.length - (w64 (v19 + (1 : Int))).toNat)))).length) 0 (((y11.Open.take (v19.toNat - 0) ++ ((y11.Open.drop (0 + (w64 (v19 + (1 : Int))).toNat)).take (y11.Open.length - (w64 (v19 + (1 : Int))).toNat)))).length)]), (4864, .row true 5 ((y11.Open.take (v19.toNat - 0) ++ ((y11.Open.drop (0 + (w64 (v19 + (1 : Int))).toNat)).take (y11.Open.length - (w64 (v19 + (1 : Int))).toNat))).map eTApiChallenge)), (906, .dead), (64, .var .mine [.d (eU64 a0.Secret), .d (eI a0.Count), .d ((eL 5 eTApiChallenge) a0.Open)]), (192, .var .mine [.d (eI (0 : Int)), .d (eI (0 : Int)), .d (eS ([] : List (BitVec 8))), .d (eB false), .d (eI (0 : Int))]), (3200, .var .mine [.d (eI ((y11.Open.getD (0 + v19.toNat) (TApiChallenge.mk (0 : Int) (0 : Int) ([] : List (BitVec 8)) false (0 : Int))).Number)), .d (eI ((y11.Open.getD (0 + v19.toNat) (TApiChallenge.mk (0 : Int) (0 : Int) ([] : List (BitVec 8)) false (0 : Int))).Kind)), .d (eS ((y11.Open.getD (0 + v19.toNat) (TApiChallenge.mk (0 : Int) (0 : Int) ([] : List (BitVec 8)) false (0 : Int))).Account)), .d (eB ((y11.Open.getD (0 + v19.toNat) (TApiChallenge.mk (0 : Int) (0 : Int) ([] : List (BitVec 8)) false (0 : Int))).Bound)), .d (eI ((y11.Open.getD (0 + v19.toNat) (TApiChallenge.mk (0 : Int) (0 : Int) ([] : List (BitVec 8)) false (0 : Int))).Since))])]) (ok (sto_v (ps' := [.d (eU64 y11.Secret), .d (eI y11.Count), .ref 4864 (((y11.Open.take (v19.toNat - 0) ++ ((y11.Open.drop (0 + (w64 (v19 + (1 : Int))).toNat)).take (y11.Open.length - (w64 (v19 + (1 : Int))).toNat)))).length) 0 (((y11.Open.take (v19.toNat - 0) ++ ((y11.Open.drop (0 + (w64 (v19 + (1 : Int))).toNat)).take (y11.Open.length - (w64 (v19 + (1 : Int))).toNat)))).length)]) rfl rfl rfl rfl)) rfl (by kernel_rfl) ?_
                refine drn 5312 rfl (mem' := [(192, .var .mine [.d (eI ((y11.Open.getD (0 + v19.toNat) (TApiChallenge.mk (0 : Int) (0 : Int) ([] : List (BitVec 8)) false (0 : Int))).Number)), .d (eI ((y11.Open.getD (0 + v19.toNat) (TApiChallenge.mk (0 : Int) (0 : Int) ([] : List (BitVec 8)) false (0 : Int))).Kind)), .d (eS ((y11.Open.getD (0 + v19.toNat) (TApiChallenge.mk (0 : Int) (0 : Int) ([] : List (BitVec 8)) false (0 : Int))).Account)), .d (eB ((y11.Open.getD (0 + v19.toNat) (TApiChallenge.mk (0 : Int) (0 : Int) ([] : List (BitVec 8)) false (0 : Int))).Bound)), .d (eI ((y11.Open.getD (0 + v19.toNat) (TApiChallenge.mk (0 : Int) (0 : Int) ([] : List (BitVec 8)) false (0 : Int))).Since))]), (128, .var .mine [.d (eU64 y11.Secret), .d (eI y11.Count), .ref 4864 (((y11.Open.take (v19.toNat - 0) ++ ((y11.Open.drop (0 + (w64 (v19 + (1 : Int))).toNat)).take (y11.Open.length - (w64 (v19 + (1 : Int))).toNat)))).length) 0 (((y11.Open.take (v19.toNat - 0) ++ ((y11.Open.drop (0 + (w64 (v19 + (1 : Int))).toNat)).take (y11.Open.length - (w64 (v19 + (1 : Int))).toNat)))).length)]), (960, .var .mine [.d (eU64 y11.Secret), .d (eI y11.Count), .ref 4864 (((y11.Open.take (v19.toNat - 0) ++ ((y11.Open.drop (0 + (w64 (v19 + (1 : Int))).toNat)).take (y11.Open.length - (w64 (v19 + (1 : Int))).toNat)))).length) 0 (((y11.Open.take (v19.toNat - 0) ++ ((y11.Open.drop (0 + (w64 (v19 + (1 : Int))).toNat)).take (y11.Open.length - (w64 (v19 + (1 : Int))).toNat)))).length)]), (4864, .row true 5 ((y11.Open.take (v19.toNat - 0) ++ ((y11.Open.drop (0 + (w64 (v19 + (1 : Int))).toNat)).take (y11.Open.length - (w64 (v19 + (1 : Int))).toNat))).map eTApiChallenge)), (906, .dead), (64, .var .mine [.d (eU64 a0.Secret), .d (eI a0.Count), .d ((eL 5 eTApiChallenge) a0.Open)]), (3200, .var .mine [.d (eI ((y11.Open.getD (0 + v19.toNat) (TApiChallenge.mk (0 : Int) (0 : Int) ([] : List (BitVec 8)) false (0 : Int))).Number)), .d (eI ((y11.Open.getD (0 + v19.toNat) (TApiChallenge.mk (0 : Int) (0 : Int) ([] : List (BitVec 8)) false (0 : Int))).Kind)), .d (eS ((y11.Open.getD (0 + v19.toNat) (TApiChallenge.mk (0 : Int) (0 : Int) ([] : List (BitVec 8)) false (0 : Int))).Account)), .d (eB ((y11.Open.getD (0 + v19.toNat) (TApiChallenge.mk (0 : Int) (0 : Int) ([] : List (BitVec 8)) false (0 : Int))).Bound)), .d (eI ((y11.Open.getD (0 + v19.toNat) (TApiChallenge.mk (0 : Int) (0 : Int) ([] : List (BitVec 8)) false (0 : Int))).Since))])]) (ok (sto_v (ps' := [.d (eI ((y11.Open.getD (0 + v19.toNat) (TApiChallenge.mk (0 : Int) (0 : Int) ([] : List (BitVec 8)) false (0 : Int))).Number)), .d (eI ((y11.Open.getD (0 + v19.toNat) (TApiChallenge.mk (0 : Int) (0 : Int) ([] : List (BitVec 8)) false (0 : Int))).Kind)), .d (eS ((y11.Open.getD (0 + v19.toNat) (TApiChallenge.mk (0 : Int) (0 : Int) ([] : List (BitVec 8)) false (0 : Int))).Account)), .d (eB ((y11.Open.getD (0 + v19.toNat) (TApiChallenge.mk (0 : Int) (0 : Int) ([] : List (BitVec 8)) false (0 : Int))).Bound)), .d (eI ((y11.Open.getD (0 + v19.toNat) (TApiChallenge.mk (0 : Int) (0 : Int) ([] : List (BitVec 8)) false (0 : Int))).Since))]) rfl rfl rfl rfl)) rfl (by kernel_rfl) ?_
                refine dr0 5376 rfl (ok (mv (.d (eI (0 : Int))))) (by kernel_rfl) ?_
                refine hK39 _ _ ?_
                simp only [thenK, blockK, keepE, updM, List.filter_cons, List.filter_nil, List.nil_append, List.cons_append, List.map_cons, List.map_nil, envE, Mem.get, Nat.reduceEqDiff, reduceIte, Option.isNone_none, Option.isNone_some, Bool.false_eq_true, List.length_cons, List.length_nil, Nat.reduceAdd, Nat.reduceMul]
                refine hK38 _ _ _ ?_
                refine rwp_ret ?_
                obtain rfl := Option.some.inj h
                try simp only [thenK, blockK, reduceIte]
                exact Or.inl (end_ok trivial (rs_c (id := 128) (off := 0) (v := .agg [.d (eU64 y11.Secret), .d (eI y11.Count), .ref 4864 (((y11.Open.take (v19.toNat - 0) ++ ((y11.Open.drop (0 + (w64 (v19 + (1 : Int))).toNat)).take (y11.Open.length - (w64 (v19 + (1 : Int))).toNat)))).length) 0 (((y11.Open.take (v19.toNat - 0) ++ ((y11.Open.drop (0 + (w64 (v19 + (1 : Int))).toNat)).take (y11.Open.length - (w64 (v19 + (1 : Int))).toNat)))).length)]) rfl rfl rfl rfl (rs_c (id := 192) (off := 0) (v := .d (.agg [eI ((y11.Open.getD (0 + v19.toNat) (TApiChallenge.mk (0 : Int) (0 : Int) ([] : List (BitVec 8)) false (0 : Int))).Number), eI ((y11.Open.getD (0 + v19.toNat) (TApiChallenge.mk (0 : Int) (0 : Int) ([] : List (BitVec 8)) false (0 : Int))).Kind), eS ((y11.Open.getD (0 + v19.toNat) (TApiChallenge.mk (0 : Int) (0 : Int) ([] : List (BitVec 8)) false (0 : Int))).Account), eB ((y11.Open.getD (0 + v19.toNat) (TApiChallenge.mk (0 : Int) (0 : Int) ([] : List (BitVec 8)) false (0 : Int))).Bound), eI ((y11.Open.getD (0 + v19.toNat) (TApiChallenge.mk (0 : Int) (0 : Int) ([] : List (BitVec 8)) false (0 : Int))).Since)])) rfl rfl rfl rfl (rs_t (v := .d (eI (0 : Int))) rfl rs_nil))) (en_d (to_agg (ds_d _ (ds_d _ (ds_r (ys := (y11.Open.take (v19.toNat - 0) ++ ((y11.Open.drop (0 + (w64 (v19 + (1 : Int))).toNat)).take (y11.Open.length - (w64 (v19 + (1 : Int))).toNat)))) rfl rfl rfl ds_nil))) (x := eTApiChallenges (TApiChallenges.mk y11.Secret y11.Count (y11.Open.take (v19.toNat - 0) ++ ((y11.Open.drop (0 + (w64 (v19 + (1 : Int))).toNat)).take (y11.Open.length - (w64 (v19 + (1 : Int))).toNat))))) rfl) (en_d (to_d _) (en_d (to_d _) en_nil))) ou_nil (by first | exact eok rfl rfl rfl rfl trivial | (refine eok ?_ ?_ ?_ ?_ ?_ <;> first | rfl | exact trivial | simp [retM, Mem.get, PV.renL, PV.ren, Blk.ren, comps, rhoR, rhoM, appN, PV.refsL, PV.refs, keys, nodupB, Blk.refs, allIn, Blk.bor])))
              · replace h := ite_f h h32
                refine rwp_f (isF h32) ?_
                refine rwp_skip ?_
                refine hK26 _ _ _ ?_
                refine hK25 _ _ _ ?_
                refine rwp_region fun K40 hK40 => ?_
                refine st0 4352 rfl (ok (addI _ (1 : Int))) ?_
                refine st0 4416 rfl (ok (mv (.d (eI (w64 (v19 + (1 : Int))))))) ?_
                refine hK40 _ _ ?_
                simp only [thenK, blockK, keepE, updM, List.filter_cons, List.filter_nil, List.nil_append, List.cons_append, List.map_cons, List.map_nil, envE, Mem.get, Nat.reduceEqDiff, reduceIte, Option.isNone_none, Option.isNone_some, Bool.false_eq_true, List.length_cons, List.length_nil, Nat.reduceAdd, Nat.reduceMul]
                exact hK20.out _ _ _ k3 (Nat.lt_succ_self k3) ⟨_, _, Settled.refl, _, _, ⟨_, h, rfl, rfl⟩, ⟨rfl, ⟨⟨rfl, rfl⟩, ⟨⟨rfl, rfl⟩, ⟨⟨rfl, rfl⟩, ⟨⟨rfl, rfl⟩, ⟨⟨rfl, rfl⟩, ⟨⟨rfl, rfl⟩, ⟨⟨rfl, rfl⟩, ⟨⟨rfl, rfl⟩, ⟨⟨rfl, rfl⟩, trivial⟩⟩⟩⟩⟩⟩⟩⟩⟩, ⟨⟨rfl, rfl⟩, ⟨⟨rfl, rfl⟩, ⟨⟨rfl, rfl⟩, ⟨⟨rfl, rfl⟩, ⟨⟨rfl, rfl⟩, trivial⟩⟩⟩⟩⟩⟩, rfl⟩
            · refine rwp_draw fun K41 hK41 => ?_
              refine dr0 3456 rfl (ok (fa_k 1 rfl)) (by kernel_rfl) ?_
              refine dr0 3520 rfl (ok (ld_v (v := .d (eI ((y11.Open.getD (0 + v19.toNat) (TApiChallenge.mk (0 : Int) (0 : Int) ([] : List (BitVec 8)) false (0 : Int))).Kind))) rfl rfl rfl)) (by kernel_rfl) ?_
              refine dr0 3584 rfl (ok (mv (.d (eI a2)))) (by kernel_rfl) ?_
              refine dr0 3648 rfl (ok (eqlI _ _)) (by kernel_rfl) ?_
              refine dr0 3712 rfl (ok (mv (.d (eB (((y11.Open.getD (0 + v19.toNat) (TApiChallenge.mk (0 : Int) (0 : Int) ([] : List (BitVec 8)) false (0 : Int))).Kind) == a2))))) (by kernel_rfl) ?_
              rcases Bool.eq_false_or_eq_true ((((y11.Open.getD (0 + v19.toNat) (TApiChallenge.mk (0 : Int) (0 : Int) ([] : List (BitVec 8)) false (0 : Int))).Kind) == a2)) with h42 | h42
              · replace h := ite_t h h42
                refine drG (isT h42) ?_
                refine dr0 3776 rfl (ok (ld_v (v := .d (.agg [eU64 a0.Secret, eI a0.Count, (eL 5 eTApiChallenge) a0.Open])) rfl rfl rfl)) (by kernel_rfl) ?_
                refine drG (isT h42) ?_
                refine dr0 3840 rfl (ok (ld_v (v := .d (.agg [eI ((y11.Open.getD (0 + v19.toNat) (TApiChallenge.mk (0 : Int) (0 : Int) ([] : List (BitVec 8)) false (0 : Int))).Number), eI ((y11.Open.getD (0 + v19.toNat) (TApiChallenge.mk (0 : Int) (0 : Int) ([] : List (BitVec 8)) false (0 : Int))).Kind), eS ((y11.Open.getD (0 + v19.toNat) (TApiChallenge.mk (0 : Int) (0 : Int) ([] : List (BitVec 8)) false (0 : Int))).Account), eB ((y11.Open.getD (0 + v19.toNat) (TApiChallenge.mk (0 : Int) (0 : Int) ([] : List (BitVec 8)) false (0 : Int))).Bound), eI ((y11.Open.getD (0 + v19.toNat) (TApiChallenge.mk (0 : Int) (0 : Int) ([] : List (BitVec 8)) false (0 : Int))).Since)])) rfl rfl rfl)) (by kernel_rfl) ?_
                refine drG (isT h42) ?_
                obtain ⟨y43, h44, h⟩ := bind_inv h
                refine dr1 3904 rfl (mem' := [(3840, .row true 1 (y43.map eU8)), (3200, .var .mine [.d (eI ((y11.Open.getD (0 + v19.toNat) (TApiChallenge.mk (0 : Int) (0 : Int) ([] : List (BitVec 8)) false (0 : Int))).Number)), .d (eI ((y11.Open.getD (0 + v19.toNat) (TApiChallenge.mk (0 : Int) (0 : Int) ([] : List (BitVec 8)) false (0 : Int))).Kind)), .d (eS ((y11.Open.getD (0 + v19.toNat) (TApiChallenge.mk (0 : Int) (0 : Int) ([] : List (BitVec 8)) false (0 : Int))).Account)), .d (eB ((y11.Open.getD (0 + v19.toNat) (TApiChallenge.mk (0 : Int) (0 : Int) ([] : List (BitVec 8)) false (0 : Int))).Bound)), .d (eI ((y11.Open.getD (0 + v19.toNat) (TApiChallenge.mk (0 : Int) (0 : Int) ([] : List (BitVec 8)) false (0 : Int))).Since))]), (64, .var .mine [.d (eU64 a0.Secret), .d (eI a0.Count), .d ((eL 5 eTApiChallenge) a0.Open)]), (128, .var .mine [.d (eU64 (0#64)), .d (eI (0 : Int)), .nil 5]), (192, .var .mine [.d (eI (0 : Int)), .d (eI (0 : Int)), .d (eS ([] : List (BitVec 8))), .d (eB false), .d (eI (0 : Int))]), (960, .var .mine [.d (eU64 y11.Secret), .d (eI y11.Count), .ref 906 y11.Open.length 0 y11.Open.length]), (906, .row true 5 (y11.Open.map eTApiChallenge))]) (call_ok (v := .ref 3840 y43.length 0 y43.length) (u := [(3840, .row true 1 (y43.map eU8))]) (ar_d (eTApiChallenges (TApiChallenges.mk a0.Secret a0.Count a0.Open)) (ar_d (eTApiChallenge (TApiChallenge.mk ((y11.Open.getD (0 + v19.toNat) (TApiChallenge.mk (0 : Int) (0 : Int) ([] : List (BitVec 8)) false (0 : Int))).Number) ((y11.Open.getD (0 + v19.toNat) (TApiChallenge.mk (0 : Int) (0 : Int) ([] : List (BitVec 8)) false (0 : Int))).Kind) ((y11.Open.getD (0 + v19.toNat) (TApiChallenge.mk (0 : Int) (0 : Int) ([] : List (BitVec 8)) false (0 : Int))).Account) ((y11.Open.getD (0 + v19.toNat) (TApiChallenge.mk (0 : Int) (0 : Int) ([] : List (BitVec 8)) false (0 : Int))).Bound) ((y11.Open.getD (0 + v19.toNat) (TApiChallenge.mk (0 : Int) (0 : Int) ([] : List (BitVec 8)) false (0 : Int))).Since))) ar_nil)) rfl (challengeBytesOK (TApiChallenges.mk a0.Secret a0.Count a0.Open) (TApiChallenge.mk ((y11.Open.getD (0 + v19.toNat) (TApiChallenge.mk (0 : Int) (0 : Int) ([] : List (BitVec 8)) false (0 : Int))).Number) ((y11.Open.getD (0 + v19.toNat) (TApiChallenge.mk (0 : Int) (0 : Int) ([] : List (BitVec 8)) false (0 : Int))).Kind) ((y11.Open.getD (0 + v19.toNat) (TApiChallenge.mk (0 : Int) (0 : Int) ([] : List (BitVec 8)) false (0 : Int))).Account) ((y11.Open.getD (0 + v19.toNat) (TApiChallenge.mk (0 : Int) (0 : Int) ([] : List (BitVec 8)) false (0 : Int))).Bound) ((y11.Open.getD (0 + v19.toNat) (TApiChallenge.mk (0 : Int) (0 : Int) ([] : List (BitVec 8)) false (0 : Int))).Since)) y43 h44) rfl) rfl (by kernel_rfl) ?_
                refine drG (isT h42) ?_
                refine dr0 3968 rfl (ok (b2s (contR (xs := y43) rfl rfl rfl))) (by kernel_rfl) ?_
                refine drG (isT h42) ?_
                refine dr0 4032 rfl (ok (mv (.d ((eL 1 eU8) a1)))) (by kernel_rfl) ?_
                refine drG (isT h42) ?_
                refine dr0 4096 rfl (ok (b2s contL)) (by kernel_rfl) ?_
                refine drG (isT h42) ?_
                refine dr0 4160 rfl (ok (eqlS y43 a1)) (by kernel_rfl) ?_
                refine dr0 4224 rfl (ok (pick_t h42 (.d (eB (y43 == a1))) _)) (by kernel_rfl) ?_
                refine hK41 _ _ ?_
                simp only [thenK, blockK, keepE, updM, List.filter_cons, List.filter_nil, List.nil_append, List.cons_append, List.map_cons, List.map_nil, envE, Mem.get, Nat.reduceEqDiff, reduceIte, Option.isNone_none, Option.isNone_some, Bool.false_eq_true, List.length_cons, List.length_nil, Nat.reduceAdd, Nat.reduceMul]
                exact hK31 _ _ _ ⟨_, _, Settled.refl, _, _, ⟨_, h, rfl, rfl⟩, ⟨rfl, ⟨⟨rfl, rfl⟩, ⟨⟨rfl, rfl⟩, ⟨⟨rfl, rfl⟩, ⟨⟨rfl, rfl⟩, ⟨⟨rfl, rfl⟩, ⟨⟨rfl, rfl⟩, ⟨⟨rfl, rfl⟩, ⟨⟨rfl, rfl⟩, ⟨⟨rfl, rfl⟩, ⟨⟨rfl, rfl⟩, ⟨⟨rfl, rfl⟩, ⟨⟨rfl, rfl⟩, trivial⟩⟩⟩⟩⟩⟩⟩⟩⟩⟩⟩⟩, ⟨⟨rfl, rfl⟩, ⟨⟨rfl, rfl⟩, ⟨⟨rfl, rfl⟩, ⟨⟨rfl, rfl⟩, ⟨⟨rfl, rfl⟩, ⟨⟨rfl, rfl⟩, trivial⟩⟩⟩⟩⟩⟩⟩, rfl⟩
              · replace h := ite_f h h42
                refine drGN 3776 rfl rfl h42 ?_
                refine drGN 3840 rfl rfl h42 ?_
                refine drGN 3904 rfl rfl h42 ?_
                refine drGN 3968 rfl rfl h42 ?_
                refine drGN 4032 rfl rfl h42 ?_
                refine drGN 4096 rfl rfl h42 ?_
                refine drGN 4160 rfl rfl h42 ?_
                refine dr0 4224 rfl (ok (pick_f h42 _ (.d (eB false)))) (by kernel_rfl) ?_
                refine hK41 _ _ ?_
                simp only [thenK, blockK, keepE, updM, List.filter_cons, List.filter_nil, List.nil_append, List.cons_append, List.map_cons, List.map_nil, envE, Mem.get, Nat.reduceEqDiff, reduceIte, Option.isNone_none, Option.isNone_some, Bool.false_eq_true, List.length_cons, List.length_nil, Nat.reduceAdd, Nat.reduceMul]
                exact hK31 _ _ _ ⟨_, _, Settled.refl, _, _, ⟨_, h, rfl, rfl⟩, ⟨rfl, ⟨⟨rfl, rfl⟩, ⟨⟨rfl, rfl⟩, ⟨⟨rfl, rfl⟩, ⟨⟨rfl, rfl⟩, ⟨⟨rfl, rfl⟩, ⟨⟨rfl, rfl⟩, ⟨⟨rfl, rfl⟩, ⟨⟨rfl, rfl⟩, ⟨⟨rfl, rfl⟩, ⟨⟨rfl, rfl⟩, ⟨⟨rfl, rfl⟩, ⟨⟨rfl, rfl⟩, trivial⟩⟩⟩⟩⟩⟩⟩⟩⟩⟩⟩⟩, ⟨⟨rfl, rfl⟩, ⟨⟨rfl, rfl⟩, ⟨⟨rfl, rfl⟩, ⟨⟨rfl, rfl⟩, ⟨⟨rfl, rfl⟩, ⟨⟨rfl, rfl⟩, trivial⟩⟩⟩⟩⟩⟩⟩, rfl⟩
          · replace h := ite_f h h24
            refine rwp_f (isF h24) ?_
            refine rwp_exit ?_
            refine hK18 _ _ _ ?_
            exact hK13 _ _ _ ⟨_, _, Settled.refl, _, _, ⟨h, rfl, rfl⟩, ⟨rfl, ⟨⟨rfl, rfl⟩, ⟨⟨rfl, rfl⟩, ⟨⟨rfl, rfl⟩, trivial⟩⟩⟩, ⟨⟨rfl, rfl⟩, ⟨⟨rfl, rfl⟩, ⟨⟨rfl, rfl⟩, trivial⟩⟩⟩⟩, rfl⟩
  · refine rwp_region fun K45 hK45 => ?_
    refine st0 384 rfl (ok (mv (.d (eI a3)))) ?_
    refine st0 448 rfl (ok (lssI _ (0 : Int))) ?_
    refine st0 512 rfl (ok (mv (.d (eB (decide (a3 < (0 : Int))))))) ?_
    rcases Bool.eq_false_or_eq_true ((decide (a3 < (0 : Int)))) with h46 | h46
    · replace h := ite_t h h46
      refine stGN 576 rfl rfl h46 ?_
      refine stGN 640 rfl rfl h46 ?_
      refine st0 704 rfl (ok (pick_t h46 (.d (eB true)) _)) ?_
      refine hK45 _ _ ?_
      simp only [thenK, blockK, keepE, updM, List.filter_cons, List.filter_nil, List.nil_append, List.cons_append, List.map_cons, List.map_nil, envE, Mem.get, Nat.reduceEqDiff, reduceIte, Option.isNone_none, Option.isNone_some, Bool.false_eq_true, List.length_cons, List.length_nil, Nat.reduceAdd, Nat.reduceMul]
      exact hK5 _ _ _ ⟨_, _, Settled.refl, _, _, ⟨_, h, rfl, rfl⟩, ⟨rfl, ⟨⟨rfl, rfl⟩, ⟨⟨rfl, rfl⟩, ⟨⟨rfl, rfl⟩, ⟨⟨rfl, rfl⟩, ⟨⟨rfl, rfl⟩, ⟨⟨rfl, rfl⟩, ⟨⟨rfl, rfl⟩, trivial⟩⟩⟩⟩⟩⟩⟩, ⟨⟨rfl, rfl⟩, ⟨⟨rfl, rfl⟩, ⟨⟨rfl, rfl⟩, trivial⟩⟩⟩⟩, rfl⟩
    · replace h := ite_f h h46
      refine stG (isF h46) ?_
      refine st0 576 rfl (ok (mv (.d (eI a3)))) ?_
      refine stG (isF h46) ?_
      refine st0 640 rfl (ok (gtrI _ (1099511627776 : Int))) ?_
      refine st0 704 rfl (ok (pick_f h46 _ (.d (eB (decide ((1099511627776 : Int) < a3)))))) ?_
      refine hK45 _ _ ?_
      simp only [thenK, blockK, keepE, updM, List.filter_cons, List.filter_nil, List.nil_append, List.cons_append, List.map_cons, List.map_nil, envE, Mem.get, Nat.reduceEqDiff, reduceIte, Option.isNone_none, Option.isNone_some, Bool.false_eq_true, List.length_cons, List.length_nil, Nat.reduceAdd, Nat.reduceMul]
      exact hK5 _ _ _ ⟨_, _, Settled.refl, _, _, ⟨_, h, rfl, rfl⟩, ⟨rfl, ⟨⟨rfl, rfl⟩, ⟨⟨rfl, rfl⟩, ⟨⟨rfl, rfl⟩, ⟨⟨rfl, rfl⟩, ⟨⟨rfl, rfl⟩, ⟨⟨rfl, rfl⟩, ⟨⟨rfl, rfl⟩, trivial⟩⟩⟩⟩⟩⟩⟩, ⟨⟨rfl, rfl⟩, ⟨⟨rfl, rfl⟩, ⟨⟨rfl, rfl⟩, trivial⟩⟩⟩⟩, rfl⟩

end Go.Proofs.Ty
