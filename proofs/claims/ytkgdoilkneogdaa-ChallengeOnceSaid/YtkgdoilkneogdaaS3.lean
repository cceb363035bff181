/- Each Go function comes to what its plain function says. PRINTED by a program of this session (ty.py). -/
import Derived.Test.YtkgdoilkneogdaaS2
set_option linter.unusedVariables false
set_option linter.unusedSimpArgs false
set_option maxHeartbeats 4000000
set_option maxRecDepth 10000
namespace Go.Proofs.Ty
open Go Go.RW Go.Proofs
/-- passkey/challenge.Issue -/
def challengeIssueH : Hints := ⟨[(0, [1, 2, 3, 4, 5, 10]), (1, [1, 2, 3, 4, 5, 10, 20]), (2, [10, 11, 12]), (3, [1, 2, 3, 4, 5, 10, 27]), (4, [10, 11, 12]), (5, [1, 2, 3, 4, 5, 10, 31]), (6, [10, 11, 12]), (7, [1, 2, 3, 4, 5, 10, 13]), (8, [1, 2, 3, 4, 5, 10, 13, 39]), (9, [10, 11, 12]), (10, [10, 13, 14]), (11, [10, 13, 14]), (12, [10, 13, 14]), (13, [10, 11, 12])], []⟩
def challengeIssueRc : RCode :=
  .seq (.region false [⟨some 5, .box, [.t 0], none, []⟩, ⟨some 10, .alloc [.d (.int .u64 0), .d (.int .i64 0), .nil 5], [], none, []⟩, ⟨some 11, .mv, [.k (.nil 1)], none, []⟩, ⟨some
  12, .mv, [.k (.d (.int .i64 0))], none, []⟩] [1, 2, 3, 4, 5, 10]) (.seq (.seq (.region false [⟨some 15, .mv, [.t 4], none, []⟩, ⟨some 16, .bin .lss, [.t 15, .k (.d (.int .i64
  0))], none, []⟩, ⟨some 17, .mv, [.t 16], none, []⟩, ⟨some 18, .mv, [.t 4], some (17, false), []⟩, ⟨some 19, .bin .gtr, [.t 18, .k (.d (.int .i64 1099511627776))], some (17,
  false), []⟩, ⟨some 20, .pick, [.t 17, .k (.d (.bool true)), .t 19], none, []⟩] [1, 2, 3, 4, 5, 10, 20]) (.cond (.t 20) (.seq (.region false [⟨some 21, .load 3 true, [.t 5], none,
  []⟩, ⟨none, .store 3, [.t 10, .t 21], none, []⟩, ⟨some 11, .mv, [.k (.nil 1)], none, []⟩, ⟨some 12, .mv, [.k (.d (.int .i64 9))], none, []⟩] [10, 11, 12]) .ret) .skip)) (.seq
  (.seq (.region false [⟨some 22, .mv, [.t 1], none, []⟩, ⟨some 23, .bin .neq, [.t 22, .k (.d (.int .i64 1))], none, []⟩, ⟨some 24, .mv, [.t 23], none, []⟩, ⟨some 25, .mv, [.t 1],
  some (24, true), []⟩, ⟨some 26, .bin .neq, [.t 25, .k (.d (.int .i64 2))], some (24, true), []⟩, ⟨some 27, .pick, [.t 24, .t 26, .k (.d (.bool false))], none, []⟩] [1, 2, 3, 4,
  5, 10, 27]) (.cond (.t 27) (.seq (.region false [⟨some 28, .load 3 true, [.t 5], none, []⟩, ⟨none, .store 3, [.t 10, .t 28], none, []⟩, ⟨some 11, .mv, [.k (.nil 1)], none, []⟩,
  ⟨some 12, .mv, [.k (.d (.int .i64 3))], none, []⟩] [10, 11, 12]) .ret) .skip)) (.seq (.seq (.region false [⟨some 29, .mv, [.t 2], none, []⟩, ⟨some 30, .lens, [.t 29], none, []⟩,
  ⟨some 31, .bin .gtr, [.t 30, .k (.d (.int .i64 32))], none, []⟩] [1, 2, 3, 4, 5, 10, 31]) (.cond (.t 31) (.seq (.region false [⟨some 32, .load 3 true, [.t 5], none, []⟩, ⟨none,
  .store 3, [.t 10, .t 32], none, []⟩, ⟨some 11, .mv, [.k (.nil 1)], none, []⟩, ⟨some 12, .mv, [.k (.d (.int .i64 8))], none, []⟩] [10, 11, 12]) .ret) .skip)) (.seq (.region false
  [⟨some 33, .load 3 true, [.t 5], none, []⟩, ⟨some 34, .mv, [.t 4], none, []⟩, ⟨some 35, .call 17 true, [.t 33, .t 34], none, []⟩, ⟨some 13, .alloc [.d (.int .u64 0), .d (.int
  .i64 0), .nil 5], [], none, []⟩, ⟨none, .store 3, [.t 13, .t 35], none, []⟩] [1, 2, 3, 4, 5, 10, 13]) (.seq (.seq (.region false [⟨some 36, .fa 2, [.t 13], none, []⟩, ⟨some 37,
  .load 1 false, [.t 36], none, []⟩, ⟨some 38, .len, [.t 37], none, []⟩, ⟨some 39, .bin .geq, [.t 38, .k (.d (.int .i64 32))], none, []⟩] [1, 2, 3, 4, 5, 10, 13, 39]) (.cond (.t
  39) (.seq (.region false [⟨some 40, .load 3 true, [.t 5], none, []⟩, ⟨none, .store 3, [.t 10, .t 40], none, []⟩, ⟨some 11, .mv, [.k (.nil 1)], none, []⟩, ⟨some 12, .mv, [.k (.d
  (.int .i64 12))], none, []⟩] [10, 11, 12]) .ret) .skip)) (.seq (.region false [⟨some 41, .fa 1, [.t 5], none, []⟩, ⟨some 42, .load 1 false, [.t 41], none, []⟩, ⟨some 43, .mv, [.t
  1], none, []⟩, ⟨some 44, .mv, [.t 2], none, []⟩, ⟨some 45, .mv, [.t 3], none, []⟩, ⟨some 46, .mv, [.t 4], none, []⟩, ⟨some 47, .build [.d (.int .i64 0), .d (.int .i64 0), .d
  (.str ⟨#[]⟩), .d (.bool false), .d (.int .i64 0)] [(0, 1), (1, 1), (2, 1), (3, 1), (4, 1)], [.t 42, .t 43, .t 44, .t 45, .t 46], none, []⟩, ⟨some 14, .alloc [.d (.int .i64 0), .d
  (.int .i64 0), .d (.str ⟨#[]⟩), .d (.bool false), .d (.int .i64 0)], [], none, []⟩, ⟨none, .store 5, [.t 14, .t 47], none, []⟩] [10, 13, 14]) (.seq (.region false [⟨some 48, .fa
  1, [.t 13], none, []⟩, ⟨some 49, .load 1 false, [.t 48], none, []⟩, ⟨some 50, .bin .add, [.t 49, .k (.d (.int .i64 1))], none, []⟩, ⟨some 51, .fa 1, [.t 13], none, []⟩, ⟨none,
  .store 1, [.t 51, .t 50], none, []⟩] [10, 13, 14]) (.seq (.region false [⟨some 52, .fa 2, [.t 13], none, []⟩, ⟨some 53, .load 1 false, [.t 52], none, []⟩, ⟨some 54, .load 5 true,
  [.t 14], none, []⟩, ⟨some 55, .bslice 5 true 1 [.d (.int .i64 0), .d (.int .i64 0), .d (.str ⟨#[]⟩), .d (.bool false), .d (.int .i64 0)] [0], [.t 54], none, []⟩, ⟨some 56, .app 5
  2932031007402, [.t 53, .t 55], none, []⟩, ⟨some 57, .fa 2, [.t 13], none, []⟩, ⟨none, .store 1, [.t 57, .t 56], none, []⟩] [10, 13, 14]) (.seq (.region true [⟨some 58, .load 3
  true, [.t 13], none, []⟩, ⟨some 59, .load 3 true, [.t 13], none, []⟩, ⟨some 60, .load 5 true, [.t 14], none, []⟩, ⟨some 61, .call 7 true, [.t 59, .t 60], none, [1, 2]⟩, ⟨none,
  .store 3, [.t 10, .t 58], none, [0, 1, 2, 3]⟩, ⟨some 11, .mv, [.t 61], none, [0, 1, 2, 3, 4]⟩, ⟨some 12, .mv, [.k (.d (.int .i64 0))], none, [0, 1, 2, 3, 4, 5]⟩] [10, 11, 12])
  .ret)))))))))
def challengeIssueRr : List RR := [.c 10 3 true, .t 11, .t 12]
theorem challengeIssueC : compFn Try.prog 10 challengeIssueH = some (challengeIssueRc, challengeIssueRr, 62) := by kernel_rfl
theorem challengeIssueOK (a0 : TApiChallenges) (a1 : Int) (a2 : List (BitVec 8)) (a3 : Bool) (a4 : Int) (res : TApiChallenges × (List (BitVec 8)) × Int) (h : challengeIssue a0 a1 a2 a3 a4 = some res) : CallOK Try.prog 10 [.d (eTApiChallenges a0), .d (eI a1), .d (eS a2), .d (eB a3), .d (eI a4)] [] (.tup [.d (eTApiChallenges res.1), .ref 1 res.2.1.length 0 res.2.1.length, .d (eI res.2.2)]) [(1, .row true 1 (res.2.1.map eU8))] := by
  unfold challengeIssue at h
  refine callOK challengeIssueC fm rfl ?_
  simp only [initE, initM, nbor, List.map_cons, List.map_nil, Nat.reduceAdd]
  unfold challengeIssueRc
  refine rwp_seq fun K1 hK1 => ?_
  refine rwp_region fun K2 hK2 => ?_
  refine st1 128 rfl (mem' := [(64, .var .mine [.d (eU64 a0.Secret), .d (eI a0.Count), .d ((eL 5 eTApiChallenge) a0.Open)])]) (ok (bx (ps := [.d (eU64 a0.Secret), .d (eI a0.Count), .d ((eL 5 eTApiChallenge) a0.Open)]) rfl rfl)) rfl ?_
  refine st1 192 rfl (mem' := [(128, .var .mine [.d (eU64 (0#64)), .d (eI (0 : Int)), .nil 5]), (64, .var .mine [.d (eU64 a0.Secret), .d (eI a0.Count), .d ((eL 5 eTApiChallenge) a0.Open)])]) (ok (alc (zs := [.d (eU64 (0#64)), .d (eI (0 : Int)), .nil 5]))) rfl ?_
  refine st0 256 rfl (ok (mv (.nil 1))) ?_
  refine st0 320 rfl (ok (mv (.d (eI (0 : Int))))) ?_
  refine hK2 _ _ ?_
  simp only [thenK, blockK, keepE, updM, List.filter_cons, List.filter_nil, List.nil_append, List.cons_append, List.map_cons, List.map_nil, envE, Mem.get, Nat.reduceEqDiff, reduceIte, Option.isNone_none, Option.isNone_some, Bool.false_eq_true, List.length_cons, List.length_nil, Nat.reduceAdd, Nat.reduceMul]
  refine hK1 _ _ _ ?_
  refine rwp_seq fun K3 hK3 => ?_
  refine rwp_join ([], []) 768 (fun env mem => ∃ (v4 : Bool), challengeIssueJ1 a0 a1 a2 a3 a4 v4 = some res ∧ env = [(1, .d (eI a1)), (2, .d (eS a2)), (3, .d (eB a3)), (4, .d (eI a4)), (5, .ptr 64 0), (10, .ptr 128 0), (20, .d (eB v4))] ∧ mem = [(64, .var .mine [.d (eU64 a0.Secret), .d (eI a0.Count), .d ((eL 5 eTApiChallenge) a0.Open)]), (128, .var .mine [.d (eU64 (0#64)), .d (eI (0 : Int)), .nil 5])]) (fun _ _ hI => ?_) (fun K5 hK5 => ?_)
  · obtain ⟨v4, h, rfl, rfl⟩ := hI
    unfold challengeIssueJ1 at h
    rcases Bool.eq_false_or_eq_true (v4) with h6 | h6
    · replace h := ite_t h h6
      refine rwp_t (isT h6) ?_
      refine rwp_seq fun K7 hK7 => ?_
      refine rwp_region fun K8 hK8 => ?_
      refine st0 832 rfl (ok (ld_v (v := .d (.agg [eU64 a0.Secret, eI a0.Count, (eL 5 eTApiChallenge) a0.Open])) rfl rfl rfl)) ?_
      refine stn 896 rfl (mem' := [(128, .var .mine [.d (eU64 a0.Secret), .d (eI a0.Count), .d ((eL 5 eTApiChallenge) a0.Open)]), (64, .var .mine [.d (eU64 a0.Secret), .d (eI a0.Count), .d ((eL 5 eTApiChallenge) a0.Open)])]) (ok (sto_v (ps' := [.d (eU64 a0.Secret), .d (eI a0.Count), .d ((eL 5 eTApiChallenge) a0.Open)]) rfl rfl rfl rfl)) rfl ?_
      refine st0 960 rfl (ok (mv (.nil 1))) ?_
      refine st0 1024 rfl (ok (mv (.d (eI (9 : Int))))) ?_
      refine hK8 _ _ ?_
      simp only [thenK, blockK, keepE, updM, List.filter_cons, List.filter_nil, List.nil_append, List.cons_append, List.map_cons, List.map_nil, envE, Mem.get, Nat.reduceEqDiff, reduceIte, Option.isNone_none, Option.isNone_some, Bool.false_eq_true, List.length_cons, List.length_nil, Nat.reduceAdd, Nat.reduceMul]
      refine hK7 _ _ _ ?_
      refine rwp_ret ?_
      obtain rfl := Option.some.inj h
      try simp only [thenK, blockK, reduceIte]
      exact Or.inl (end_ok trivial (rs_c (id := 128) (off := 0) (v := .d (.agg [eU64 a0.Secret, eI a0.Count, (eL 5 eTApiChallenge) a0.Open])) rfl rfl rfl rfl (rs_t (v := .nil 1) rfl (rs_t (v := .d (eI (9 : Int))) rfl rs_nil))) (en_d (to_d _) (en_nilr (en_d (to_d _) en_nil))) ou_nil (by first | exact eok rfl rfl rfl rfl (And.intro (And.intro rfl rfl) trivial) | (refine eok ?_ ?_ ?_ ?_ ?_ <;> first | rfl | exact (And.intro (And.intro rfl rfl) trivial) | simp [retM, Mem.get, PV.renL, PV.ren, Blk.ren, comps, rhoR, rhoM, appN, PV.refsL, PV.refs, keys, nodupB, Blk.refs, allIn, Blk.bor])))
    · replace h := ite_f h h6
      refine rwp_f (isF h6) ?_
      refine rwp_skip ?_
      refine hK3 _ _ _ ?_
      refine rwp_seq fun K9 hK9 => ?_
      refine rwp_join ([], []) 1216 (fun env mem => ∃ (v10 : Bool), challengeIssueJ2 a0 a1 a2 a3 a4 v10 = some res ∧ env = [(1, .d (eI a1)), (2, .d (eS a2)), (3, .d (eB a3)), (4, .d (eI a4)), (5, .ptr 64 0), (10, .ptr 128 0), (27, .d (eB v10))] ∧ mem = [(64, .var .mine [.d (eU64 a0.Secret), .d (eI a0.Count), .d ((eL 5 eTApiChallenge) a0.Open)]), (128, .var .mine [.d (eU64 (0#64)), .d (eI (0 : Int)), .nil 5])]) (fun _ _ hI => ?_) (fun K11 hK11 => ?_)
      · obtain ⟨v10, h, rfl, rfl⟩ := hI
        unfold challengeIssueJ2 at h
        rcases Bool.eq_false_or_eq_true (v10) with h12 | h12
        · replace h := ite_t h h12
          refine rwp_t (isT h12) ?_
          refine rwp_seq fun K13 hK13 => ?_
          refine rwp_region fun K14 hK14 => ?_
          refine st0 1280 rfl (ok (ld_v (v := .d (.agg [eU64 a0.Secret, eI a0.Count, (eL 5 eTApiChallenge) a0.Open])) rfl rfl rfl)) ?_
          refine stn 1344 rfl (mem' := [(128, .var .mine [.d (eU64 a0.Secret), .d (eI a0.Count), .d ((eL 5 eTApiChallenge) a0.Open)]), (64, .var .mine [.d (eU64 a0.Secret), .d (eI a0.Count), .d ((eL 5 eTApiChallenge) a0.Open)])]) (ok (sto_v (ps' := [.d (eU64 a0.Secret), .d (eI a0.Count), .d ((eL 5 eTApiChallenge) a0.Open)]) rfl rfl rfl rfl)) rfl ?_
          refine st0 1408 rfl (ok (mv (.nil 1))) ?_
          refine st0 1472 rfl (ok (mv (.d (eI (3 : Int))))) ?_
          refine hK14 _ _ ?_
          simp only [thenK, blockK, keepE, updM, List.filter_cons, List.filter_nil, List.nil_append, List.cons_append, List.map_cons, List.map_nil, envE, Mem.get, Nat.reduceEqDiff, reduceIte, Option.isNone_none, Option.isNone_some, Bool.false_eq_true, List.length_cons, List.length_nil, Nat.reduceAdd, Nat.reduceMul]
          refine hK13 _ _ _ ?_
          refine rwp_ret ?_
          obtain rfl := Option.some.inj h
          try simp only [thenK, blockK, reduceIte]
          exact Or.inl (end_ok trivial (rs_c (id := 128) (off := 0) (v := .d (.agg [eU64 a0.Secret, eI a0.Count, (eL 5 eTApiChallenge) a0.Open])) rfl rfl rfl rfl (rs_t (v := .nil 1) rfl (rs_t (v := .d (eI (3 : Int))) rfl rs_nil))) (en_d (to_d _) (en_nilr (en_d (to_d _) en_nil))) ou_nil (by first | exact eok rfl rfl rfl rfl (And.intro (And.intro rfl rfl) trivial) | (refine eok ?_ ?_ ?_ ?_ ?_ <;> first | rfl | exact (And.intro (And.intro rfl rfl) trivial) | simp [retM, Mem.get, PV.renL, PV.ren, Blk.ren, comps, rhoR, rhoM, appN, PV.refsL, PV.refs, keys, nodupB, Blk.refs, allIn, Blk.bor])))
        · replace h := ite_f h h12
          refine rwp_f (isF h12) ?_
          refine rwp_skip ?_
          refine hK9 _ _ _ ?_
          refine rwp_seq fun K15 hK15 => ?_
          refine rwp_seq fun K16 hK16 => ?_
          refine rwp_region fun K17 hK17 => ?_
          refine st0 1280 rfl (ok (mv (.d (eS a2)))) ?_
          refine st0 1344 rfl (ok (lenS _)) ?_
          refine st0 1408 rfl (ok (gtrI _ (32 : Int))) ?_
          refine hK17 _ _ ?_
          simp only [thenK, blockK, keepE, updM, List.filter_cons, List.filter_nil, List.nil_append, List.cons_append, List.map_cons, List.map_nil, envE, Mem.get, Nat.reduceEqDiff, reduceIte, Option.isNone_none, Option.isNone_some, Bool.false_eq_true, List.length_cons, List.length_nil, Nat.reduceAdd, Nat.reduceMul]
          refine hK16 _ _ _ ?_
          rcases Bool.eq_false_or_eq_true ((decide ((32 : Int) < (a2.length : Int)))) with h18 | h18
          · replace h := ite_t h h18
            refine rwp_t (isT h18) ?_
            refine rwp_seq fun K19 hK19 => ?_
            refine rwp_region fun K20 hK20 => ?_
            refine st0 1472 rfl (ok (ld_v (v := .d (.agg [eU64 a0.Secret, eI a0.Count, (eL 5 eTApiChallenge) a0.Open])) rfl rfl rfl)) ?_
            refine stn 1536 rfl (mem' := [(128, .var .mine [.d (eU64 a0.Secret), .d (eI a0.Count), .d ((eL 5 eTApiChallenge) a0.Open)]), (64, .var .mine [.d (eU64 a0.Secret), .d (eI a0.Count), .d ((eL 5 eTApiChallenge) a0.Open)])]) (ok (sto_v (ps' := [.d (eU64 a0.Secret), .d (eI a0.Count), .d ((eL 5 eTApiChallenge) a0.Open)]) rfl rfl rfl rfl)) rfl ?_
            refine st0 1600 rfl (ok (mv (.nil 1))) ?_
            refine st0 1664 rfl (ok (mv (.d (eI (8 : Int))))) ?_
            refine hK20 _ _ ?_
            simp only [thenK, blockK, keepE, updM, List.filter_cons, List.filter_nil, List.nil_append, List.cons_append, List.map_cons, List.map_nil, envE, Mem.get, Nat.reduceEqDiff, reduceIte, Option.isNone_none, Option.isNone_some, Bool.false_eq_true, List.length_cons, List.length_nil, Nat.reduceAdd, Nat.reduceMul]
            refine hK19 _ _ _ ?_
            refine rwp_ret ?_
            obtain rfl := Option.some.inj h
            try simp only [thenK, blockK, reduceIte]
            exact Or.inl (end_ok trivial (rs_c (id := 128) (off := 0) (v := .d (.agg [eU64 a0.Secret, eI a0.Count, (eL 5 eTApiChallenge) a0.Open])) rfl rfl rfl rfl (rs_t (v := .nil 1) rfl (rs_t (v := .d (eI (8 : Int))) rfl rs_nil))) (en_d (to_d _) (en_nilr (en_d (to_d _) en_nil))) ou_nil (by first | exact eok rfl rfl rfl rfl (And.intro (And.intro rfl rfl) trivial) | (refine eok ?_ ?_ ?_ ?_ ?_ <;> first | rfl | exact (And.intro (And.intro rfl rfl) trivial) | simp [retM, Mem.get, PV.renL, PV.ren, Blk.ren, comps, rhoR, rhoM, appN, PV.refsL, PV.refs, keys, nodupB, Blk.refs, allIn, Blk.bor])))
          · replace h := ite_f h h18
            refine rwp_f (isF h18) ?_
            refine rwp_skip ?_
            refine hK15 _ _ _ ?_
            refine rwp_seq fun K21 hK21 => ?_
            refine rwp_region fun K22 hK22 => ?_
            refine st0 1472 rfl (ok (ld_v (v := .d (.agg [eU64 a0.Secret, eI a0.Count, (eL 5 eTApiChallenge) a0.Open])) rfl rfl rfl)) ?_
            refine st0 1536 rfl (ok (mv (.d (eI a4)))) ?_
            obtain ⟨y23, h24, h⟩ := bind_inv h
            refine st1 1600 rfl (mem' := [(1546, .row true 5 (y23.Open.map eTApiChallenge)), (64, .var .mine [.d (eU64 a0.Secret), .d (eI a0.Count), .d ((eL 5 eTApiChallenge) a0.Open)]), (128, .var .mine [.d (eU64 (0#64)), .d (eI (0 : Int)), .nil 5])]) (call_ok (v := .agg [.d (eU64 y23.Secret), .d (eI y23.Count), .ref 1546 y23.Open.length 0 y23.Open.length]) (u := [(1546, .row true 5 (y23.Open.map eTApiChallenge))]) (ar_d (eTApiChallenges (TApiChallenges.mk a0.Secret a0.Count a0.Open)) (ar_d (eI a4) ar_nil)) rfl (challengeExpireOwnOK (TApiChallenges.mk a0.Secret a0.Count a0.Open) a4 y23 h24) rfl) rfl ?_
            refine st1 1664 rfl (mem' := [(1600, .var .mine [.d (eU64 (0#64)), .d (eI (0 : Int)), .nil 5]), (1546, .row true 5 (y23.Open.map eTApiChallenge)), (64, .var .mine [.d (eU64 a0.Secret), .d (eI a0.Count), .d ((eL 5 eTApiChallenge) a0.Open)]), (128, .var .mine [.d (eU64 (0#64)), .d (eI (0 : Int)), .nil 5])]) (ok (alc (zs := [.d (eU64 (0#64)), .d (eI (0 : Int)), .nil 5]))) rfl ?_
            refine stn 1728 rfl (mem' := [(1600, .var .mine [.d (eU64 y23.Secret), .d (eI y23.Count), .ref 1546 y23.Open.length 0 y23.Open.length]), (1546, .row true 5 (y23.Open.map eTApiChallenge)), (64, .var .mine [.d (eU64 a0.Secret), .d (eI a0.Count), .d ((eL 5 eTApiChallenge) a0.Open)]), (128, .var .mine [.d (eU64 (0#64)), .d (eI (0 : Int)), .nil 5])]) (ok (sto_v (ps' := [.d (eU64 y23.Secret), .d (eI y23.Count), .ref 1546 y23.Open.length 0 y23.Open.length]) rfl rfl rfl rfl)) rfl ?_
            refine hK22 _ _ ?_
            simp only [thenK, blockK, keepE, updM, List.filter_cons, List.filter_nil, List.nil_append, List.cons_append, List.map_cons, List.map_nil, envE, Mem.get, Nat.reduceEqDiff, reduceIte, Option.isNone_none, Option.isNone_some, Bool.false_eq_true, List.length_cons, List.length_nil, Nat.reduceAdd, Nat.reduceMul]
            refine hK21 _ _ _ ?_
            refine rwp_seq fun K25 hK25 => ?_
            refine rwp_seq fun K26 hK26 => ?_
            refine rwp_region fun K27 hK27 => ?_
            refine st0 1792 rfl (ok (fa_k 2 rfl)) ?_
            refine st0 1856 rfl (ok (ld_v (v := .ref 1546 y23.Open.length 0 y23.Open.length) rfl rfl rfl)) ?_
            refine st0 1920 rfl (ok (lenR _ _ _ _)) ?_
            refine st0 1984 rfl (ok (geqI _ (32 : Int))) ?_
            refine hK27 _ _ ?_
            simp only [thenK, blockK, keepE, updM, List.filter_cons, List.filter_nil, List.nil_append, List.cons_append, List.map_cons, List.map_nil, envE, Mem.get, Nat.reduceEqDiff, reduceIte, Option.isNone_none, Option.isNone_some, Bool.false_eq_true, List.length_cons, List.length_nil, Nat.reduceAdd, Nat.reduceMul]
            refine hK26 _ _ _ ?_
            rcases Bool.eq_false_or_eq_true ((decide ((32 : Int) ≤ (y23.Open.length : Int)))) with h28 | h28
            · replace h := ite_t h h28
              refine rwp_t (isT h28) ?_
              refine rwp_seq fun K29 hK29 => ?_
              refine rwp_region fun K30 hK30 => ?_
              refine st0 2048 rfl (ok (ld_v (v := .d (.agg [eU64 a0.Secret, eI a0.Count, (eL 5 eTApiChallenge) a0.Open])) rfl rfl rfl)) ?_
              refine stn 2112 rfl (mem' := [(128, .var .mine [.d (eU64 a0.Secret), .d (eI a0.Count), .d ((eL 5 eTApiChallenge) a0.Open)]), (1600, .var .mine [.d (eU64 y23.Secret), .d (eI y23.Count), .ref 1546 y23.Open.length 0 y23.Open.length]), (1546, .row true 5 (y23.Open.map eTApiChallenge)), (64, .var .mine [.d (eU64 a0.Secret), .d (eI a0.Count), .d ((eL 5 eTApiChallenge) a0.Open)])]) (ok (sto_v (ps' := [.d (eU64 a0.Secret), .d (eI a0.Count), .d ((eL 5 eTApiChallenge) a0.Open)]) rfl rfl rfl rfl)) rfl ?_
              refine st0 2176 rfl (ok (mv (.nil 1))) ?_
              refine st0 2240 rfl (ok (mv (.d (eI (12 : Int))))) ?_
              refine hK30 _ _ ?_
              simp only [thenK, blockK, keepE, updM, List.filter_cons, List.filter_nil, List.nil_append, List.cons_append, List.map_cons, List.map_nil, envE, Mem.get, Nat.reduceEqDiff, reduceIte, Option.isNone_none, Option.isNone_some, Bool.false_eq_true, List.length_cons, List.length_nil, Nat.reduceAdd, Nat.reduceMul]
              refine hK29 _ _ _ ?_
              refine rwp_ret ?_
              obtain rfl := Option.some.inj h
              try simp only [thenK, blockK, reduceIte]
              exact Or.inl (end_ok trivial (rs_c (id := 128) (off := 0) (v := .d (.agg [eU64 a0.Secret, eI a0.Count, (eL 5 eTApiChallenge) a0.Open])) rfl rfl rfl rfl (rs_t (v := .nil 1) rfl (rs_t (v := .d (eI (12 : Int))) rfl rs_nil))) (en_d (to_d _) (en_nilr (en_d (to_d _) en_nil))) ou_nil (by first | exact eok rfl rfl rfl rfl (And.intro (And.intro rfl rfl) trivial) | (refine eok ?_ ?_ ?_ ?_ ?_ <;> first | rfl | exact (And.intro (And.intro rfl rfl) trivial) | simp [retM, Mem.get, PV.renL, PV.ren, Blk.ren, comps, rhoR, rhoM, appN, PV.refsL, PV.refs, keys, nodupB, Blk.refs, allIn, Blk.bor])))
            · replace h := ite_f h h28
              refine rwp_f (isF h28) ?_
              refine rwp_skip ?_
              refine hK25 _ _ _ ?_
              refine rwp_seq fun K31 hK31 => ?_
              refine rwp_region fun K32 hK32 => ?_
              refine st0 2048 rfl (ok (fa_k 1 rfl)) ?_
              refine st0 2112 rfl (ok (ld_v (v := .d (eI a0.Count)) rfl rfl rfl)) ?_
              refine st0 2176 rfl (ok (mv (.d (eI a1)))) ?_
              refine st0 2240 rfl (ok (mv (.d (eS a2)))) ?_
              refine st0 2304 rfl (ok (mv (.d (eB a3)))) ?_
              refine st0 2368 rfl (ok (mv (.d (eI a4)))) ?_
              refine st0 2432 rfl (ok (bld (v := .d (.agg [eI a0.Count, eI a1, eS a2, eB a3, eI a4])) rfl rfl)) ?_
              refine st1 2496 rfl (mem' := [(2432, .var .mine [.d (eI (0 : Int)), .d (eI (0 : Int)), .d (eS ([] : List (BitVec 8))), .d (eB false), .d (eI (0 : Int))]), (1600, .var .mine [.d (eU64 y23.Secret), .d (eI y23.Count), .ref 1546 y23.Open.length 0 y23.Open.length]), (1546, .row true 5 (y23.Open.map eTApiChallenge)), (64, .var .mine [.d (eU64 a0.Secret), .d (eI a0.Count), .d ((eL 5 eTApiChallenge) a0.Open)]), (128, .var .mine [.d (eU64 (0#64)), .d (eI (0 : Int)), .nil 5])]) (ok (alc (zs := [.d (eI (0 : Int)), .d (eI (0 : Int)), .d (eS ([] : List (BitVec 8))), .d (eB false), .d (eI (0 : Int))]))) rfl ?_
              refine stn 2560 rfl (mem' := [(2432, .var .mine [.d (eI a0.Count), .d (eI a1), .d (eS a2), .d (eB a3), .d (eI a4)]), (1600, .var .mine [.d (eU64 y23.Secret), .d (eI y23.Count), .ref 1546 y23.Open.length 0 y23.Open.length]), (1546, .row true 5 (y23.Open.map eTApiChallenge)), (64, .var .mine [.d (eU64 a0.Secret), .d (eI a0.Count), .d ((eL 5 eTApiChallenge) a0.Open)]), (128, .var .mine [.d (eU64 (0#64)), .d (eI (0 : Int)), .nil 5])]) (ok (sto_v (ps' := [.d (eI a0.Count), .d (eI a1), .d (eS a2), .d (eB a3), .d (eI a4)]) rfl rfl rfl rfl)) rfl ?_
              refine hK32 _ _ ?_
              simp only [thenK, blockK, keepE, updM, List.filter_cons, List.filter_nil, List.nil_append, List.cons_append, List.map_cons, List.map_nil, envE, Mem.get, Nat.reduceEqDiff, reduceIte, Option.isNone_none, Option.isNone_some, Bool.false_eq_true, List.length_cons, List.length_nil, Nat.reduceAdd, Nat.reduceMul]
              refine hK31 _ _ _ ?_
              refine rwp_seq fun K33 hK33 => ?_
              refine rwp_region fun K34 hK34 => ?_
              refine st0 2624 rfl (ok (fa_k 1 rfl)) ?_
              refine st0 2688 rfl (ok (ld_v (v := .d (eI y23.Count)) rfl rfl rfl)) ?_
              refine st0 2752 rfl (ok (addI _ (1 : Int))) ?_
              refine st0 2816 rfl (ok (fa_k 1 rfl)) ?_
              refine stn 2880 rfl (mem' := [(1600, .var .mine [.d (eU64 y23.Secret), .d (eI (w64 (y23.Count + (1 : Int)))), .ref 1546 y23.Open.length 0 y23.Open.length]), (2432, .var .mine [.d (eI a0.Count), .d (eI a1), .d (eS a2), .d (eB a3), .d (eI a4)]), (1546, .row true 5 (y23.Open.map eTApiChallenge)), (64, .var .mine [.d (eU64 a0.Secret), .d (eI a0.Count), .d ((eL 5 eTApiChallenge) a0.Open)]), (128, .var .mine [.d (eU64 (0#64)), .d (eI (0 : Int)), .nil 5])]) (ok (sto_v (ps' := [.d (eU64 y23.Secret), .d (eI (w64 (y23.Count + (1 : Int)))), .ref 1546 y23.Open.length 0 y23.Open.length]) rfl rfl rfl rfl)) rfl ?_
              refine hK34 _ _ ?_
              simp only [thenK, blockK, keepE, updM, List.filter_cons, List.filter_nil, List.nil_append, List.cons_append, List.map_cons, List.map_nil, envE, Mem.get, Nat.reduceEqDiff, reduceIte, Option.isNone_none, Option.isNone_some, Bool.false_eq_true, List.length_cons, List.length_nil, Nat.reduceAdd, Nat.reduceMul]
              refine hK33 _ _ _ ?_
              refine rwp_seq fun K35 hK35 => ?_
              refine rwp_region fun K36 hK36 => ?_
              refine st0 2944 rfl (ok (fa_k 2 rfl)) ?_
              refine st0 3008 rfl (ok (ld_v (v := .ref 1546 y23.Open.length 0 y23.Open.length) rfl rfl rfl)) ?_
              refine st0 3072 rfl (ok (ld_v (v := .d (.agg [eI a0.Count, eI a1, eS a2, eB a3, eI a4])) rfl rfl rfl)) ?_
              refine st1 3136 rfl (mem' := [(3072, .row true 5 (([(TApiChallenge.mk a0.Count a1 a2 a3 a4)] : List (TApiChallenge)).map eTApiChallenge)), (1600, .var .mine [.d (eU64 y23.Secret), .d (eI (w64 (y23.Count + (1 : Int)))), .ref 1546 y23.Open.length 0 y23.Open.length]), (2432, .var .mine [.d (eI a0.Count), .d (eI a1), .d (eS a2), .d (eB a3), .d (eI a4)]), (1546, .row true 5 (y23.Open.map eTApiChallenge)), (64, .var .mine [.d (eU64 a0.Secret), .d (eI a0.Count), .d ((eL 5 eTApiChallenge) a0.Open)]), (128, .var .mine [.d (eU64 (0#64)), .d (eI (0 : Int)), .nil 5])]) (ok (bsl (e := eTApiChallenge) (ys := ([(TApiChallenge.mk a0.Count a1 a2 a3 a4)] : List (TApiChallenge))) rfl rfl rfl)) rfl ?_
              obtain ⟨h37, h⟩ := asq_inv h
              refine st1 3200 rfl (mem' := [(1546, .row true 5 ((y23.Open ++ ([(TApiChallenge.mk a0.Count a1 a2 a3 a4)] : List (TApiChallenge))).map eTApiChallenge)), (3072, .row true 5 (([(TApiChallenge.mk a0.Count a1 a2 a3 a4)] : List (TApiChallenge)).map eTApiChallenge)), (1600, .var .mine [.d (eU64 y23.Secret), .d (eI (w64 (y23.Count + (1 : Int)))), .ref 1546 y23.Open.length 0 y23.Open.length]), (2432, .var .mine [.d (eI a0.Count), .d (eI a1), .d (eS a2), .d (eB a3), .d (eI a4)]), (64, .var .mine [.d (eU64 a0.Secret), .d (eI a0.Count), .d ((eL 5 eTApiChallenge) a0.Open)]), (128, .var .mine [.d (eU64 (0#64)), .d (eI (0 : Int)), .nil 5])]) (ok (appR (e := eTApiChallenge) (xs := y23.Open) (ys := ([(TApiChallenge.mk a0.Count a1 a2 a3 a4)] : List (TApiChallenge))) (contR (xs := ([(TApiChallenge.mk a0.Count a1 a2 a3 a4)] : List (TApiChallenge))) rfl rfl rfl) rfl rfl rfl h37)) rfl ?_
              refine st0 3264 rfl (ok (fa_k 2 rfl)) ?_
              refine stn 3328 rfl (mem' := [(1600, .var .mine [.d (eU64 y23.Secret), .d (eI (w64 (y23.Count + (1 : Int)))), .ref 1546 (((y23.Open ++ ([(TApiChallenge.mk a0.Count a1 a2 a3 a4)] : List (TApiChallenge)))).length) 0 (((y23.Open ++ ([(TApiChallenge.mk a0.Count a1 a2 a3 a4)] : List (TApiChallenge)))).length)]), (1546, .row true 5 ((y23.Open ++ ([(TApiChallenge.mk a0.Count a1 a2 a3 a4)] : List (TApiChallenge))).map eTApiChallenge)), (3072, .row true 5 (([(TApiChallenge.mk a0.Count a1 a2 a3 a4)] : List (TApiChallenge)).map eTApiChallenge)), (2432, .var .mine [.d (eI a0.Count), .d (eI a1), .d (eS a2), .d (eB a3), .d (eI a4)]), (64, .var .mine [.d (eU64 a0.Secret), .d (eI a0.Count), .d ((eL 5 eTApiChallenge) a0.Open)]), (128, .var .mine [.d (eU64 (0#64)), .d (eI (0 : Int)), .nil 5])]) (ok (sto_v (ps' := [.d (eU64 y23.Secret), .d (eI (w64 (y23.Count + (1 : Int)))), .ref 1546 (((y23.Open ++ ([(TApiChallenge.mk a0.Count a1 a2 a3 a4)] : List (TApiChallenge)))).length) 0 (((y23.Open ++ ([(TApiChallenge.mk a0.Count a1 a2 a3 a4)] : List (TApiChallenge)))).length)]) rfl rfl rfl rfl)) rfl ?_
              refine hK36 _ _ ?_
              simp only [thenK, blockK, keepE, updM, List.filter_cons, List.filter_nil, List.nil_append, List.cons_append, List.map_cons, List.map_nil, envE, Mem.get, Nat.reduceEqDiff, reduceIte, Option.isNone_none, Option.isNone_some, Bool.false_eq_true, List.length_cons, List.length_nil, Nat.reduceAdd, Nat.reduceMul]
              refine hK35 _ _ _ ?_
              refine rwp_seq fun K38 hK38 => ?_
              refine rwp_draw fun K39 hK39 => ?_
              refine dr0 3392 rfl (ok (ld_v (v := .agg [.d (eU64 y23.Secret), .d (eI (w64 (y23.Count + (1 : Int)))), .ref 1546 (((y23.Open ++ ([(TApiChallenge.mk a0.Count a1 a2 a3 a4)] : List (TApiChallenge)))).length) 0 (((y23.Open ++ ([(TApiChallenge.mk a0.Count a1 a2 a3 a4)] : List (TApiChallenge)))).length)]) rfl rfl rfl)) (by kernel_rfl) ?_
              refine dr0 3456 rfl (ok (ld_v (v := .agg [.d (eU64 y23.Secret), .d (eI (w64 (y23.Count + (1 : Int)))), .ref 1546 (((y23.Open ++ ([(TApiChallenge.mk a0.Count a1 a2 a3 a4)] : List (TApiChallenge)))).length) 0 (((y23.Open ++ ([(TApiChallenge.mk a0.Count a1 a2 a3 a4)] : List (TApiChallenge)))).length)]) rfl rfl rfl)) (by kernel_rfl) ?_
              refine dr0 3520 rfl (ok (ld_v (v := .d (.agg [eI a0.Count, eI a1, eS a2, eB a3, eI a4])) rfl rfl rfl)) (by kernel_rfl) ?_
              obtain ⟨y40, h41, h⟩ := bind_inv h
              refine dr1 3584 rfl (mem' := [(3520, .row true 1 (y40.map eU8)), (1546, .row false 5 ((y23.Open ++ ([(TApiChallenge.mk a0.Count a1 a2 a3 a4)] : List (TApiChallenge))).map eTApiChallenge)), (1600, .var .mine [.d (eU64 y23.Secret), .d (eI (w64 (y23.Count + (1 : Int)))), .ref 1546 (((y23.Open ++ ([(TApiChallenge.mk a0.Count a1 a2 a3 a4)] : List (TApiChallenge)))).length) 0 (((y23.Open ++ ([(TApiChallenge.mk a0.Count a1 a2 a3 a4)] : List (TApiChallenge)))).length)]), (3072, .row true 5 (([(TApiChallenge.mk a0.Count a1 a2 a3 a4)] : List (TApiChallenge)).map eTApiChallenge)), (2432, .var .mine [.d (eI a0.Count), .d (eI a1), .d (eS a2), .d (eB a3), .d (eI a4)]), (64, .var .mine [.d (eU64 a0.Secret), .d (eI a0.Count), .d ((eL 5 eTApiChallenge) a0.Open)]), (128, .var .mine [.d (eU64 (0#64)), .d (eI (0 : Int)), .nil 5])]) (call_ok (v := .ref 3520 y40.length 0 y40.length) (u := [(3520, .row true 1 (y40.map eU8)), (1546, .row false 5 ((y23.Open ++ ([(TApiChallenge.mk a0.Count a1 a2 a3 a4)] : List (TApiChallenge))).map eTApiChallenge))]) (ar_to rfl (to_agg (ds_d _ (ds_d _ (ds_r (ys := (y23.Open ++ ([(TApiChallenge.mk a0.Count a1 a2 a3 a4)] : List (TApiChallenge)))) rfl rfl rfl ds_nil))) (x := eTApiChallenges (TApiChallenges.mk y23.Secret (w64 (y23.Count + (1 : Int))) (y23.Open ++ ([(TApiChallenge.mk a0.Count a1 a2 a3 a4)] : List (TApiChallenge))))) rfl) (ar_d (eTApiChallenge (TApiChallenge.mk a0.Count a1 a2 a3 a4)) ar_nil)) rfl (challengeBytesOK (TApiChallenges.mk y23.Secret (w64 (y23.Count + (1 : Int))) (y23.Open ++ ([(TApiChallenge.mk a0.Count a1 a2 a3 a4)] : List (TApiChallenge)))) (TApiChallenge.mk a0.Count a1 a2 a3 a4) y40 h41) rfl) rfl (by kernel_rfl) ?_
              refine drn 3648 rfl (mem' := [(128, .var .mine [.d (eU64 y23.Secret), .d (eI (w64 (y23.Count + (1 : Int)))), .ref 1546 (((y23.Open ++ ([(TApiChallenge.mk a0.Count a1 a2 a3 a4)] : List (TApiChallenge)))).length) 0 (((y23.Open ++ ([(TApiChallenge.mk a0.Count a1 a2 a3 a4)] : List (TApiChallenge)))).length)]), (3520, .row true 1 (y40.map eU8)), (1546, .row false 5 ((y23.Open ++ ([(TApiChallenge.mk a0.Count a1 a2 a3 a4)] : List (TApiChallenge))).map eTApiChallenge)), (1600, .var .mine [.d (eU64 y23.Secret), .d (eI (w64 (y23.Count + (1 : Int)))), .ref 1546 (((y23.Open ++ ([(TApiChallenge.mk a0.Count a1 a2 a3 a4)] : List (TApiChallenge)))).length) 0 (((y23.Open ++ ([(TApiChallenge.mk a0.Count a1 a2 a3 a4)] : List (TApiChallenge)))).length)]), (3072, .row true 5 (([(TApiChallenge.mk a0.Count a1 a2 a3 a4)] : List (TApiChallenge)).map eTApiChallenge)), (2432, .var .mine [.d (eI a0.Count), .d (eI a1), .d (eS a2), .d (eB a3), .d (eI a4)]), (64, .var .mine [.d (eU64 a0.Secret), .d (eI a0.Count), .d ((eL 5 eTApiChallenge) a0.Open)])]) (ok (sto_v (ps' := [.d (eU64 y23.Secret), .d (eI (w64 (y23.Count + (1 : Int)))), .ref 1546 (((y23.Open ++ ([(TApiChallenge.mk a0.Count a1 a2 a3 a4)] : List (TApiChallenge)))).length) 0 (((y23.Open ++ ([(TApiChallenge.mk a0.Count a1 a2 a3 a4)] : List (TApiChallenge)))).length)]) rfl rfl rfl rfl)) rfl (by kernel_rfl) ?_
              refine dr0 3712 rfl (ok (mv (.ref 3520 y40.length 0 y40.length))) (by kernel_rfl) ?_
              refine dr0 3776 rfl (ok (mv (.d (eI (0 : Int))))) (by kernel_rfl) ?_
              refine hK39 _ _ ?_
              simp only [thenK, blockK, keepE, updM, List.filter_cons, List.filter_nil, List.nil_append, List.cons_append, List.map_cons, List.map_nil, envE, Mem.get, Nat.reduceEqDiff, reduceIte, Option.isNone_none, Option.isNone_some, Bool.false_eq_true, List.length_cons, List.length_nil, Nat.reduceAdd, Nat.reduceMul]
              refine hK38 _ _ _ ?_
              refine rwp_ret ?_
              obtain rfl := Option.some.inj h
              try simp only [thenK, blockK, reduceIte]
              exact Or.inl (end_ok trivial (rs_c (id := 128) (off := 0) (v := .agg [.d (eU64 y23.Secret), .d (eI (w64 (y23.Count + (1 : Int)))), .ref 1546 (((y23.Open ++ ([(TApiChallenge.mk a0.Count a1 a2 a3 a4)] : List (TApiChallenge)))).length) 0 (((y23.Open ++ ([(TApiChallenge.mk a0.Count a1 a2 a3 a4)] : List (TApiChallenge)))).length)]) rfl rfl rfl rfl (rs_t (v := .ref 3520 y40.length 0 y40.length) rfl (rs_t (v := .d (eI (0 : Int))) rfl rs_nil))) (en_d (to_agg (ds_d _ (ds_d _ (ds_r (ys := (y23.Open ++ ([(TApiChallenge.mk a0.Count a1 a2 a3 a4)] : List (TApiChallenge)))) rfl rfl rfl ds_nil))) (x := eTApiChallenges (TApiChallenges.mk y23.Secret (w64 (y23.Count + (1 : Int))) (y23.Open ++ ([(TApiChallenge.mk a0.Count a1 a2 a3 a4)] : List (TApiChallenge))))) rfl) (en_ref (en_d (to_d _) en_nil))) ou_nil (by first | exact eok rfl rfl rfl rfl (And.intro (And.intro rfl rfl) trivial) | (refine eok ?_ ?_ ?_ ?_ ?_ <;> first | rfl | exact (And.intro (And.intro rfl rfl) trivial) | simp [retM, Mem.get, PV.renL, PV.ren, Blk.ren, comps, rhoR, rhoM, appN, PV.refsL, PV.refs, keys, nodupB, Blk.refs, allIn, Blk.bor])))
      · refine rwp_region fun K42 hK42 => ?_
        refine st0 832 rfl (ok (mv (.d (eI a1)))) ?_
        refine st0 896 rfl (ok (neqI _ (1 : Int))) ?_
        refine st0 960 rfl (ok (mv (.d (eB (a1 != (1 : Int)))))) ?_
        rcases Bool.eq_false_or_eq_true ((a1 != (1 : Int))) with h43 | h43
        · replace h := ite_t h h43
          refine stG (isT h43) ?_
          refine st0 1024 rfl (ok (mv (.d (eI a1)))) ?_
          refine stG (isT h43) ?_
          refine st0 1088 rfl (ok (neqI _ (2 : Int))) ?_
          refine st0 1152 rfl (ok (pick_t h43 (.d (eB (a1 != (2 : Int)))) _)) ?_
          refine hK42 _ _ ?_
          simp only [thenK, blockK, keepE, updM, List.filter_cons, List.filter_nil, List.nil_append, List.cons_append, List.map_cons, List.map_nil, envE, Mem.get, Nat.reduceEqDiff, reduceIte, Option.isNone_none, Option.isNone_some, Bool.false_eq_true, List.length_cons, List.length_nil, Nat.reduceAdd, Nat.reduceMul]
          exact hK11 _ _ _ ⟨_, _, Settled.refl, _, _, ⟨_, h, rfl, rfl⟩, ⟨rfl, ⟨⟨rfl, rfl⟩, ⟨⟨rfl, rfl⟩, ⟨⟨rfl, rfl⟩, ⟨⟨rfl, rfl⟩, ⟨⟨rfl, rfl⟩, ⟨⟨rfl, rfl⟩, ⟨⟨rfl, rfl⟩, trivial⟩⟩⟩⟩⟩⟩⟩, ⟨⟨rfl, rfl⟩, ⟨⟨rfl, rfl⟩, trivial⟩⟩⟩, rfl⟩
        · replace h := ite_f h h43
          refine stGN 1024 rfl rfl h43 ?_
          refine stGN 1088 rfl rfl h43 ?_
          refine st0 1152 rfl (ok (pick_f h43 _ (.d (eB false)))) ?_
          refine hK42 _ _ ?_
          simp only [thenK, blockK, keepE, updM, List.filter_cons, List.filter_nil, List.nil_append, List.cons_append, List.map_cons, List.map_nil, envE, Mem.get, Nat.reduceEqDiff, reduceIte, Option.isNone_none, Option.isNone_some, Bool.false_eq_true, List.length_cons, List.length_nil, Nat.reduceAdd, Nat.reduceMul]
          exact hK11 _ _ _ ⟨_, _, Settled.refl, _, _, ⟨_, h, rfl, rfl⟩, ⟨rfl, ⟨⟨rfl, rfl⟩, ⟨⟨rfl, rfl⟩, ⟨⟨rfl, rfl⟩, ⟨⟨rfl, rfl⟩, ⟨⟨rfl, rfl⟩, ⟨⟨rfl, rfl⟩, ⟨⟨rfl, rfl⟩, trivial⟩⟩⟩⟩⟩⟩⟩, ⟨⟨rfl, rfl⟩, ⟨⟨rfl, rfl⟩, trivial⟩⟩⟩, rfl⟩
  · refine rwp_region fun K44 hK44 => ?_
    refine st0 384 rfl (ok (mv (.d (eI a4)))) ?_
    refine st0 448 rfl (ok (lssI _ (0 : Int))) ?_
    refine st0 512 rfl (ok (mv (.d (eB (decide (a4 < (0 : Int))))))) ?_
    rcases Bool.eq_false_or_eq_true ((decide (a4 < (0 : Int)))) with h45 | h45
    · replace h := ite_t h h45
      refine stGN 576 rfl rfl h45 ?_
      refine stGN 640 rfl rfl h45 ?_
      refine st0 704 rfl (ok (pick_t h45 (.d (eB true)) _)) ?_
      refine hK44 _ _ ?_
      simp only [thenK, blockK, keepE, updM, List.filter_cons, List.filter_nil, List.nil_append, List.cons_append, List.map_cons, List.map_nil, envE, Mem.get, Nat.reduceEqDiff, reduceIte, Option.isNone_none, Option.isNone_some, Bool.false_eq_true, List.length_cons, List.length_nil, Nat.reduceAdd, Nat.reduceMul]
      exact hK5 _ _ _ ⟨_, _, Settled.refl, _, _, ⟨_, h, rfl, rfl⟩, ⟨rfl, ⟨⟨rfl, rfl⟩, ⟨⟨rfl, rfl⟩, ⟨⟨rfl, rfl⟩, ⟨⟨rfl, rfl⟩, ⟨⟨rfl, rfl⟩, ⟨⟨rfl, rfl⟩, ⟨⟨rfl, rfl⟩, trivial⟩⟩⟩⟩⟩⟩⟩, ⟨⟨rfl, rfl⟩, ⟨⟨rfl, rfl⟩, trivial⟩⟩⟩, rfl⟩
    · replace h := ite_f h h45
      refine stG (isF h45) ?_
      refine st0 576 rfl (ok (mv (.d (eI a4)))) ?_
      refine stG (isF h45) ?_
      refine st0 640 rfl (ok (gtrI _ (1099511627776 : Int))) ?_
      refine st0 704 rfl (ok (pick_f h45 _ (.d (eB (decide ((1099511627776 : Int) < a4)))))) ?_
      refine hK44 _ _ ?_
      simp only [thenK, blockK, keepE, updM, List.filter_cons, List.filter_nil, List.nil_append, List.cons_append, List.map_cons, List.map_nil, envE, Mem.get, Nat.reduceEqDiff, reduceIte, Option.isNone_none, Option.isNone_some, Bool.false_eq_true, List.length_cons, List.length_nil, Nat.reduceAdd, Nat.reduceMul]
      exact hK5 _ _ _ ⟨_, _, Settled.refl, _, _, ⟨_, h, rfl, rfl⟩, ⟨rfl, ⟨⟨rfl, rfl⟩, ⟨⟨rfl, rfl⟩, ⟨⟨rfl, rfl⟩, ⟨⟨rfl, rfl⟩, ⟨⟨rfl, rfl⟩, ⟨⟨rfl, rfl⟩, ⟨⟨rfl, rfl⟩, trivial⟩⟩⟩⟩⟩⟩⟩, ⟨⟨rfl, rfl⟩, ⟨⟨rfl, rfl⟩, trivial⟩⟩⟩, rfl⟩

end Go.Proofs.Ty
