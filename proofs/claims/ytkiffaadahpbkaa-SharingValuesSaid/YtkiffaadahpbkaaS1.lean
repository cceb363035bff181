/- Each Go function comes to what its plain function says. PRINTED by a program of this session (ty.py). -/
import Derived.Test.YtkiffaadahpbkaaS0
set_option linter.unusedVariables false
set_option linter.unusedSimpArgs false
set_option maxHeartbeats 4000000
set_option maxRecDepth 10000
namespace Go.Proofs.Ty
open Go Go.RW Go.Proofs
/-- passkey/sharing.Split -/
def sharingSplitH : Hints := ⟨[(0, [0, 1, 2, 3]), (1, [0, 1, 2, 3, 19]), (2, [8, 9]), (3, [0, 1, 2, 3, 30]), (4, [8, 9]), (5, [0, 1, 2, 3, 38]), (6, [8, 9]), (7, [0, 1, 2, 10]), (8, [0, 1, 2, 10, 42, 43]), (9, [0, 1, 2, 10, 42, 43, 44]), (10, [0, 1, 2, 10, 11, 42, 43]), (11, [0, 1, 2, 10, 11, 12, 42, 43]), (12, [0, 1, 2, 10, 11, 12, 13, 42, 43]), (13, [0, 1, 2, 10, 11, 12, 13, 42, 43, 53, 54]), (14, [0, 1, 2, 10, 11, 12, 13, 42, 43, 53, 54, 55]), (15, [0, 1, 2, 10, 11, 12, 13, 14, 42, 43, 53, 54]), (16, [0, 1, 2, 10, 11, 12, 13, 14, 15, 42, 43, 53, 54]), (17, [0, 1, 2, 10, 11, 12, 13, 14, 15, 16, 42, 43, 53, 54]), (18, [0, 1, 2, 10, 11, 12, 13, 14, 15, 16, 42, 43, 53, 54, 60]), (20, [0, 1, 2, 10, 11, 12, 13, 14, 15, 16, 42, 43, 53, 54]), (19, [0, 1, 2, 10, 11, 12, 13, 14, 15, 16, 42, 43, 53, 54]), (21, [0, 1, 2, 10, 11, 12, 13, 42, 43, 53, 54]), (22, [0, 1, 2, 10, 11, 12, 13, 42, 43, 53, 54]), (23, [0, 1, 2, 10, 42, 43]), (24, [0, 1, 2, 10, 42, 43]), (25, [8, 9])], []⟩
def sharingSplitRc : RCode :=
  .seq (.region false [⟨some 8, .mv, [.k (.nil 2)], none, []⟩, ⟨some 9, .mv, [.k (.d (.int .i64 0))], none, []⟩] [0, 1, 2, 3]) (.seq (.seq (.region false [⟨some 17, .mv, [.t 0],
  none, []⟩, ⟨some 18, .len, [.t 17], none, []⟩, ⟨some 19, .bin .gtr, [.t 18, .k (.d (.int .i64 64))], none, []⟩] [0, 1, 2, 3, 19]) (.cond (.t 19) (.seq (.region false [⟨some 8,
  .mv, [.k (.nil 2)], none, []⟩, ⟨some 9, .mv, [.k (.d (.int .i64 8))], none, []⟩] [8, 9]) .ret) .skip)) (.seq (.seq (.region false [⟨some 20, .mv, [.t 2], none, []⟩, ⟨some 21,
  .bin .lss, [.t 20, .k (.d (.int .i64 1))], none, []⟩, ⟨some 22, .mv, [.t 21], none, []⟩, ⟨some 23, .mv, [.t 2], some (22, false), []⟩, ⟨some 24, .mv, [.t 3], some (22, false),
  []⟩, ⟨some 25, .bin .gtr, [.t 23, .t 24], some (22, false), []⟩, ⟨some 26, .pick, [.t 22, .k (.d (.bool true)), .t 25], none, []⟩, ⟨some 27, .mv, [.t 26], none, []⟩, ⟨some 28,
  .mv, [.t 3], some (27, false), []⟩, ⟨some 29, .bin .gtr, [.t 28, .k (.d (.int .i64 255))], some (27, false), []⟩, ⟨some 30, .pick, [.t 27, .k (.d (.bool true)), .t 29], none,
  []⟩] [0, 1, 2, 3, 30]) (.cond (.t 30) (.seq (.region false [⟨some 8, .mv, [.k (.nil 2)], none, []⟩, ⟨some 9, .mv, [.k (.d (.int .i64 9))], none, []⟩] [8, 9]) .ret) .skip)) (.seq
  (.seq (.region false [⟨some 31, .mv, [.t 1], none, []⟩, ⟨some 32, .len, [.t 31], none, []⟩, ⟨some 33, .mv, [.t 2], none, []⟩, ⟨some 34, .bin .sub, [.t 33, .k (.d (.int .i64 1))],
  none, []⟩, ⟨some 35, .mv, [.t 0], none, []⟩, ⟨some 36, .len, [.t 35], none, []⟩, ⟨some 37, .bin .mul, [.t 34, .t 36], none, []⟩, ⟨some 38, .bin .lss, [.t 32, .t 37], none, []⟩]
  [0, 1, 2, 3, 38]) (.cond (.t 38) (.seq (.region false [⟨some 8, .mv, [.k (.nil 2)], none, []⟩, ⟨some 9, .mv, [.k (.d (.int .i64 1))], none, []⟩] [8, 9]) .ret) .skip)) (.seq
  (.region false [⟨some 39, .mv, [.t 3], none, []⟩, ⟨some 40, .mks 2 true [.d (.int .i64 0), .nil 1] 8796093022208, [.t 39, .t 39], none, []⟩, ⟨some 10, .mv, [.t 40], none, []⟩]
  [0, 1, 2, 10]) (.seq (.seq (.region false [⟨some 41, .mv, [.t 10], none, []⟩, ⟨some 42, .len, [.t 41], none, []⟩, ⟨some 43, .mv, [.k (.d (.int .i64 0))], none, []⟩] [0, 1, 2, 10,
  42, 43]) (.block 0 (.loop [] (.seq (.region false [⟨some 44, .bin .lss, [.t 43, .t 42], none, []⟩] [0, 1, 2, 10, 42, 43, 44]) (.seq (.cond (.t 44) .skip (.exit 0)) (.seq (.block
  1 (.seq (.region false [⟨some 45, .mv, [.t 43], none, []⟩, ⟨some 11, .mv, [.t 45], none, []⟩] [0, 1, 2, 10, 11, 42, 43]) (.seq (.region false [⟨some 46, .mv, [.t 11], none, []⟩,
  ⟨some 47, .bin .add, [.t 46, .k (.d (.int .i64 1))], none, []⟩, ⟨some 48, .cvt .u8, [.t 47], none, []⟩, ⟨some 12, .mv, [.t 48], none, []⟩] [0, 1, 2, 10, 11, 12, 42, 43]) (.seq
  (.region false [⟨some 49, .mv, [.t 0], none, []⟩, ⟨some 50, .len, [.t 49], none, []⟩, ⟨some 51, .mks 1 false [.d (.int .u8 0)] 281474976710656, [.t 50, .t 50], none, []⟩, ⟨some
  13, .mv, [.t 51], none, []⟩] [0, 1, 2, 10, 11, 12, 13, 42, 43]) (.seq (.seq (.region false [⟨some 52, .mv, [.t 13], none, []⟩, ⟨some 53, .len, [.t 52], none, []⟩, ⟨some 54, .mv,
  [.k (.d (.int .i64 0))], none, []⟩] [0, 1, 2, 10, 11, 12, 13, 42, 43, 53, 54]) (.block 2 (.loop [] (.seq (.region false [⟨some 55, .bin .lss, [.t 54, .t 53], none, []⟩] [0, 1, 2,
  10, 11, 12, 13, 42, 43, 53, 54, 55]) (.seq (.cond (.t 55) .skip (.exit 2)) (.seq (.block 3 (.seq (.region false [⟨some 56, .mv, [.t 54], none, []⟩, ⟨some 14, .mv, [.t 56], none,
  []⟩] [0, 1, 2, 10, 11, 12, 13, 14, 42, 43, 53, 54]) (.seq (.region false [⟨some 15, .mv, [.k (.d (.int .u8 0))], none, []⟩] [0, 1, 2, 10, 11, 12, 13, 14, 15, 42, 43, 53, 54])
  (.seq (.seq (.region false [⟨some 57, .mv, [.t 2], none, []⟩, ⟨some 58, .bin .sub, [.t 57, .k (.d (.int .i64 1))], none, []⟩, ⟨some 16, .mv, [.t 58], none, []⟩] [0, 1, 2, 10, 11,
  12, 13, 14, 15, 16, 42, 43, 53, 54]) (.block 4 (.loop [] (.seq (.seq (.region false [⟨some 59, .mv, [.t 16], none, []⟩, ⟨some 60, .bin .gtr, [.t 59, .k (.d (.int .i64 0))], none,
  []⟩] [0, 1, 2, 10, 11, 12, 13, 14, 15, 16, 42, 43, 53, 54, 60]) (.cond (.t 60) .skip (.exit 4))) (.seq (.block 5 (.region false [⟨some 63, .mv, [.t 15], none, []⟩, ⟨some 64, .mv,
  [.t 1], none, []⟩, ⟨some 65, .mv, [.t 16], none, []⟩, ⟨some 66, .bin .sub, [.t 65, .k (.d (.int .i64 1))], none, []⟩, ⟨some 67, .mv, [.t 0], none, []⟩, ⟨some 68, .len, [.t 67],
  none, []⟩, ⟨some 69, .bin .mul, [.t 66, .t 68], none, []⟩, ⟨some 70, .mv, [.t 14], none, []⟩, ⟨some 71, .bin .add, [.t 69, .t 70], none, []⟩, ⟨some 72, .ia 1, [.t 64, .t 71],
  none, []⟩, ⟨some 73, .load 1 false, [.t 72], none, []⟩, ⟨some 74, .bin .xor, [.t 63, .t 73], none, []⟩, ⟨some 75, .mv, [.t 12], none, []⟩, ⟨some 76, .call 9 false, [.t 74, .t
  75], none, []⟩, ⟨some 15, .mv, [.t 76], none, []⟩] [0, 1, 2, 10, 11, 12, 13, 14, 15, 16, 42, 43, 53, 54])) (.region false [⟨some 61, .mv, [.t 16], none, []⟩, ⟨some 62, .bin .sub,
  [.t 61, .k (.d (.int .i64 1))], none, []⟩, ⟨some 16, .mv, [.t 62], none, []⟩] [0, 1, 2, 10, 11, 12, 13, 14, 15, 16, 42, 43, 53, 54])))))) (.region false [⟨some 77, .mv, [.t 13],
  none, []⟩, ⟨some 78, .mv, [.t 14], none, []⟩, ⟨some 79, .mv, [.t 15], none, []⟩, ⟨some 80, .mv, [.t 0], none, []⟩, ⟨some 81, .mv, [.t 14], none, []⟩, ⟨some 82, .ia 1, [.t 80, .t
  81], none, []⟩, ⟨some 83, .load 1 false, [.t 82], none, []⟩, ⟨some 84, .bin .xor, [.t 79, .t 83], none, []⟩, ⟨some 85, .ia 1, [.t 77, .t 78], none, []⟩, ⟨none, .store 1, [.t 85,
  .t 84], none, []⟩] [0, 1, 2, 10, 11, 12, 13, 42, 43, 53, 54]))))) (.region false [⟨some 86, .bin .add, [.t 54, .k (.d (.int .i64 1))], none, []⟩, ⟨some 54, .mv, [.t 86], none,
  []⟩] [0, 1, 2, 10, 11, 12, 13, 42, 43, 53, 54]))))))) (.region false [⟨some 87, .mv, [.t 10], none, []⟩, ⟨some 88, .mv, [.t 11], none, []⟩, ⟨some 89, .mv, [.t 11], none, []⟩,
  ⟨some 90, .bin .add, [.t 89, .k (.d (.int .i64 1))], none, []⟩, ⟨some 91, .mv, [.t 13], none, []⟩, ⟨some 92, .build [.d (.int .i64 0), .nil 1] [(0, 1), (1, 1)], [.t 90, .t 91],
  none, []⟩, ⟨some 93, .ia 2, [.t 87, .t 88], none, []⟩, ⟨none, .store 2, [.t 93, .t 92], none, []⟩] [0, 1, 2, 10, 42, 43])))))) (.region false [⟨some 94, .bin .add, [.t 43, .k (.d
  (.int .i64 1))], none, []⟩, ⟨some 43, .mv, [.t 94], none, []⟩] [0, 1, 2, 10, 42, 43]))))))) (.seq (.region false [⟨some 95, .mv, [.t 10], none, []⟩, ⟨some 8, .mv, [.t 95], none,
  []⟩, ⟨some 9, .mv, [.k (.d (.int .i64 0))], none, []⟩] [8, 9]) .ret))))))
def sharingSplitRr : List RR := [.t 8, .t 9]
theorem sharingSplitC : compFn Try.prog 16 sharingSplitH = some (sharingSplitRc, sharingSplitRr, 96) := by kernel_rfl
theorem sharingSplitOK (a0 : List (BitVec 8)) (a1 : List (BitVec 8)) (a2 : Int) (a3 : Int) (res : (List (TApiShare)) × Int) (h : sharingSplit a0 a1 a2 a3 = some res) : CallOK Try.prog 16 [.d ((eL 1 eU8) a0), .d ((eL 1 eU8) a1), .d (eI a2), .d (eI a3)] [] (.tup [.ref 0 res.1.length 0 res.1.length, .d (eI res.2)]) [(0, .row true 2 (res.1.map eTApiShare))] := by
  unfold sharingSplit at h
  refine callOK sharingSplitC fm rfl ?_
  simp only [initE, initM, nbor, List.map_cons, List.map_nil, Nat.reduceAdd]
  unfold sharingSplitRc
  refine rwp_seq fun K1 hK1 => ?_
  refine rwp_region fun K2 hK2 => ?_
  refine st0 128 rfl (ok (mv (.nil 2))) ?_
  refine st0 192 rfl (ok (mv (.d (eI (0 : Int))))) ?_
  refine hK2 _ _ ?_
  simp only [thenK, blockK, keepE, updM, List.filter_cons, List.filter_nil, List.nil_append, List.cons_append, List.map_cons, List.map_nil, envE, Mem.get, Nat.reduceEqDiff, reduceIte, Option.isNone_none, Option.isNone_some, Bool.false_eq_true, List.length_cons, List.length_nil, Nat.reduceAdd, Nat.reduceMul]
  refine hK1 _ _ _ ?_
  refine rwp_seq fun K3 hK3 => ?_
  refine rwp_seq fun K4 hK4 => ?_
  refine rwp_region fun K5 hK5 => ?_
  refine st0 256 rfl (ok (mv (.d ((eL 1 eU8) a0)))) ?_
  refine st0 320 rfl (ok (lenL _ _)) ?_
  refine st0 384 rfl (ok (gtrI _ (64 : Int))) ?_
  refine hK5 _ _ ?_
  simp only [thenK, blockK, keepE, updM, List.filter_cons, List.filter_nil, List.nil_append, List.cons_append, List.map_cons, List.map_nil, envE, Mem.get, Nat.reduceEqDiff, reduceIte, Option.isNone_none, Option.isNone_some, Bool.false_eq_true, List.length_cons, List.length_nil, Nat.reduceAdd, Nat.reduceMul]
  refine hK4 _ _ _ ?_
  rcases Bool.eq_false_or_eq_true ((decide ((64 : Int) < (a0.length : Int)))) with h6 | h6
  · replace h := ite_t h h6
    refine rwp_t (isT h6) ?_
    refine rwp_seq fun K7 hK7 => ?_
    refine rwp_region fun K8 hK8 => ?_
    refine st0 448 rfl (ok (mv (.nil 2))) ?_
    refine st0 512 rfl (ok (mv (.d (eI (8 : Int))))) ?_
    refine hK8 _ _ ?_
    simp only [thenK, blockK, keepE, updM, List.filter_cons, List.filter_nil, List.nil_append, List.cons_append, List.map_cons, List.map_nil, envE, Mem.get, Nat.reduceEqDiff, reduceIte, Option.isNone_none, Option.isNone_some, Bool.false_eq_true, List.length_cons, List.length_nil, Nat.reduceAdd, Nat.reduceMul]
    refine hK7 _ _ _ ?_
    refine rwp_ret ?_
    obtain rfl := Option.some.inj h
    try simp only [thenK, blockK, reduceIte]
    exact Or.inl (end_ok trivial (rs_t (v := .nil 2) rfl (rs_t (v := .d (eI (8 : Int))) rfl rs_nil)) (en_nilr (en_d (to_d _) en_nil)) ou_nil (by first | exact eok rfl rfl rfl rfl (And.intro (And.intro rfl rfl) trivial) | (refine eok ?_ ?_ ?_ ?_ ?_ <;> first | rfl | exact (And.intro (And.intro rfl rfl) trivial) | simp [retM, Mem.get, PV.renL, PV.ren, Blk.ren, comps, rhoR, rhoM, appN, PV.refsL, PV.refs, keys, nodupB, Blk.refs, allIn, Blk.bor])))
  · replace h := ite_f h h6
    refine rwp_f (isF h6) ?_
    refine rwp_skip ?_
    refine hK3 _ _ _ ?_
    refine rwp_seq fun K9 hK9 => ?_
    refine rwp_join ([], []) 1152 (fun env mem => ∃ (v10 : Bool), sharingSplitJ1 a0 a1 a2 a3 v10 = some res ∧ env = [(0, .d ((eL 1 eU8) a0)), (1, .d ((eL 1 eU8) a1)), (2, .d (eI a2)), (3, .d (eI a3)), (30, .d (eB v10))] ∧ mem = []) (fun _ _ hI => ?_) (fun K11 hK11 => ?_)
    · obtain ⟨v10, h, rfl, rfl⟩ := hI
      unfold sharingSplitJ1 at h
      rcases Bool.eq_false_or_eq_true (v10) with h12 | h12
      · replace h := ite_t h h12
        refine rwp_t (isT h12) ?_
        refine rwp_seq fun K13 hK13 => ?_
        refine rwp_region fun K14 hK14 => ?_
        refine st0 1216 rfl (ok (mv (.nil 2))) ?_
        refine st0 1280 rfl (ok (mv (.d (eI (9 : Int))))) ?_
        refine hK14 _ _ ?_
        simp only [thenK, blockK, keepE, updM, List.filter_cons, List.filter_nil, List.nil_append, List.cons_append, List.map_cons, List.map_nil, envE, Mem.get, Nat.reduceEqDiff, reduceIte, Option.isNone_none, Option.isNone_some, Bool.false_eq_true, List.length_cons, List.length_nil, Nat.reduceAdd, Nat.reduceMul]
        refine hK13 _ _ _ ?_
        refine rwp_ret ?_
        obtain rfl := Option.some.inj h
        try simp only [thenK, blockK, reduceIte]
        exact Or.inl (end_ok trivial (rs_t (v := .nil 2) rfl (rs_t (v := .d (eI (9 : Int))) rfl rs_nil)) (en_nilr (en_d (to_d _) en_nil)) ou_nil (by first | exact eok rfl rfl rfl rfl (And.intro (And.intro rfl rfl) trivial) | (refine eok ?_ ?_ ?_ ?_ ?_ <;> first | rfl | exact (And.intro (And.intro rfl rfl) trivial) | simp [retM, Mem.get, PV.renL, PV.ren, Blk.ren, comps, rhoR, rhoM, appN, PV.refsL, PV.refs, keys, nodupB, Blk.refs, allIn, Blk.bor])))
      · replace h := ite_f h h12
        refine rwp_f (isF h12) ?_
        refine rwp_skip ?_
        refine hK9 _ _ _ ?_
        refine rwp_seq fun K15 hK15 => ?_
        refine rwp_seq fun K16 hK16 => ?_
        refine rwp_region fun K17 hK17 => ?_
        refine st0 1216 rfl (ok (mv (.d ((eL 1 eU8) a1)))) ?_
        refine st0 1280 rfl (ok (lenL _ _)) ?_
        refine st0 1344 rfl (ok (mv (.d (eI a2)))) ?_
        refine st0 1408 rfl (ok (subI _ (1 : Int))) ?_
        refine st0 1472 rfl (ok (mv (.d ((eL 1 eU8) a0)))) ?_
        refine st0 1536 rfl (ok (lenL _ _)) ?_
        refine st0 1600 rfl (ok (mulI _ _)) ?_
        refine st0 1664 rfl (ok (lssI _ _)) ?_
        refine hK17 _ _ ?_
        simp only [thenK, blockK, keepE, updM, List.filter_cons, List.filter_nil, List.nil_append, List.cons_append, List.map_cons, List.map_nil, envE, Mem.get, Nat.reduceEqDiff, reduceIte, Option.isNone_none, Option.isNone_some, Bool.false_eq_true, List.length_cons, List.length_nil, Nat.reduceAdd, Nat.reduceMul]
        refine hK16 _ _ _ ?_
        rcases Bool.eq_false_or_eq_true ((decide ((a1.length : Int) < (w64 ((w64 (a2 - (1 : Int))) * (a0.length : Int)))))) with h18 | h18
        · replace h := ite_t h h18
          refine rwp_t (isT h18) ?_
          refine rwp_seq fun K19 hK19 => ?_
          refine rwp_region fun K20 hK20 => ?_
          refine st0 1728 rfl (ok (mv (.nil 2))) ?_
          refine st0 1792 rfl (ok (mv (.d (eI (1 : Int))))) ?_
          refine hK20 _ _ ?_
          simp only [thenK, blockK, keepE, updM, List.filter_cons, List.filter_nil, List.nil_append, List.cons_append, List.map_cons, List.map_nil, envE, Mem.get, Nat.reduceEqDiff, reduceIte, Option.isNone_none, Option.isNone_some, Bool.false_eq_true, List.length_cons, List.length_nil, Nat.reduceAdd, Nat.reduceMul]
          refine hK19 _ _ _ ?_
          refine rwp_ret ?_
          obtain rfl := Option.some.inj h
          try simp only [thenK, blockK, reduceIte]
          exact Or.inl (end_ok trivial (rs_t (v := .nil 2) rfl (rs_t (v := .d (eI (1 : Int))) rfl rs_nil)) (en_nilr (en_d (to_d _) en_nil)) ou_nil (by first | exact eok rfl rfl rfl rfl (And.intro (And.intro rfl rfl) trivial) | (refine eok ?_ ?_ ?_ ?_ ?_ <;> first | rfl | exact (And.intro (And.intro rfl rfl) trivial) | simp [retM, Mem.get, PV.renL, PV.ren, Blk.ren, comps, rhoR, rhoM, appN, PV.refsL, PV.refs, keys, nodupB, Blk.refs, allIn, Blk.bor])))
        · replace h := ite_f h h18
          refine rwp_f (isF h18) ?_
          refine rwp_skip ?_
          refine hK15 _ _ _ ?_
          refine rwp_seq fun K21 hK21 => ?_
          refine rwp_region fun K22 hK22 => ?_
          refine st0 1728 rfl (ok (mv (.d (eI a3)))) ?_
          obtain ⟨h23, h⟩ := asq_inv h
          refine st1 1792 rfl (mem' := [(1728, .row true 2 ((List.replicate a3.toNat (TApiShare.mk (0 : Int) ([] : List (BitVec 8)))).map eTApiShare))]) (ok (mks1 (e := eTApiShare) (TApiShare.mk (0 : Int) ([] : List (BitVec 8))) rfl rfl h23)) rfl ?_
          refine st0 1856 rfl (ok (mv (.ref 1728 (((List.replicate a3.toNat (TApiShare.mk (0 : Int) ([] : List (BitVec 8))))).length) 0 (((List.replicate a3.toNat (TApiShare.mk (0 : Int) ([] : List (BitVec 8))))).length)))) ?_
          refine hK22 _ _ ?_
          simp only [thenK, blockK, keepE, updM, List.filter_cons, List.filter_nil, List.nil_append, List.cons_append, List.map_cons, List.map_nil, envE, Mem.get, Nat.reduceEqDiff, reduceIte, Option.isNone_none, Option.isNone_some, Bool.false_eq_true, List.length_cons, List.length_nil, Nat.reduceAdd, Nat.reduceMul]
          refine hK21 _ _ _ ?_
          refine rwp_join ([], []) 7040 (fun env mem => ∃ (v24 : List (TApiShare)), sharingSplitJ2 v24 = some res ∧ env = [(10, .ref 1728 v24.length 0 v24.length)] ∧ mem = [(1728, .row true 2 (v24.map eTApiShare))]) (fun _ _ hI => ?_) (fun K25 hK25 => ?_)
          · obtain ⟨v24, h, rfl, rfl⟩ := hI
            unfold sharingSplitJ2 at h
            refine rwp_seq fun K26 hK26 => ?_
            refine rwp_region fun K27 hK27 => ?_
            refine st0 7104 rfl (ok (mv (.ref 1728 v24.length 0 v24.length))) ?_
            refine st0 7168 rfl (ok (mv (.ref 1728 v24.length 0 v24.length))) ?_
            refine st0 7232 rfl (ok (mv (.d (eI (0 : Int))))) ?_
            refine hK27 _ _ ?_
            simp only [thenK, blockK, keepE, updM, List.filter_cons, List.filter_nil, List.nil_append, List.cons_append, List.map_cons, List.map_nil, envE, Mem.get, Nat.reduceEqDiff, reduceIte, Option.isNone_none, Option.isNone_some, Bool.false_eq_true, List.length_cons, List.length_nil, Nat.reduceAdd, Nat.reduceMul]
            refine hK26 _ _ _ ?_
            refine rwp_ret ?_
            obtain rfl := Option.some.inj h
            try simp only [thenK, blockK, reduceIte]
            exact Or.inl (end_ok trivial (rs_t (v := .ref 1728 v24.length 0 v24.length) rfl (rs_t (v := .d (eI (0 : Int))) rfl rs_nil)) (en_ref (en_d (to_d _) en_nil)) ou_nil (by first | exact eok rfl rfl rfl rfl (And.intro (And.intro rfl rfl) trivial) | (refine eok ?_ ?_ ?_ ?_ ?_ <;> first | rfl | exact (And.intro (And.intro rfl rfl) trivial) | simp [retM, Mem.get, PV.renL, PV.ren, Blk.ren, comps, rhoR, rhoM, appN, PV.refsL, PV.refs, keys, nodupB, Blk.refs, allIn, Blk.bor])))
          · refine rwp_seq fun K28 hK28 => ?_
            refine rwp_region fun K29 hK29 => ?_
            refine st0 1920 rfl (ok (mv (.ref 1728 (((List.replicate a3.toNat (TApiShare.mk (0 : Int) ([] : List (BitVec 8))))).length) 0 (((List.replicate a3.toNat (TApiShare.mk (0 : Int) ([] : List (BitVec 8))))).length)))) ?_
            refine st0 1984 rfl (ok (lenR _ _ _ _)) ?_
            refine st0 2048 rfl (ok (mv (.d (eI (0 : Int))))) ?_
            refine hK29 _ _ ?_
            simp only [thenK, blockK, keepE, updM, List.filter_cons, List.filter_nil, List.nil_append, List.cons_append, List.map_cons, List.map_nil, envE, Mem.get, Nat.reduceEqDiff, reduceIte, Option.isNone_none, Option.isNone_some, Bool.false_eq_true, List.length_cons, List.length_nil, Nat.reduceAdd, Nat.reduceMul]
            refine hK28 _ _ _ ?_
            refine rwp_block fun K30 hK30 => ?_
            refine rwp_loop ([], []) 6912 (fun k env mem => ∃ (v31 : List (TApiShare)) (v32 : Int), sharingSplitL3 a0 a1 a2 a3 k v31 v32 = some res ∧ env = [(0, .d ((eL 1 eU8) a0)), (1, .d ((eL 1 eU8) a1)), (2, .d (eI a2)), (10, .ref 1728 v31.length 0 v31.length), (42, .d (eI (((List.replicate a3.toNat (TApiShare.mk (0 : Int) ([] : List (BitVec 8))))).length : Int))), (43, .d (eI v32))] ∧ mem = [(1728, .row true 2 (v31.map eTApiShare))]) FUEL ⟨_, _, Settled.refl, _, _, ⟨_, _, h, rfl, rfl⟩, ⟨rfl, ⟨⟨rfl, rfl⟩, ⟨⟨rfl, rfl⟩, ⟨⟨rfl, rfl⟩, ⟨⟨rfl, rfl⟩, ⟨⟨rfl, rfl⟩, ⟨⟨rfl, rfl⟩, trivial⟩⟩⟩⟩⟩⟩, ⟨⟨rfl, rfl⟩, trivial⟩⟩, rfl⟩ (fun k3 env1 mem1 hI K33 hK33 => ?_)
            obtain ⟨v31, v32, h, rfl, rfl⟩ := hI
            cases k3 with
            | zero => simp [sharingSplitL3] at h
            | succ k3 =>
              rw [sharingSplitL3] at h
              refine rwp_seq fun K34 hK34 => ?_
              refine rwp_region fun K35 hK35 => ?_
              refine st0 6976 rfl (ok (lssI _ _)) ?_
              refine hK35 _ _ ?_
              simp only [thenK, blockK, keepE, updM, List.filter_cons, List.filter_nil, List.nil_append, List.cons_append, List.map_cons, List.map_nil, envE, Mem.get, Nat.reduceEqDiff, reduceIte, Option.isNone_none, Option.isNone_some, Bool.false_eq_true, List.length_cons, List.length_nil, Nat.reduceAdd, Nat.reduceMul]
              refine hK34 _ _ _ ?_
              refine rwp_seq fun K36 hK36 => ?_
              rcases Bool.eq_false_or_eq_true ((decide (v32 < (((List.replicate a3.toNat (TApiShare.mk (0 : Int) ([] : List (BitVec 8))))).length : Int)))) with h37 | h37
              · replace h := ite_t h h37
                refine rwp_t (isT h37) ?_
                refine rwp_skip ?_
                refine hK36 _ _ _ ?_
                refine rwp_join ([], []) 11520 (fun env mem => ∃ (v38 : List (TApiShare)), sharingSplitJ4 (sharingSplitL3 a0 a1 a2 a3 k3) v32 v38 = some res ∧ env = [(0, .d ((eL 1 eU8) a0)), (1, .d ((eL 1 eU8) a1)), (2, .d (eI a2)), (10, .ref 1728 v38.length 0 v38.length), (42, .d (eI (((List.replicate a3.toNat (TApiShare.mk (0 : Int) ([] : List (BitVec 8))))).length : Int))), (43, .d (eI v32))] ∧ mem = [(1728, .row true 2 (v38.map eTApiShare))]) (fun _ _ hI => ?_) (fun K39 hK39 => ?_)
                · obtain ⟨v38, h, rfl, rfl⟩ := hI
                  unfold sharingSplitJ4 at h
                  refine rwp_region fun K40 hK40 => ?_
                  refine st0 11584 rfl (ok (addI _ (1 : Int))) ?_
                  refine st0 11648 rfl (ok (mv (.d (eI (w64 (v32 + (1 : Int))))))) ?_
                  refine hK40 _ _ ?_
                  simp only [thenK, blockK, keepE, updM, List.filter_cons, List.filter_nil, List.nil_append, List.cons_append, List.map_cons, List.map_nil, envE, Mem.get, Nat.reduceEqDiff, reduceIte, Option.isNone_none, Option.isNone_some, Bool.false_eq_true, List.length_cons, List.length_nil, Nat.reduceAdd, Nat.reduceMul]
                  exact hK33.out _ _ _ k3 (Nat.lt_succ_self k3) ⟨_, _, Settled.refl, _, _, ⟨_, _, h, rfl, rfl⟩, ⟨rfl, ⟨⟨rfl, rfl⟩, ⟨⟨rfl, rfl⟩, ⟨⟨rfl, rfl⟩, ⟨⟨rfl, rfl⟩, ⟨⟨rfl, rfl⟩, ⟨⟨rfl, rfl⟩, trivial⟩⟩⟩⟩⟩⟩, ⟨⟨rfl, rfl⟩, trivial⟩⟩, rfl⟩
                · refine rwp_block fun K41 hK41 => ?_
                  refine rwp_seq fun K42 hK42 => ?_
                  refine rwp_region fun K43 hK43 => ?_
                  refine st0 7040 rfl (ok (mv (.d (eI v32)))) ?_
                  refine st0 7104 rfl (ok (mv (.d (eI v32)))) ?_
                  refine hK43 _ _ ?_
                  simp only [thenK, blockK, keepE, updM, List.filter_cons, List.filter_nil, List.nil_append, List.cons_append, List.map_cons, List.map_nil, envE, Mem.get, Nat.reduceEqDiff, reduceIte, Option.isNone_none, Option.isNone_some, Bool.false_eq_true, List.length_cons, List.length_nil, Nat.reduceAdd, Nat.reduceMul]
                  refine hK42 _ _ _ ?_
                  refine rwp_seq fun K44 hK44 => ?_
                  refine rwp_region fun K45 hK45 => ?_
                  refine st0 7168 rfl (ok (mv (.d (eI v32)))) ?_
                  refine st0 7232 rfl (ok (addI _ (1 : Int))) ?_
                  refine st0 7296 rfl (ok (ofI8 _ (w64 (v32 + (1 : Int))))) ?_
                  refine st0 7360 rfl (ok (mv (.d (eU8 (BitVec.ofInt 8 (w64 (v32 + (1 : Int)))))))) ?_
                  refine hK45 _ _ ?_
                  simp only [thenK, blockK, keepE, updM, List.filter_cons, List.filter_nil, List.nil_append, List.cons_append, List.map_cons, List.map_nil, envE, Mem.get, Nat.reduceEqDiff, reduceIte, Option.isNone_none, Option.isNone_some, Bool.false_eq_true, List.length_cons, List.length_nil, Nat.reduceAdd, Nat.reduceMul]
                  refine hK44 _ _ _ ?_
                  refine rwp_seq fun K46 hK46 => ?_
                  refine rwp_region fun K47 hK47 => ?_
                  refine st0 7424 rfl (ok (mv (.d ((eL 1 eU8) a0)))) ?_
                  refine st0 7488 rfl (ok (lenL _ _)) ?_
                  obtain ⟨h48, h⟩ := asq_inv h
                  refine st1 7552 rfl (mem' := [(7488, .row true 1 ((List.replicate (a0.length : Int).toNat 0#8).map eU8)), (1728, .row true 2 (v31.map eTApiShare))]) (ok (mks1 (e := eU8) 0#8 rfl rfl h48)) rfl ?_
                  refine st0 7616 rfl (ok (mv (.ref 7488 (((List.replicate (a0.length : Int).toNat 0#8)).length) 0 (((List.replicate (a0.length : Int).toNat 0#8)).length)))) ?_
                  refine hK47 _ _ ?_
                  simp only [thenK, blockK, keepE, updM, List.filter_cons, List.filter_nil, List.nil_append, List.cons_append, List.map_cons, List.map_nil, envE, Mem.get, Nat.reduceEqDiff, reduceIte, Option.isNone_none, Option.isNone_some, Bool.false_eq_true, List.length_cons, List.length_nil, Nat.reduceAdd, Nat.reduceMul]
                  refine hK46 _ _ _ ?_
                  refine rwp_join ([], []) 10944 (fun env mem => ∃ (v49 : List (BitVec 8)), sharingSplitJ5 (sharingSplitL3 a0 a1 a2 a3 k3) v31 v32 v49 = some res ∧ env = [(0, .d ((eL 1 eU8) a0)), (1, .d ((eL 1 eU8) a1)), (2, .d (eI a2)), (10, .ref 1728 v31.length 0 v31.length), (11, .d (eI v32)), (13, .ref 7488 v49.length 0 v49.length), (42, .d (eI (((List.replicate a3.toNat (TApiShare.mk (0 : Int) ([] : List (BitVec 8))))).length : Int))), (43, .d (eI v32))] ∧ mem = [(1728, .row true 2 (v31.map eTApiShare)), (7488, .row true 1 (v49.map eU8))]) (fun _ _ hI => ?_) (fun K50 hK50 => ?_)
                  · obtain ⟨v49, h, rfl, rfl⟩ := hI
                    unfold sharingSplitJ5 at h
                    refine rwp_region fun K51 hK51 => ?_
                    refine st0 11008 rfl (ok (mv (.ref 1728 v31.length 0 v31.length))) ?_
                    refine st0 11072 rfl (ok (mv (.d (eI v32)))) ?_
                    refine st0 11136 rfl (ok (mv (.d (eI v32)))) ?_
                    refine st0 11200 rfl (ok (addI _ (1 : Int))) ?_
                    refine st0 11264 rfl (ok (mv (.ref 7488 v49.length 0 v49.length))) ?_
                    refine st0 11328 rfl (ok (bld (v := .agg [.d (eI (w64 (v32 + (1 : Int)))), .ref 7488 v49.length 0 v49.length]) rfl rfl)) ?_
                    obtain ⟨h52, h⟩ := asq_inv h
                    refine st0 11392 rfl (ok (iaR (xs := v31) (e := eTApiShare) rfl rfl h52)) ?_
                    refine stn 11456 rfl (mem' := [(1728, .row true 2 ((v31.set (0 + v32.toNat) (TApiShare.mk (w64 (v32 + (1 : Int))) v49)).map eTApiShare)), (7488, .row false 1 (v49.map eU8))]) (ok (sto_rf (e := eTApiShare) (xs := v31) (y := (TApiShare.mk (w64 (v32 + (1 : Int))) v49)) rfl rfl (to_agg (ds_d _ (ds_r (ys := v49) rfl rfl rfl ds_nil)) (x := eTApiShare (TApiShare.mk (w64 (v32 + (1 : Int))) v49)) rfl) rfl rfl)) rfl ?_
                    refine hK51 _ _ ?_
                    simp only [thenK, blockK, keepE, updM, List.filter_cons, List.filter_nil, List.nil_append, List.cons_append, List.map_cons, List.map_nil, envE, Mem.get, Nat.reduceEqDiff, reduceIte, Option.isNone_none, Option.isNone_some, Bool.false_eq_true, List.length_cons, List.length_nil, Nat.reduceAdd, Nat.reduceMul]
                    refine hK41 _ _ _ ?_
                    exact hK39 _ _ _ ⟨_, _, Settled.refl, _, _, ⟨_, h, rfl, rfl⟩, (by refine ⟨rfl, ⟨⟨?_, rfl⟩, ⟨⟨?_, rfl⟩, ⟨⟨?_, rfl⟩, ⟨⟨?_, rfl⟩, ⟨⟨?_, rfl⟩, ⟨⟨?_, rfl⟩, trivial⟩⟩⟩⟩⟩⟩, ⟨⟨?_, rfl⟩, trivial⟩⟩ <;> first | rfl | (exact refEq rfl (by simp) rfl (by simp)) | simp [envE, Mem.get, liftE, liftV, rhoOf, rhoE, rhoM, appN, PV.refs, PV.refsL, Blk.refs, PV.ren, PV.renL, Blk.ren]), rfl⟩
                  · refine rwp_seq fun K53 hK53 => ?_
                    refine rwp_region fun K54 hK54 => ?_
                    refine st0 7680 rfl (ok (mv (.ref 7488 (((List.replicate (a0.length : Int).toNat 0#8)).length) 0 (((List.replicate (a0.length : Int).toNat 0#8)).length)))) ?_
                    refine st0 7744 rfl (ok (lenR _ _ _ _)) ?_
                    refine st0 7808 rfl (ok (mv (.d (eI (0 : Int))))) ?_
                    refine hK54 _ _ ?_
                    simp only [thenK, blockK, keepE, updM, List.filter_cons, List.filter_nil, List.nil_append, List.cons_append, List.map_cons, List.map_nil, envE, Mem.get, Nat.reduceEqDiff, reduceIte, Option.isNone_none, Option.isNone_some, Bool.false_eq_true, List.length_cons, List.length_nil, Nat.reduceAdd, Nat.reduceMul]
                    refine hK53 _ _ _ ?_
                    refine rwp_block fun K55 hK55 => ?_
                    refine rwp_loop ([], []) 10816 (fun k env mem => ∃ (v56 : List (BitVec 8)) (v57 : Int), sharingSplitL6 (sharingSplitL3 a0 a1 a2 a3 k3) a0 a1 a2 v31 v32 k v56 v57 = some res ∧ env = [(0, .d ((eL 1 eU8) a0)), (1, .d ((eL 1 eU8) a1)), (2, .d (eI a2)), (10, .ref 1728 v31.length 0 v31.length), (11, .d (eI v32)), (12, .d (eU8 (BitVec.ofInt 8 (w64 (v32 + (1 : Int)))))), (13, .ref 7488 v56.length 0 v56.length), (42, .d (eI (((List.replicate a3.toNat (TApiShare.mk (0 : Int) ([] : List (BitVec 8))))).length : Int))), (43, .d (eI v32)), (53, .d (eI (((List.replicate (a0.length : Int).toNat 0#8)).length : Int))), (54, .d (eI v57))] ∧ mem = [(1728, .row true 2 (v31.map eTApiShare)), (7488, .row true 1 (v56.map eU8))]) FUEL ⟨_, _, Settled.refl, _, _, ⟨_, _, h, rfl, rfl⟩, ⟨rfl, ⟨⟨rfl, rfl⟩, ⟨⟨rfl, rfl⟩, ⟨⟨rfl, rfl⟩, ⟨⟨rfl, rfl⟩, ⟨⟨rfl, rfl⟩, ⟨⟨rfl, rfl⟩, ⟨⟨rfl, rfl⟩, ⟨⟨rfl, rfl⟩, ⟨⟨rfl, rfl⟩, ⟨⟨rfl, rfl⟩, ⟨⟨rfl, rfl⟩, trivial⟩⟩⟩⟩⟩⟩⟩⟩⟩⟩⟩, ⟨⟨rfl, rfl⟩, ⟨⟨rfl, rfl⟩, trivial⟩⟩⟩, rfl⟩ (fun k6 env1 mem1 hI K58 hK58 => ?_)
                    obtain ⟨v56, v57, h, rfl, rfl⟩ := hI
                    cases k6 with
                    | zero => simp [sharingSplitL6] at h
                    | succ k6 =>
                      rw [sharingSplitL6] at h
                      refine rwp_seq fun K59 hK59 => ?_
                      refine rwp_region fun K60 hK60 => ?_
                      refine st0 10880 rfl (ok (lssI _ _)) ?_
                      refine hK60 _ _ ?_
                      simp only [thenK, blockK, keepE, updM, List.filter_cons, List.filter_nil, List.nil_append, List.cons_append, List.map_cons, List.map_nil, envE, Mem.get, Nat.reduceEqDiff, reduceIte, Option.isNone_none, Option.isNone_some, Bool.false_eq_true, List.length_cons, List.length_nil, Nat.reduceAdd, Nat.reduceMul]
                      refine hK59 _ _ _ ?_
                      refine rwp_seq fun K61 hK61 => ?_
                      rcases Bool.eq_false_or_eq_true ((decide (v57 < (((List.replicate (a0.length : Int).toNat 0#8)).length : Int)))) with h62 | h62
                      · replace h := ite_t h h62
                        refine rwp_t (isT h62) ?_
                        refine rwp_skip ?_
                        refine hK61 _ _ _ ?_
                        refine rwp_join ([], []) 13568 (fun env mem => ∃ (v63 : List (BitVec 8)), sharingSplitJ7 (sharingSplitL6 (sharingSplitL3 a0 a1 a2 a3 k3) a0 a1 a2 v31 v32 k6) v57 v63 = some res ∧ env = [(0, .d ((eL 1 eU8) a0)), (1, .d ((eL 1 eU8) a1)), (2, .d (eI a2)), (10, .ref 1728 v31.length 0 v31.length), (11, .d (eI v32)), (12, .d (eU8 (BitVec.ofInt 8 (w64 (v32 + (1 : Int)))))), (13, .ref 7488 v63.length 0 v63.length), (42, .d (eI (((List.replicate a3.toNat (TApiShare.mk (0 : Int) ([] : List (BitVec 8))))).length : Int))), (43, .d (eI v32)), (53, .d (eI (((List.replicate (a0.length : Int).toNat 0#8)).length : Int))), (54, .d (eI v57))] ∧ mem = [(1728, .row true 2 (v31.map eTApiShare)), (7488, .row true 1 (v63.map eU8))]) (fun _ _ hI => ?_) (fun K64 hK64 => ?_)
                        · obtain ⟨v63, h, rfl, rfl⟩ := hI
                          unfold sharingSplitJ7 at h
                          refine rwp_region fun K65 hK65 => ?_
                          refine st0 13632 rfl (ok (addI _ (1 : Int))) ?_
                          refine st0 13696 rfl (ok (mv (.d (eI (w64 (v57 + (1 : Int))))))) ?_
                          refine hK65 _ _ ?_
                          simp only [thenK, blockK, keepE, updM, List.filter_cons, List.filter_nil, List.nil_append, List.cons_append, List.map_cons, List.map_nil, envE, Mem.get, Nat.reduceEqDiff, reduceIte, Option.isNone_none, Option.isNone_some, Bool.false_eq_true, List.length_cons, List.length_nil, Nat.reduceAdd, Nat.reduceMul]
                          exact hK58.out _ _ _ k6 (Nat.lt_succ_self k6) ⟨_, _, Settled.refl, _, _, ⟨_, _, h, rfl, rfl⟩, ⟨rfl, ⟨⟨rfl, rfl⟩, ⟨⟨rfl, rfl⟩, ⟨⟨rfl, rfl⟩, ⟨⟨rfl, rfl⟩, ⟨⟨rfl, rfl⟩, ⟨⟨rfl, rfl⟩, ⟨⟨rfl, rfl⟩, ⟨⟨rfl, rfl⟩, ⟨⟨rfl, rfl⟩, ⟨⟨rfl, rfl⟩, ⟨⟨rfl, rfl⟩, trivial⟩⟩⟩⟩⟩⟩⟩⟩⟩⟩⟩, ⟨⟨rfl, rfl⟩, ⟨⟨rfl, rfl⟩, trivial⟩⟩⟩, rfl⟩
                        · refine rwp_block fun K66 hK66 => ?_
                          refine rwp_seq fun K67 hK67 => ?_
                          refine rwp_region fun K68 hK68 => ?_
                          refine st0 10944 rfl (ok (mv (.d (eI v57)))) ?_
                          refine st0 11008 rfl (ok (mv (.d (eI v57)))) ?_
                          refine hK68 _ _ ?_
                          simp only [thenK, blockK, keepE, updM, List.filter_cons, List.filter_nil, List.nil_append, List.cons_append, List.map_cons, List.map_nil, envE, Mem.get, Nat.reduceEqDiff, reduceIte, Option.isNone_none, Option.isNone_some, Bool.false_eq_true, List.length_cons, List.length_nil, Nat.reduceAdd, Nat.reduceMul]
                          refine hK67 _ _ _ ?_
                          refine rwp_seq fun K69 hK69 => ?_
                          refine rwp_region fun K70 hK70 => ?_
                          refine st0 11072 rfl (ok (mv (.d (eU8 (0#8))))) ?_
                          refine hK70 _ _ ?_
                          simp only [thenK, blockK, keepE, updM, List.filter_cons, List.filter_nil, List.nil_append, List.cons_append, List.map_cons, List.map_nil, envE, Mem.get, Nat.reduceEqDiff, reduceIte, Option.isNone_none, Option.isNone_some, Bool.false_eq_true, List.length_cons, List.length_nil, Nat.reduceAdd, Nat.reduceMul]
                          refine hK69 _ _ _ ?_
                          refine rwp_join ([], []) 12864 (fun env mem => ∃ (v71 : BitVec 8), sharingSplitJ8 (sharingSplitL6 (sharingSplitL3 a0 a1 a2 a3 k3) a0 a1 a2 v31 v32 k6) a0 v56 v57 v71 = some res ∧ env = [(0, .d ((eL 1 eU8) a0)), (1, .d ((eL 1 eU8) a1)), (2, .d (eI a2)), (10, .ref 1728 v31.length 0 v31.length), (11, .d (eI v32)), (12, .d (eU8 (BitVec.ofInt 8 (w64 (v32 + (1 : Int)))))), (13, .ref 7488 v56.length 0 v56.length), (14, .d (eI v57)), (15, .d (eU8 v71)), (42, .d (eI (((List.replicate a3.toNat (TApiShare.mk (0 : Int) ([] : List (BitVec 8))))).length : Int))), (43, .d (eI v32)), (53, .d (eI (((List.replicate (a0.length : Int).toNat 0#8)).length : Int))), (54, .d (eI v57))] ∧ mem = [(1728, .row true 2 (v31.map eTApiShare)), (7488, .row true 1 (v56.map eU8))]) (fun _ _ hI => ?_) (fun K72 hK72 => ?_)
                          · obtain ⟨v71, h, rfl, rfl⟩ := hI
                            unfold sharingSplitJ8 at h
                            refine rwp_region fun K73 hK73 => ?_
                            refine st0 12928 rfl (ok (mv (.ref 7488 v56.length 0 v56.length))) ?_
                            refine st0 12992 rfl (ok (mv (.d (eI v57)))) ?_
                            refine st0 13056 rfl (ok (mv (.d (eU8 v71)))) ?_
                            refine st0 13120 rfl (ok (mv (.d ((eL 1 eU8) a0)))) ?_
                            refine st0 13184 rfl (ok (mv (.d (eI v57)))) ?_
                            obtain ⟨h74, h⟩ := asq_inv h
                            refine st0 13248 rfl (ok (iaL (e := eU8) (xs := a0) 0#8 h74)) ?_
                            refine st0 13312 rfl (ok (ld_i (v := eU8 (a0.getD v57.toNat 0#8)) rfl rfl)) ?_
                            refine st0 13376 rfl (ok (xor8 _ _)) ?_
                            obtain ⟨h75, h⟩ := asq_inv h
                            refine st0 13440 rfl (ok (iaR (xs := v56) (e := eU8) rfl rfl h75)) ?_
                            refine stn 13504 rfl (mem' := [(7488, .row true 1 ((v56.set (0 + v57.toNat) (v71 ^^^ (a0.getD v57.toNat 0#8))).map eU8)), (1728, .row true 2 (v31.map eTApiShare))]) (ok (sto_r (e := eU8) (xs := v56) (y := (v71 ^^^ (a0.getD v57.toNat 0#8))) rfl rfl rfl)) rfl ?_
                            refine hK73 _ _ ?_
                            simp only [thenK, blockK, keepE, updM, List.filter_cons, List.filter_nil, List.nil_append, List.cons_append, List.map_cons, List.map_nil, envE, Mem.get, Nat.reduceEqDiff, reduceIte, Option.isNone_none, Option.isNone_some, Bool.false_eq_true, List.length_cons, List.length_nil, Nat.reduceAdd, Nat.reduceMul]
                            refine hK66 _ _ _ ?_
                            exact hK64 _ _ _ ⟨_, _, Settled.refl, _, _, ⟨_, h, rfl, rfl⟩, (by refine ⟨rfl, ⟨⟨?_, rfl⟩, ⟨⟨?_, rfl⟩, ⟨⟨?_, rfl⟩, ⟨⟨?_, rfl⟩, ⟨⟨?_, rfl⟩, ⟨⟨?_, rfl⟩, ⟨⟨?_, rfl⟩, ⟨⟨?_, rfl⟩, ⟨⟨?_, rfl⟩, ⟨⟨?_, rfl⟩, ⟨⟨?_, rfl⟩, trivial⟩⟩⟩⟩⟩⟩⟩⟩⟩⟩⟩, ⟨⟨?_, rfl⟩, ⟨⟨?_, rfl⟩, trivial⟩⟩⟩ <;> first | rfl | (exact refEq rfl (by simp) rfl (by simp)) | simp [envE, Mem.get, liftE, liftV, rhoOf, rhoE, rhoM, appN, PV.refs, PV.refsL, Blk.refs, PV.ren, PV.renL, Blk.ren]), rfl⟩
                          · refine rwp_seq fun K76 hK76 => ?_
                            refine rwp_region fun K77 hK77 => ?_
                            refine st0 11136 rfl (ok (mv (.d (eI a2)))) ?_
                            refine st0 11200 rfl (ok (subI _ (1 : Int))) ?_
                            refine st0 11264 rfl (ok (mv (.d (eI (w64 (a2 - (1 : Int))))))) ?_
                            refine hK77 _ _ ?_
                            simp only [thenK, blockK, keepE, updM, List.filter_cons, List.filter_nil, List.nil_append, List.cons_append, List.map_cons, List.map_nil, envE, Mem.get, Nat.reduceEqDiff, reduceIte, Option.isNone_none, Option.isNone_some, Bool.false_eq_true, List.length_cons, List.length_nil, Nat.reduceAdd, Nat.reduceMul]
                            refine hK76 _ _ _ ?_
                            refine rwp_block fun K78 hK78 => ?_
                            refine rwp_loop ([], []) 12672 (fun k env mem => ∃ (v79 : BitVec 8) (v80 : Int), sharingSplitL9 (sharingSplitL6 (sharingSplitL3 a0 a1 a2 a3 k3) a0 a1 a2 v31 v32 k6) a0 a1 v32 v56 v57 k v79 v80 = some res ∧ env = [(0, .d ((eL 1 eU8) a0)), (1, .d ((eL 1 eU8) a1)), (2, .d (eI a2)), (10, .ref 1728 v31.length 0 v31.length), (11, .d (eI v32)), (12, .d (eU8 (BitVec.ofInt 8 (w64 (v32 + (1 : Int)))))), (13, .ref 7488 v56.length 0 v56.length), (14, .d (eI v57)), (15, .d (eU8 v79)), (16, .d (eI v80)), (42, .d (eI (((List.replicate a3.toNat (TApiShare.mk (0 : Int) ([] : List (BitVec 8))))).length : Int))), (43, .d (eI v32)), (53, .d (eI (((List.replicate (a0.length : Int).toNat 0#8)).length : Int))), (54, .d (eI v57))] ∧ mem = [(1728, .row true 2 (v31.map eTApiShare)), (7488, .row true 1 (v56.map eU8))]) FUEL ⟨_, _, Settled.refl, _, _, ⟨_, _, h, rfl, rfl⟩, ⟨rfl, ⟨⟨rfl, rfl⟩, ⟨⟨rfl, rfl⟩, ⟨⟨rfl, rfl⟩, ⟨⟨rfl, rfl⟩, ⟨⟨rfl, rfl⟩, ⟨⟨rfl, rfl⟩, ⟨⟨rfl, rfl⟩, ⟨⟨rfl, rfl⟩, ⟨⟨rfl, rfl⟩, ⟨⟨rfl, rfl⟩, ⟨⟨rfl, rfl⟩, ⟨⟨rfl, rfl⟩, ⟨⟨rfl, rfl⟩, ⟨⟨rfl, rfl⟩, trivial⟩⟩⟩⟩⟩⟩⟩⟩⟩⟩⟩⟩⟩⟩, ⟨⟨rfl, rfl⟩, ⟨⟨rfl, rfl⟩, trivial⟩⟩⟩, rfl⟩ (fun k9 env1 mem1 hI K81 hK81 => ?_)
                            obtain ⟨v79, v80, h, rfl, rfl⟩ := hI
                            cases k9 with
                            | zero => simp [sharingSplitL9] at h
                            | succ k9 =>
                              rw [sharingSplitL9] at h
                              refine rwp_seq fun K82 hK82 => ?_
                              refine rwp_seq fun K83 hK83 => ?_
                              refine rwp_region fun K84 hK84 => ?_
                              refine st0 12736 rfl (ok (mv (.d (eI v80)))) ?_
                              refine st0 12800 rfl (ok (gtrI _ (0 : Int))) ?_
                              refine hK84 _ _ ?_
                              simp only [thenK, blockK, keepE, updM, List.filter_cons, List.filter_nil, List.nil_append, List.cons_append, List.map_cons, List.map_nil, envE, Mem.get, Nat.reduceEqDiff, reduceIte, Option.isNone_none, Option.isNone_some, Bool.false_eq_true, List.length_cons, List.length_nil, Nat.reduceAdd, Nat.reduceMul]
                              refine hK83 _ _ _ ?_
                              rcases Bool.eq_false_or_eq_true ((decide ((0 : Int) < v80))) with h85 | h85
                              · replace h := ite_t h h85
                                refine rwp_t (isT h85) ?_
                                refine rwp_skip ?_
                                refine hK82 _ _ _ ?_
                                refine rwp_seq fun K86 hK86 => ?_
                                refine rwp_block fun K87 hK87 => ?_
                                refine rwp_region fun K88 hK88 => ?_
                                refine st0 12864 rfl (ok (mv (.d (eU8 v79)))) ?_
                                refine st0 12928 rfl (ok (mv (.d ((eL 1 eU8) a1)))) ?_
                                refine st0 12992 rfl (ok (mv (.d (eI v80)))) ?_
                                refine st0 13056 rfl (ok (subI _ (1 : Int))) ?_
                                refine st0 13120 rfl (ok (mv (.d ((eL 1 eU8) a0)))) ?_
                                refine st0 13184 rfl (ok (lenL _ _)) ?_
                                refine st0 13248 rfl (ok (mulI _ _)) ?_
                                refine st0 13312 rfl (ok (mv (.d (eI v57)))) ?_
                                obtain ⟨v89, h90, h⟩ := lett_inv h
                                refine st0e 13376 rfl (ok (addI _ _)) (congrArg (fun z => PV.d (eI z)) h90) ?_
                                obtain ⟨h91, h⟩ := asq_inv h
                                refine st0 13440 rfl (ok (iaL (e := eU8) (xs := a1) 0#8 h91)) ?_
                                refine st0 13504 rfl (ok (ld_i (v := eU8 (a1.getD v89.toNat 0#8)) rfl rfl)) ?_
                                refine st0 13568 rfl (ok (xor8 _ _)) ?_
                                refine st0 13632 rfl (ok (mv (.d (eU8 (BitVec.ofInt 8 (w64 (v32 + (1 : Int)))))))) ?_
                                obtain ⟨y92, h93, h⟩ := bind_inv h
                                refine st0 13696 rfl (call_ok (v := .d (eU8 y92)) (u := []) (ar_d (eU8 (v79 ^^^ (a1.getD v89.toNat 0#8))) (ar_d (eU8 (BitVec.ofInt 8 (w64 (v32 + (1 : Int))))) ar_nil)) rfl (sharingMulOK (v79 ^^^ (a1.getD v89.toNat 0#8)) (BitVec.ofInt 8 (w64 (v32 + (1 : Int)))) y92 h93) rfl) ?_
                                refine st0 13760 rfl (ok (mv (.d (eU8 y92)))) ?_
                                refine hK88 _ _ ?_
                                simp only [thenK, blockK, keepE, updM, List.filter_cons, List.filter_nil, List.nil_append, List.cons_append, List.map_cons, List.map_nil, envE, Mem.get, Nat.reduceEqDiff, reduceIte, Option.isNone_none, Option.isNone_some, Bool.false_eq_true, List.length_cons, List.length_nil, Nat.reduceAdd, Nat.reduceMul]
                                refine hK87 _ _ _ ?_
                                refine hK86 _ _ _ ?_
                                refine rwp_region fun K94 hK94 => ?_
                                refine st0 13824 rfl (ok (mv (.d (eI v80)))) ?_
                                refine st0 13888 rfl (ok (subI _ (1 : Int))) ?_
                                refine st0 13952 rfl (ok (mv (.d (eI (w64 (v80 - (1 : Int))))))) ?_
                                refine hK94 _ _ ?_
                                simp only [thenK, blockK, keepE, updM, List.filter_cons, List.filter_nil, List.nil_append, List.cons_append, List.map_cons, List.map_nil, envE, Mem.get, Nat.reduceEqDiff, reduceIte, Option.isNone_none, Option.isNone_some, Bool.false_eq_true, List.length_cons, List.length_nil, Nat.reduceAdd, Nat.reduceMul]
                                exact hK81.out _ _ _ k9 (Nat.lt_succ_self k9) ⟨_, _, Settled.refl, _, _, ⟨_, _, h, rfl, rfl⟩, ⟨rfl, ⟨⟨rfl, rfl⟩, ⟨⟨rfl, rfl⟩, ⟨⟨rfl, rfl⟩, ⟨⟨rfl, rfl⟩, ⟨⟨rfl, rfl⟩, ⟨⟨rfl, rfl⟩, ⟨⟨rfl, rfl⟩, ⟨⟨rfl, rfl⟩, ⟨⟨rfl, rfl⟩, ⟨⟨rfl, rfl⟩, ⟨⟨rfl, rfl⟩, ⟨⟨rfl, rfl⟩, ⟨⟨rfl, rfl⟩, ⟨⟨rfl, rfl⟩, trivial⟩⟩⟩⟩⟩⟩⟩⟩⟩⟩⟩⟩⟩⟩, ⟨⟨rfl, rfl⟩, ⟨⟨rfl, rfl⟩, trivial⟩⟩⟩, rfl⟩
                              · replace h := ite_f h h85
                                refine rwp_f (isF h85) ?_
                                refine rwp_exit ?_
                                refine hK78 _ _ _ ?_
                                exact hK72 _ _ _ ⟨_, _, Settled.refl, _, _, ⟨_, h, rfl, rfl⟩, ⟨rfl, ⟨⟨rfl, rfl⟩, ⟨⟨rfl, rfl⟩, ⟨⟨rfl, rfl⟩, ⟨⟨rfl, rfl⟩, ⟨⟨rfl, rfl⟩, ⟨⟨rfl, rfl⟩, ⟨⟨rfl, rfl⟩, ⟨⟨rfl, rfl⟩, ⟨⟨rfl, rfl⟩, ⟨⟨rfl, rfl⟩, ⟨⟨rfl, rfl⟩, ⟨⟨rfl, rfl⟩, ⟨⟨rfl, rfl⟩, trivial⟩⟩⟩⟩⟩⟩⟩⟩⟩⟩⟩⟩⟩, ⟨⟨rfl, rfl⟩, ⟨⟨rfl, rfl⟩, trivial⟩⟩⟩, rfl⟩
                      · replace h := ite_f h h62
                        refine rwp_f (isF h62) ?_
                        refine rwp_exit ?_
                        refine hK55 _ _ _ ?_
                        exact hK50 _ _ _ ⟨_, _, Settled.refl, _, _, ⟨_, h, rfl, rfl⟩, ⟨rfl, ⟨⟨rfl, rfl⟩, ⟨⟨rfl, rfl⟩, ⟨⟨rfl, rfl⟩, ⟨⟨rfl, rfl⟩, ⟨⟨rfl, rfl⟩, ⟨⟨rfl, rfl⟩, ⟨⟨rfl, rfl⟩, ⟨⟨rfl, rfl⟩, trivial⟩⟩⟩⟩⟩⟩⟩⟩, ⟨⟨rfl, rfl⟩, ⟨⟨rfl, rfl⟩, trivial⟩⟩⟩, rfl⟩
              · replace h := ite_f h h37
                refine rwp_f (isF h37) ?_
                refine rwp_exit ?_
                refine hK30 _ _ _ ?_
                exact hK25 _ _ _ ⟨_, _, Settled.refl, _, _, ⟨_, h, rfl, rfl⟩, ⟨rfl, ⟨⟨rfl, rfl⟩, trivial⟩, ⟨⟨rfl, rfl⟩, trivial⟩⟩, rfl⟩
    · refine rwp_region fun K95 hK95 => ?_
      refine st0 448 rfl (ok (mv (.d (eI a2)))) ?_
      refine st0 512 rfl (ok (lssI _ (1 : Int))) ?_
      refine st0 576 rfl (ok (mv (.d (eB (decide (a2 < (1 : Int))))))) ?_
      rcases Bool.eq_false_or_eq_true ((decide (a2 < (1 : Int)))) with h96 | h96
      · replace h := ite_t h h96
        refine stGN 640 rfl rfl h96 ?_
        refine stGN 704 rfl rfl h96 ?_
        refine stGN 768 rfl rfl h96 ?_
        refine st0 832 rfl (ok (pick_t h96 (.d (eB true)) _)) ?_
        refine st0 896 rfl (ok (mv (.d (eB true)))) ?_
        refine stGN 960 rfl rfl rfl ?_
        refine stGN 1024 rfl rfl rfl ?_
        refine st0 1088 rfl (ok (pick_t rfl (.d (eB true)) _)) ?_
        refine hK95 _ _ ?_
        simp only [thenK, blockK, keepE, updM, List.filter_cons, List.filter_nil, List.nil_append, List.cons_append, List.map_cons, List.map_nil, envE, Mem.get, Nat.reduceEqDiff, reduceIte, Option.isNone_none, Option.isNone_some, Bool.false_eq_true, List.length_cons, List.length_nil, Nat.reduceAdd, Nat.reduceMul]
        exact hK11 _ _ _ ⟨_, _, Settled.refl, _, _, ⟨_, h, rfl, rfl⟩, ⟨rfl, ⟨⟨rfl, rfl⟩, ⟨⟨rfl, rfl⟩, ⟨⟨rfl, rfl⟩, ⟨⟨rfl, rfl⟩, ⟨⟨rfl, rfl⟩, trivial⟩⟩⟩⟩⟩, trivial⟩, rfl⟩
      · replace h := ite_f h h96
        refine stG (isF h96) ?_
        refine st0 640 rfl (ok (mv (.d (eI a2)))) ?_
        refine stG (isF h96) ?_
        refine st0 704 rfl (ok (mv (.d (eI a3)))) ?_
        refine stG (isF h96) ?_
        refine st0 768 rfl (ok (gtrI _ _)) ?_
        refine st0 832 rfl (ok (pick_f h96 _ (.d (eB (decide (a3 < a2)))))) ?_
        refine st0 896 rfl (ok (mv (.d (eB (decide (a3 < a2)))))) ?_
        rcases Bool.eq_false_or_eq_true ((decide (a3 < a2))) with h97 | h97
        · replace h := ite_t h h97
          refine stGN 960 rfl rfl h97 ?_
          refine stGN 1024 rfl rfl h97 ?_
          refine st0 1088 rfl (ok (pick_t h97 (.d (eB true)) _)) ?_
          refine hK95 _ _ ?_
          simp only [thenK, blockK, keepE, updM, List.filter_cons, List.filter_nil, List.nil_append, List.cons_append, List.map_cons, List.map_nil, envE, Mem.get, Nat.reduceEqDiff, reduceIte, Option.isNone_none, Option.isNone_some, Bool.false_eq_true, List.length_cons, List.length_nil, Nat.reduceAdd, Nat.reduceMul]
          exact hK11 _ _ _ ⟨_, _, Settled.refl, _, _, ⟨_, h, rfl, rfl⟩, ⟨rfl, ⟨⟨rfl, rfl⟩, ⟨⟨rfl, rfl⟩, ⟨⟨rfl, rfl⟩, ⟨⟨rfl, rfl⟩, ⟨⟨rfl, rfl⟩, trivial⟩⟩⟩⟩⟩, trivial⟩, rfl⟩
        · replace h := ite_f h h97
          refine stG (isF h97) ?_
          refine st0 960 rfl (ok (mv (.d (eI a3)))) ?_
          refine stG (isF h97) ?_
          refine st0 1024 rfl (ok (gtrI _ (255 : Int))) ?_
          refine st0 1088 rfl (ok (pick_f h97 _ (.d (eB (decide ((255 : Int) < a3)))))) ?_
          refine hK95 _ _ ?_
          simp only [thenK, blockK, keepE, updM, List.filter_cons, List.filter_nil, List.nil_append, List.cons_append, List.map_cons, List.map_nil, envE, Mem.get, Nat.reduceEqDiff, reduceIte, Option.isNone_none, Option.isNone_some, Bool.false_eq_true, List.length_cons, List.length_nil, Nat.reduceAdd, Nat.reduceMul]
          exact hK11 _ _ _ ⟨_, _, Settled.refl, _, _, ⟨_, h, rfl, rfl⟩, ⟨rfl, ⟨⟨rfl, rfl⟩, ⟨⟨rfl, rfl⟩, ⟨⟨rfl, rfl⟩, ⟨⟨rfl, rfl⟩, ⟨⟨rfl, rfl⟩, trivial⟩⟩⟩⟩⟩, trivial⟩, rfl⟩

end Go.Proofs.Ty
