/- Each Go function comes to what its plain function says. PRINTED by a program of this session (ty.py). -/
import Derived.Test.YtkiffaadahpbkaaS10
set_option linter.unusedVariables false
set_option linter.unusedSimpArgs false
set_option maxHeartbeats 4000000
set_option maxRecDepth 10000
namespace Go.Proofs.Ty
open Go Go.RW Go.Proofs
/-- passkey/passkeylaw37.SharingValues -/
def passkeylaw37SharingValuesH : Hints := ⟨[(0, [0, 1, 2]), (1, [0, 1, 2, 14]), (2, [6]), (3, [0, 1, 2, 7]), (4, [0, 1, 2, 7, 19]), (6, [0, 1, 2, 7, 28]), (7, [6]), (5, [0, 1, 2, 7]), (8, [0, 1, 8]), (9, [0, 1, 8, 9]), (10, [0, 1, 8, 9, 10]), (11, [0, 1, 8, 9, 10, 36]), (13, [0, 1, 8, 9, 10]), (12, [0, 1, 8, 9, 10]), (14, [0, 1, 8, 9, 64]), (15, [0, 1, 8, 9, 64, 65]), (16, [0, 1, 9]), (17, [0, 1, 8, 9, 64, 79]), (18, [0, 1, 8, 9, 11]), (19, [0, 1, 9]), (20, [0, 1, 9, 97]), (21, [0, 1, 9]), (22, [6])], []⟩
def passkeylaw37SharingValuesRc : RCode :=
  .seq (.region false [⟨some 6, .mv, [.k (.d (.bool false))], none, []⟩] [0, 1, 2]) (.seq (.seq (.region false [⟨some 12, .mv, [.t 0], none, []⟩, ⟨some 13, .len, [.t 12], none, []⟩,
  ⟨some 14, .bin .gtr, [.t 13, .k (.d (.int .i64 12))], none, []⟩] [0, 1, 2, 14]) (.cond (.t 14) (.seq (.region false [⟨some 15, .call 13 false, [], none, []⟩, ⟨some 6, .mv, [.t
  15], none, []⟩] [6]) .ret) .skip)) (.seq (.seq (.region false [⟨some 7, .mv, [.k (.d (.int .i64 0))], none, []⟩] [0, 1, 2, 7]) (.block 0 (.loop [] (.seq (.seq (.region false
  [⟨some 16, .mv, [.t 7], none, []⟩, ⟨some 17, .mv, [.t 0], none, []⟩, ⟨some 18, .len, [.t 17], none, []⟩, ⟨some 19, .bin .lss, [.t 16, .t 18], none, []⟩] [0, 1, 2, 7, 19]) (.cond
  (.t 19) .skip (.exit 0))) (.seq (.block 1 (.seq (.region false [⟨some 22, .mv, [.t 0], none, []⟩, ⟨some 23, .mv, [.t 7], none, []⟩, ⟨some 24, .ia 2, [.t 22, .t 23], none, []⟩,
  ⟨some 25, .fa 1, [.t 24], none, []⟩, ⟨some 26, .load 1 false, [.t 25], none, []⟩, ⟨some 27, .len, [.t 26], none, []⟩, ⟨some 28, .bin .gtr, [.t 27, .k (.d (.int .i64 100))], none,
  []⟩] [0, 1, 2, 7, 28]) (.cond (.t 28) (.seq (.region false [⟨some 29, .call 13 false, [], none, []⟩, ⟨some 6, .mv, [.t 29], none, []⟩] [6]) .ret) .skip))) (.region false [⟨some
  20, .mv, [.t 7], none, []⟩, ⟨some 21, .bin .add, [.t 20, .k (.d (.int .i64 1))], none, []⟩, ⟨some 7, .mv, [.t 21], none, []⟩] [0, 1, 2, 7])))))) (.seq (.region false [⟨some 30,
  .mv, [.t 2], none, []⟩, ⟨some 31, .call 19 true, [.t 30], none, []⟩, ⟨some 8, .mv, [.t 31], none, []⟩] [0, 1, 8]) (.seq (.region false [⟨some 9, .mv, [.k (.nil 2)], none, []⟩]
  [0, 1, 8, 9]) (.seq (.seq (.region false [⟨some 32, .mv, [.t 8], none, []⟩, ⟨some 33, .call 20 false, [.t 32, .k (.d (.int .i64 6))], none, []⟩, ⟨some 34, .bin .add, [.k (.d
  (.int .i64 1)), .t 33], none, []⟩, ⟨some 10, .mv, [.t 34], none, []⟩] [0, 1, 8, 9, 10]) (.block 2 (.loop [] (.seq (.seq (.region false [⟨some 35, .mv, [.t 10], none, []⟩, ⟨some
  36, .bin .gtr, [.t 35, .k (.d (.int .i64 0))], none, []⟩] [0, 1, 8, 9, 10, 36]) (.cond (.t 36) .skip (.exit 2))) (.seq (.block 3 (.region true [⟨some 39, .mv, [.t 9], none, []⟩,
  ⟨some 40, .mv, [.t 8], none, []⟩, ⟨some 41, .call 20 false, [.t 40, .k (.d (.int .i64 255))], none, [1]⟩, ⟨some 42, .bin .add, [.k (.d (.int .i64 1)), .t 41], none, [1, 2]⟩,
  ⟨some 43, .mv, [.t 8], none, []⟩, ⟨some 44, .call 20 false, [.t 43, .k (.d (.int .i64 6))], none, [1, 2, 4]⟩, ⟨some 45, .bin .add, [.k (.d (.int .i64 1)), .t 44], none, [1, 2, 4,
  5]⟩, ⟨some 46, .mv, [.t 9], none, []⟩, ⟨some 47, .len, [.t 46], none, [7]⟩, ⟨some 48, .bin .add, [.t 47, .k (.d (.int .i64 1))], none, [7, 8]⟩, ⟨some 49, .mv, [.t 9], none, []⟩,
  ⟨some 50, .len, [.t 49], none, [10]⟩, ⟨some 51, .bin .add, [.t 50, .k (.d (.int .i64 1))], none, [10, 11]⟩, ⟨some 52, .bslice 1 false 4 [.d (.int .i64 0)] [0, 1, 2, 3], [.t 42,
  .t 45, .t 48, .t 51], none, [1, 2, 3, 4, 5, 6, 7, 8, 9, 10, 11, 12]⟩, ⟨some 53, .mv, [.t 8], none, []⟩, ⟨some 54, .call 20 false, [.t 53, .k (.d (.int .i64 4))], none, [1, 2, 4,
  5, 14]⟩, ⟨some 55, .ia 1, [.t 52, .t 54], none, [1, 2, 3, 4, 5, 6, 7, 8, 9, 10, 11, 12, 13, 14, 15]⟩, ⟨some 56, .load 1 false, [.t 55], none, [1, 2, 3, 4, 5, 6, 7, 8, 9, 10, 11,
  12, 13, 14, 15, 16]⟩, ⟨some 57, .mv, [.t 8], none, []⟩, ⟨some 58, .call 20 false, [.t 57, .k (.d (.int .i64 9))], none, [1, 2, 4, 5, 14, 15, 18]⟩, ⟨some 59, .call 15 true, [.t
  58, .k (.d (.int .i64 3))], none, [1, 2, 4, 5, 14, 15, 18, 19]⟩, ⟨some 60, .build [.d (.int .i64 0), .nil 1] [(0, 1), (1, 1)], [.t 56, .t 59], none, [1, 2, 3, 4, 5, 6, 7, 8, 9,
  10, 11, 12, 13, 14, 15, 16, 17, 18, 19, 20]⟩, ⟨some 61, .bslice 2 true 1 [.d (.int .i64 0), .nil 1] [0], [.t 60], none, [1, 2, 3, 4, 5, 6, 7, 8, 9, 10, 11, 12, 13, 14, 15, 16,
  17, 18, 19, 20, 21]⟩, ⟨some 62, .app 2 4398046511104, [.t 39, .t 61], none, [0, 1, 2, 3, 4, 5, 6, 7, 8, 9, 10, 11, 12, 13, 14, 15, 16, 17, 18, 19, 20, 21, 22]⟩, ⟨some 9, .mv, [.t
  62], none, [0, 1, 2, 3, 4, 5, 6, 7, 8, 9, 10, 11, 12, 13, 14, 15, 16, 17, 18, 19, 20, 21, 22, 23]⟩] [0, 1, 8, 9, 10])) (.region false [⟨some 37, .mv, [.t 10], none, []⟩, ⟨some
  38, .bin .sub, [.t 37, .k (.d (.int .i64 1))], none, []⟩, ⟨some 10, .mv, [.t 38], none, []⟩] [0, 1, 8, 9, 10])))))) (.seq (.seq (.region false [⟨some 63, .mv, [.t 8], none, []⟩,
  ⟨some 64, .call 20 false, [.t 63, .k (.d (.int .i64 6))], none, []⟩] [0, 1, 8, 9, 64]) (.block 4 (.seq (.region false [⟨some 66, .bin .eql, [.t 64, .k (.d (.int .i64 0))], none,
  []⟩, ⟨some 65, .mv, [.t 66], none, []⟩] [0, 1, 8, 9, 64, 65]) (.cond (.t 65) (.region false [⟨some 67, .mv, [.t 9], none, []⟩, ⟨some 68, .mv, [.t 8], none, []⟩, ⟨some 69, .mv,
  [.t 9], none, []⟩, ⟨some 70, .len, [.t 69], none, []⟩, ⟨some 71, .call 20 false, [.t 68, .t 70], none, []⟩, ⟨some 72, .bslice 1 false 3 [.d (.int .i64 0)] [0, 1, 2], [.k (.d
  (.int .i64 0)), .k (.d (.int .i64 256)), .k (.d (.int .i64 (-1)))], none, []⟩, ⟨some 73, .mv, [.t 8], none, []⟩, ⟨some 74, .call 20 false, [.t 73, .k (.d (.int .i64 3))], none,
  []⟩, ⟨some 75, .ia 1, [.t 72, .t 74], none, []⟩, ⟨some 76, .load 1 false, [.t 75], none, []⟩, ⟨some 77, .ia 2, [.t 67, .t 71], none, []⟩, ⟨some 78, .fa 0, [.t 77], none, []⟩,
  ⟨none, .store 1, [.t 78, .t 76], none, []⟩] [0, 1, 9]) (.seq (.region false [⟨some 80, .bin .eql, [.t 64, .k (.d (.int .i64 1))], none, []⟩, ⟨some 79, .mv, [.t 80], none, []⟩]
  [0, 1, 8, 9, 64, 79]) (.cond (.t 79) (.seq (.region false [⟨some 81, .mv, [.t 8], none, []⟩, ⟨some 82, .mv, [.t 9], none, []⟩, ⟨some 83, .len, [.t 82], none, []⟩, ⟨some 84, .call
  20 false, [.t 81, .t 83], none, []⟩, ⟨some 11, .mv, [.t 84], none, []⟩] [0, 1, 8, 9, 11]) (.region true [⟨some 85, .mv, [.t 9], none, []⟩, ⟨some 86, .mv, [.t 11], none, []⟩,
  ⟨some 87, .mv, [.t 9], none, []⟩, ⟨some 88, .mv, [.t 11], none, []⟩, ⟨some 89, .ia 2, [.t 87, .t 88], none, [2, 3]⟩, ⟨some 90, .fa 1, [.t 89], none, [2, 3, 4]⟩, ⟨some 91, .load 1
  false, [.t 90], none, [2, 3, 4, 5]⟩, ⟨some 92, .mv, [.t 8], none, []⟩, ⟨some 93, .call 20 false, [.t 92, .k (.d (.int .i64 4))], none, [7]⟩, ⟨some 94, .slice 1 false true false,
  [.t 91, .t 93], none, [2, 3, 4, 5, 6, 7, 8]⟩, ⟨some 95, .ia 2, [.t 85, .t 86], none, [0, 1, 2, 3, 4, 5, 6, 7, 8, 9]⟩, ⟨some 96, .fa 1, [.t 95], none, [0, 1, 2, 3, 4, 5, 6, 7, 8,
  9, 10]⟩, ⟨none, .store 1, [.t 96, .t 94], none, [0, 1, 2, 3, 4, 5, 6, 7, 8, 9, 10, 11]⟩] [0, 1, 9])) (.seq (.region false [⟨some 98, .bin .eql, [.t 64, .k (.d (.int .i64 2))],
  none, []⟩, ⟨some 97, .mv, [.t 98], none, []⟩] [0, 1, 9, 97]) (.cond (.t 97) (.region false [⟨some 99, .mv, [.t 9], none, []⟩, ⟨some 100, .call 15 true, [.k (.d (.int .i64 1)), .k
  (.d (.int .i64 65))], none, []⟩, ⟨some 101, .ia 2, [.t 99, .k (.d (.int .i64 0))], none, []⟩, ⟨some 102, .fa 1, [.t 101], none, []⟩, ⟨none, .store 1, [.t 102, .t 100], none, []⟩]
  [0, 1, 9]) .skip)))))))) (.seq (.region false [⟨some 103, .mv, [.t 0], none, []⟩, ⟨some 104, .mv, [.t 1], none, []⟩, ⟨some 105, .call 21 false, [.t 103, .t 104], none, []⟩, ⟨some
  106, .mv, [.t 105], none, []⟩, ⟨some 107, .mv, [.t 9], some (106, true), []⟩, ⟨some 108, .mv, [.t 1], some (106, true), []⟩, ⟨some 109, .call 14 false, [.t 108, .k (.d (.int .i64
  258))], some (106, true), []⟩, ⟨some 110, .bin .sub, [.t 109, .k (.d (.int .i64 1))], some (106, true), []⟩, ⟨some 111, .call 21 false, [.t 107, .t 110], some (106, true), []⟩,
  ⟨some 112, .pick, [.t 106, .t 111, .k (.d (.bool false))], none, []⟩, ⟨some 113, .mv, [.t 112], none, []⟩, ⟨some 114, .mv, [.t 9], some (113, true), []⟩, ⟨some 115, .mv, [.t 1],
  some (113, true), []⟩, ⟨some 116, .call 21 false, [.t 114, .t 115], some (113, true), []⟩, ⟨some 117, .pick, [.t 113, .t 116, .k (.d (.bool false))], none, []⟩, ⟨some 118, .mv,
  [.t 117], none, []⟩, ⟨some 119, .call 13 false, [], some (118, true), []⟩, ⟨some 120, .pick, [.t 118, .t 119, .k (.d (.bool false))], none, []⟩, ⟨some 6, .mv, [.t 120], none,
  []⟩] [6]) .ret)))))))
def passkeylaw37SharingValuesRr : List RR := [.t 6]
theorem passkeylaw37SharingValuesC : compFn Try.prog 5 passkeylaw37SharingValuesH = some (passkeylaw37SharingValuesRc, passkeylaw37SharingValuesRr, 121) := by kernel_rfl
theorem passkeylaw37SharingValuesOK (a0 : List (TApiShare)) (a1 : Int) (a2 : List (Int)) (res : Bool) (h : passkeylaw37SharingValues a0 a1 a2 = some res) : CallOK Try.prog 5 [.d ((eL 2 eTApiShare) a0), .d (eI a1), .d ((eL 1 eI) a2)] [] (.d (eB res)) [] := by
  unfold passkeylaw37SharingValues at h
  refine callOK passkeylaw37SharingValuesC fm rfl ?_
  simp only [initE, initM, nbor, List.map_cons, List.map_nil, Nat.reduceAdd]
  unfold passkeylaw37SharingValuesRc
  refine rwp_seq fun K1 hK1 => ?_
  refine rwp_region fun K2 hK2 => ?_
  refine st0 128 rfl (ok (mv (.d (eB false)))) ?_
  refine hK2 _ _ ?_
  simp only [thenK, blockK, keepE, updM, List.filter_cons, List.filter_nil, List.nil_append, List.cons_append, List.map_cons, List.map_nil, envE, Mem.get, Nat.reduceEqDiff, reduceIte, Option.isNone_none, Option.isNone_some, Bool.false_eq_true, List.length_cons, List.length_nil, Nat.reduceAdd, Nat.reduceMul]
  refine hK1 _ _ _ ?_
  refine rwp_seq fun K3 hK3 => ?_
  refine rwp_seq fun K4 hK4 => ?_
  refine rwp_region fun K5 hK5 => ?_
  refine st0 192 rfl (ok (mv (.d ((eL 2 eTApiShare) a0)))) ?_
  refine st0 256 rfl (ok (lenL _ _)) ?_
  refine st0 320 rfl (ok (gtrI _ (12 : Int))) ?_
  refine hK5 _ _ ?_
  simp only [thenK, blockK, keepE, updM, List.filter_cons, List.filter_nil, List.nil_append, List.cons_append, List.map_cons, List.map_nil, envE, Mem.get, Nat.reduceEqDiff, reduceIte, Option.isNone_none, Option.isNone_some, Bool.false_eq_true, List.length_cons, List.length_nil, Nat.reduceAdd, Nat.reduceMul]
  refine hK4 _ _ _ ?_
  rcases Bool.eq_false_or_eq_true ((decide ((12 : Int) < (a0.length : Int)))) with h6 | h6
  · replace h := ite_t h h6
    refine rwp_t (isT h6) ?_
    refine rwp_seq fun K7 hK7 => ?_
    refine rwp_region fun K8 hK8 => ?_
    obtain ⟨y9, h10, h⟩ := bind_inv h
    refine st0 384 rfl (call_ok (v := .d (eB y9)) (u := []) ar_nil rfl (passkeylaw37awakeOK  y9 h10) rfl) ?_
    refine st0 448 rfl (ok (mv (.d (eB y9)))) ?_
    refine hK8 _ _ ?_
    simp only [thenK, blockK, keepE, updM, List.filter_cons, List.filter_nil, List.nil_append, List.cons_append, List.map_cons, List.map_nil, envE, Mem.get, Nat.reduceEqDiff, reduceIte, Option.isNone_none, Option.isNone_some, Bool.false_eq_true, List.length_cons, List.length_nil, Nat.reduceAdd, Nat.reduceMul]
    refine hK7 _ _ _ ?_
    refine rwp_ret ?_
    obtain rfl := Option.some.inj h
    try simp only [thenK, blockK, reduceIte]
    exact Or.inl (end_ok trivial (rs_t (v := .d (eB y9)) rfl rs_nil) (en_d (to_d _) en_nil) ou_nil (by first | exact eok rfl rfl rfl rfl trivial | (refine eok ?_ ?_ ?_ ?_ ?_ <;> first | rfl | exact trivial | simp [retM, Mem.get, PV.renL, PV.ren, Blk.ren, comps, rhoR, rhoM, appN, PV.refsL, PV.refs, keys, nodupB, Blk.refs, allIn, Blk.bor])))
  · replace h := ite_f h h6
    refine rwp_f (isF h6) ?_
    refine rwp_skip ?_
    refine hK3 _ _ _ ?_
    refine rwp_join ([], []) 1728 (fun env mem => passkeylaw37SharingValuesJ1 a0 a1 a2 = some res ∧ env = [(0, .d ((eL 2 eTApiShare) a0)), (1, .d (eI a1)), (2, .d ((eL 1 eI) a2))] ∧ mem = []) (fun _ _ hI => ?_) (fun K11 hK11 => ?_)
    · obtain ⟨h, rfl, rfl⟩ := hI
      unfold passkeylaw37SharingValuesJ1 at h
      refine rwp_seq fun K12 hK12 => ?_
      refine rwp_region fun K13 hK13 => ?_
      refine st0 1792 rfl (ok (mv (.d ((eL 1 eI) a2)))) ?_
      obtain ⟨y14, h15, h⟩ := bind_inv h
      refine st1 1856 rfl (mem' := [(1792, .var .mine [.d ((eL 1 eI) y14.l), .d (eI y14.atX)])]) (call_ok (v := .ptr 1792 0) (u := [(1792, .var .mine [.d ((eL 1 eI) y14.l), .d (eI y14.atX)])]) (ar_d ((eL 1 eI) a2) ar_nil) rfl (passkeycastNewOK a2 y14 h15) rfl) rfl ?_
      refine st0 1920 rfl (ok (mv (.ptr 1792 0))) ?_
      refine hK13 _ _ ?_
      simp only [thenK, blockK, keepE, updM, List.filter_cons, List.filter_nil, List.nil_append, List.cons_append, List.map_cons, List.map_nil, envE, Mem.get, Nat.reduceEqDiff, reduceIte, Option.isNone_none, Option.isNone_some, Bool.false_eq_true, List.length_cons, List.length_nil, Nat.reduceAdd, Nat.reduceMul]
      refine hK12 _ _ _ ?_
      refine rwp_seq fun K16 hK16 => ?_
      refine rwp_region fun K17 hK17 => ?_
      refine st0 1984 rfl (ok (mv (.nil 2))) ?_
      refine hK17 _ _ ?_
      simp only [thenK, blockK, keepE, updM, List.filter_cons, List.filter_nil, List.nil_append, List.cons_append, List.map_cons, List.map_nil, envE, Mem.get, Nat.reduceEqDiff, reduceIte, Option.isNone_none, Option.isNone_some, Bool.false_eq_true, List.length_cons, List.length_nil, Nat.reduceAdd, Nat.reduceMul]
      refine hK16 _ _ _ ?_
      refine rwp_join ([], []) 4544 (fun env mem => ∃ (v18 : List (Int)) (v19 : Int) (v20 : List (TApiShare)), passkeylaw37SharingValuesJ2 a0 a1 v18 v19 v20 = some res ∧ env = [(0, .d ((eL 2 eTApiShare) a0)), (1, .d (eI a1)), (8, .ptr 1792 0), (9, .ref 4289 v20.length 0 v20.length)] ∧ mem = [(1792, .var .mine [.d ((eL 1 eI) v18), .d (eI v19)]), (4289, .row true 2 (v20.map eTApiShare))]) (fun _ _ hI => ?_) (fun K21 hK21 => ?_)
      · obtain ⟨v18, v19, v20, h, rfl, rfl⟩ := hI
        unfold passkeylaw37SharingValuesJ2 at h
        refine rwp_join ([], []) 6144 (fun env mem => ∃ (v22 : List (TApiShare)), passkeylaw37SharingValuesJ3 a0 a1 v22 = some res ∧ env = [(0, .d ((eL 2 eTApiShare) a0)), (1, .d (eI a1)), (9, .ref 4289 v22.length 0 v22.length)] ∧ mem = [(4289, .row true 2 (v22.map eTApiShare))]) (fun _ _ hI => ?_) (fun K23 hK23 => ?_)
        · obtain ⟨v22, h, rfl, rfl⟩ := hI
          unfold passkeylaw37SharingValuesJ3 at h
          refine rwp_seq fun K24 hK24 => ?_
          refine rwp_region fun K25 hK25 => ?_
          refine st0 6208 rfl (ok (mv (.d ((eL 2 eTApiShare) a0)))) ?_
          refine st0 6272 rfl (ok (mv (.d (eI a1)))) ?_
          obtain ⟨y26, h27, h⟩ := bind_inv h
          refine st0 6336 rfl (call_ok (v := .d (eB y26)) (u := []) (ar_d ((eL 2 eTApiShare) a0) (ar_d (eI a1) ar_nil)) rfl (passkeylaw37atOK a0 a1 y26 h27) rfl) ?_
          refine st0 6400 rfl (ok (mv (.d (eB y26)))) ?_
          rcases Bool.eq_false_or_eq_true (y26) with h28 | h28
          · replace h := ite_t h h28
            refine stG (isT h28) ?_
            refine st0 6464 rfl (ok (mv (.ref 4289 v22.length 0 v22.length))) ?_
            refine stG (isT h28) ?_
            refine st0 6528 rfl (ok (mv (.d (eI a1)))) ?_
            refine stG (isT h28) ?_
            obtain ⟨y29, h30, h⟩ := bind_inv h
            refine st0 6592 rfl (call_ok (v := .d (eI y29)) (u := []) (ar_d (eI a1) (ar_d (eI (258 : Int)) ar_nil)) rfl (passkeycastModOK a1 (258 : Int) y29 h30) rfl) ?_
            refine stG (isT h28) ?_
            refine st0 6656 rfl (ok (subI _ (1 : Int))) ?_
            refine stG (isT h28) ?_
            obtain ⟨y31, h32, h⟩ := bind_inv h
            refine st0 6720 rfl (call_ok (v := .d (eB y31)) (u := []) (ar_to rfl (to_1 rfl (ds_r (ys := v22) rfl rfl rfl ds_nil)) (ar_d (eI (w64 (y29 - (1 : Int)))) ar_nil)) rfl (passkeylaw37atOK v22 (w64 (y29 - (1 : Int))) y31 h32) rfl) ?_
            refine st0 6784 rfl (ok (pick_t h28 (.d (eB y31)) _)) ?_
            refine st0 6848 rfl (ok (mv (.d (eB y31)))) ?_
            rcases Bool.eq_false_or_eq_true (y31) with h33 | h33
            · replace h := ite_t h h33
              refine stG (isT h33) ?_
              refine st0 6912 rfl (ok (mv (.ref 4289 v22.length 0 v22.length))) ?_
              refine stG (isT h33) ?_
              refine st0 6976 rfl (ok (mv (.d (eI a1)))) ?_
              refine stG (isT h33) ?_
              obtain ⟨y34, h35, h⟩ := bind_inv h
              refine st0 7040 rfl (call_ok (v := .d (eB y34)) (u := []) (ar_to rfl (to_1 rfl (ds_r (ys := v22) rfl rfl rfl ds_nil)) (ar_d (eI a1) ar_nil)) rfl (passkeylaw37atOK v22 a1 y34 h35) rfl) ?_
              refine st0 7104 rfl (ok (pick_t h33 (.d (eB y34)) _)) ?_
              refine st0 7168 rfl (ok (mv (.d (eB y34)))) ?_
              rcases Bool.eq_false_or_eq_true (y34) with h36 | h36
              · replace h := ite_t h h36
                refine stG (isT h36) ?_
                obtain ⟨y37, h38, h⟩ := bind_inv h
                refine st0 7232 rfl (call_ok (v := .d (eB y37)) (u := []) ar_nil rfl (passkeylaw37awakeOK  y37 h38) rfl) ?_
                refine st0 7296 rfl (ok (pick_t h36 (.d (eB y37)) _)) ?_
                refine st0 7360 rfl (ok (mv (.d (eB y37)))) ?_
                refine hK25 _ _ ?_
                simp only [thenK, blockK, keepE, updM, List.filter_cons, List.filter_nil, List.nil_append, List.cons_append, List.map_cons, List.map_nil, envE, Mem.get, Nat.reduceEqDiff, reduceIte, Option.isNone_none, Option.isNone_some, Bool.false_eq_true, List.length_cons, List.length_nil, Nat.reduceAdd, Nat.reduceMul]
                refine hK24 _ _ _ ?_
                refine rwp_ret ?_
                obtain rfl := Option.some.inj h
                try simp only [thenK, blockK, reduceIte]
                exact Or.inl (end_ok trivial (rs_t (v := .d (eB y37)) rfl rs_nil) (en_d (to_d _) en_nil) ou_nil (by first | exact eok rfl rfl rfl rfl trivial | (refine eok ?_ ?_ ?_ ?_ ?_ <;> first | rfl | exact trivial | simp [retM, Mem.get, PV.renL, PV.ren, Blk.ren, comps, rhoR, rhoM, appN, PV.refsL, PV.refs, keys, nodupB, Blk.refs, allIn, Blk.bor])))
              · replace h := ite_f h h36
                refine stGN 7232 rfl rfl h36 ?_
                refine st0 7296 rfl (ok (pick_f h36 _ (.d (eB false)))) ?_
                refine st0 7360 rfl (ok (mv (.d (eB false)))) ?_
                refine hK25 _ _ ?_
                simp only [thenK, blockK, keepE, updM, List.filter_cons, List.filter_nil, List.nil_append, List.cons_append, List.map_cons, List.map_nil, envE, Mem.get, Nat.reduceEqDiff, reduceIte, Option.isNone_none, Option.isNone_some, Bool.false_eq_true, List.length_cons, List.length_nil, Nat.reduceAdd, Nat.reduceMul]
                refine hK24 _ _ _ ?_
                refine rwp_ret ?_
                obtain rfl := Option.some.inj h
                try simp only [thenK, blockK, reduceIte]
                exact Or.inl (end_ok trivial (rs_t (v := .d (eB false)) rfl rs_nil) (en_d (to_d _) en_nil) ou_nil (by first | exact eok rfl rfl rfl rfl trivial | (refine eok ?_ ?_ ?_ ?_ ?_ <;> first | rfl | exact trivial | simp [retM, Mem.get, PV.renL, PV.ren, Blk.ren, comps, rhoR, rhoM, appN, PV.refsL, PV.refs, keys, nodupB, Blk.refs, allIn, Blk.bor])))
            · replace h := ite_f h h33
              refine stGN 6912 rfl rfl h33 ?_
              refine stGN 6976 rfl rfl h33 ?_
              refine stGN 7040 rfl rfl h33 ?_
              refine st0 7104 rfl (ok (pick_f h33 _ (.d (eB false)))) ?_
              refine st0 7168 rfl (ok (mv (.d (eB false)))) ?_
              refine stGN 7232 rfl rfl rfl ?_
              refine st0 7296 rfl (ok (pick_f rfl _ (.d (eB false)))) ?_
              refine st0 7360 rfl (ok (mv (.d (eB false)))) ?_
              refine hK25 _ _ ?_
              simp only [thenK, blockK, keepE, updM, List.filter_cons, List.filter_nil, List.nil_append, List.cons_append, List.map_cons, List.map_nil, envE, Mem.get, Nat.reduceEqDiff, reduceIte, Option.isNone_none, Option.isNone_some, Bool.false_eq_true, List.length_cons, List.length_nil, Nat.reduceAdd, Nat.reduceMul]
              refine hK24 _ _ _ ?_
              refine rwp_ret ?_
              obtain rfl := Option.some.inj h
              try simp only [thenK, blockK, reduceIte]
              exact Or.inl (end_ok trivial (rs_t (v := .d (eB false)) rfl rs_nil) (en_d (to_d _) en_nil) ou_nil (by first | exact eok rfl rfl rfl rfl trivial | (refine eok ?_ ?_ ?_ ?_ ?_ <;> first | rfl | exact trivial | simp [retM, Mem.get, PV.renL, PV.ren, Blk.ren, comps, rhoR, rhoM, appN, PV.refsL, PV.refs, keys, nodupB, Blk.refs, allIn, Blk.bor])))
          · replace h := ite_f h h28
            refine stGN 6464 rfl rfl h28 ?_
            refine stGN 6528 rfl rfl h28 ?_
            refine stGN 6592 rfl rfl h28 ?_
            refine stGN 6656 rfl rfl h28 ?_
            refine stGN 6720 rfl rfl h28 ?_
            refine st0 6784 rfl (ok (pick_f h28 _ (.d (eB false)))) ?_
            refine st0 6848 rfl (ok (mv (.d (eB false)))) ?_
            refine stGN 6912 rfl rfl rfl ?_
            refine stGN 6976 rfl rfl rfl ?_
            refine stGN 7040 rfl rfl rfl ?_
            refine st0 7104 rfl (ok (pick_f rfl _ (.d (eB false)))) ?_
            refine st0 7168 rfl (ok (mv (.d (eB false)))) ?_
            refine stGN 7232 rfl rfl rfl ?_
            refine st0 7296 rfl (ok (pick_f rfl _ (.d (eB false)))) ?_
            refine st0 7360 rfl (ok (mv (.d (eB false)))) ?_
            refine hK25 _ _ ?_
            simp only [thenK, blockK, keepE, updM, List.filter_cons, List.filter_nil, List.nil_append, List.cons_append, List.map_cons, List.map_nil, envE, Mem.get, Nat.reduceEqDiff, reduceIte, Option.isNone_none, Option.isNone_some, Bool.false_eq_true, List.length_cons, List.length_nil, Nat.reduceAdd, Nat.reduceMul]
            refine hK24 _ _ _ ?_
            refine rwp_ret ?_
            obtain rfl := Option.some.inj h
            try simp only [thenK, blockK, reduceIte]
            exact Or.inl (end_ok trivial (rs_t (v := .d (eB false)) rfl rs_nil) (en_d (to_d _) en_nil) ou_nil (by first | exact eok rfl rfl rfl rfl trivial | (refine eok ?_ ?_ ?_ ?_ ?_ <;> first | rfl | exact trivial | simp [retM, Mem.get, PV.renL, PV.ren, Blk.ren, comps, rhoR, rhoM, appN, PV.refsL, PV.refs, keys, nodupB, Blk.refs, allIn, Blk.bor])))
        · refine rwp_seq fun K39 hK39 => ?_
          refine rwp_region fun K40 hK40 => ?_
          refine st0 4608 rfl (ok (mv (.ptr 1792 0))) ?_
          obtain ⟨y41, h42, h⟩ := bind_inv h
          refine st1 4672 rfl (mem' := [(1792, .var .mine [.d ((eL 1 eI) y41.2.l), .d (eI y41.2.atX)]), (4289, .row true 2 (v20.map eTApiShare))]) (call_ok (v := .d (eI y41.1)) (u := [(1792, .var .mine [.d ((eL 1 eI) y41.2.l), .d (eI y41.2.atX)])]) (ar_p rfl rfl (ds_d _ (ds_d _ ds_nil)) (ar_d (eI (6 : Int)) ar_nil)) rfl (passkeycastDeckNextOK (TPasskeycastDeck.mk v18 v19) (6 : Int) y41 h42) rfl) rfl ?_
          refine hK40 _ _ ?_
          simp only [thenK, blockK, keepE, updM, List.filter_cons, List.filter_nil, List.nil_append, List.cons_append, List.map_cons, List.map_nil, envE, Mem.get, Nat.reduceEqDiff, reduceIte, Option.isNone_none, Option.isNone_some, Bool.false_eq_true, List.length_cons, List.length_nil, Nat.reduceAdd, Nat.reduceMul]
          refine hK39 _ _ _ ?_
          refine rwp_block fun K43 hK43 => ?_
          refine rwp_seq fun K44 hK44 => ?_
          refine rwp_region fun K45 hK45 => ?_
          refine st0 4736 rfl (ok (eqlI _ (0 : Int))) ?_
          refine st0 4800 rfl (ok (mv (.d (eB (y41.1 == (0 : Int)))))) ?_
          refine hK45 _ _ ?_
          simp only [thenK, blockK, keepE, updM, List.filter_cons, List.filter_nil, List.nil_append, List.cons_append, List.map_cons, List.map_nil, envE, Mem.get, Nat.reduceEqDiff, reduceIte, Option.isNone_none, Option.isNone_some, Bool.false_eq_true, List.length_cons, List.length_nil, Nat.reduceAdd, Nat.reduceMul]
          refine hK44 _ _ _ ?_
          rcases Bool.eq_false_or_eq_true ((y41.1 == (0 : Int))) with h46 | h46
          · replace h := ite_t h h46
            refine rwp_t (isT h46) ?_
            refine rwp_region fun K47 hK47 => ?_
            refine st0 4864 rfl (ok (mv (.ref 4289 v20.length 0 v20.length))) ?_
            refine st0 4928 rfl (ok (mv (.ptr 1792 0))) ?_
            refine st0 4992 rfl (ok (mv (.ref 4289 v20.length 0 v20.length))) ?_
            refine st0 5056 rfl (ok (lenR _ _ _ _)) ?_
            obtain ⟨y48, h49, h⟩ := bind_inv h
            refine st1 5120 rfl (mem' := [(1792, .var .mine [.d ((eL 1 eI) y48.2.l), .d (eI y48.2.atX)]), (4289, .row true 2 (v20.map eTApiShare))]) (call_ok (v := .d (eI y48.1)) (u := [(1792, .var .mine [.d ((eL 1 eI) y48.2.l), .d (eI y48.2.atX)])]) (ar_p rfl rfl (ds_d _ (ds_d _ ds_nil)) (ar_d (eI (v20.length : Int)) ar_nil)) rfl (passkeycastDeckNextOK (TPasskeycastDeck.mk y41.2.l y41.2.atX) (v20.length : Int) y48 h49) rfl) rfl ?_
            refine st1 5184 rfl (mem' := [(5120, .row true 1 (([(0 : Int), (256 : Int), (-1 : Int)] : List (Int)).map eI)), (1792, .var .mine [.d ((eL 1 eI) y48.2.l), .d (eI y48.2.atX)]), (4289, .row true 2 (v20.map eTApiShare))]) (ok (bsl (e := eI) (ys := ([(0 : Int), (256 : Int), (-1 : Int)] : List (Int))) rfl rfl rfl)) rfl ?_
            refine st0 5248 rfl (ok (mv (.ptr 1792 0))) ?_
            obtain ⟨y50, h51, h⟩ := bind_inv h
            refine st1 5312 rfl (mem' := [(1792, .var .mine [.d ((eL 1 eI) y50.2.l), .d (eI y50.2.atX)]), (5120, .row true 1 (([(0 : Int), (256 : Int), (-1 : Int)] : List (Int)).map eI)), (4289, .row true 2 (v20.map eTApiShare))]) (call_ok (v := .d (eI y50.1)) (u := [(1792, .var .mine [.d ((eL 1 eI) y50.2.l), .d (eI y50.2.atX)])]) (ar_p rfl rfl (ds_d _ (ds_d _ ds_nil)) (ar_d (eI (3 : Int)) ar_nil)) rfl (passkeycastDeckNextOK (TPasskeycastDeck.mk y48.2.l y48.2.atX) (3 : Int) y50 h51) rfl) rfl ?_
            obtain ⟨h52, h⟩ := asq_inv h
            refine st0 5376 rfl (ok (iaR (xs := ([(0 : Int), (256 : Int), (-1 : Int)] : List (Int))) (e := eI) rfl rfl h52)) ?_
            refine st0 5440 rfl (ok (ld_r (e := eI) (xs := ([(0 : Int), (256 : Int), (-1 : Int)] : List (Int))) (0 : Int) rfl rfl (by have := h52; simp at this ⊢; omega) rfl)) ?_
            obtain ⟨h53, h⟩ := asq_inv h
            refine st0 5504 rfl (ok (iaR (xs := v20) (e := eTApiShare) rfl rfl h53)) ?_
            refine st0 5568 rfl (ok (fa_rk 0 rfl)) ?_
            refine stn 5632 rfl (mem' := [(4289, .row true 2 ((v20.set (0 + y48.1.toNat) ({ (v20.getD (0 + y48.1.toNat) (TApiShare.mk (0 : Int) ([] : List (BitVec 8)))) with X := (([(0 : Int), (256 : Int), (-1 : Int)] : List (Int)).getD (0 + y50.1.toNat) (0 : Int)) })).map eTApiShare)), (1792, .var .mine [.d ((eL 1 eI) y50.2.l), .d (eI y50.2.atX)]), (5120, .row true 1 (([(0 : Int), (256 : Int), (-1 : Int)] : List (Int)).map eI))]) (ok (sto_rp (e := eTApiShare) (xs := v20) (y := eI (([(0 : Int), (256 : Int), (-1 : Int)] : List (Int)).getD (0 + y50.1.toNat) (0 : Int))) (x' := ({ (v20.getD (0 + y48.1.toNat) (TApiShare.mk (0 : Int) ([] : List (BitVec 8)))) with X := (([(0 : Int), (256 : Int), (-1 : Int)] : List (Int)).getD (0 + y50.1.toNat) (0 : Int)) })) (TApiShare.mk (0 : Int) ([] : List (BitVec 8))) rfl rfl (by have := h53; simp at this ⊢; omega) rfl rfl rfl rfl rfl)) rfl ?_
            refine hK47 _ _ ?_
            simp only [thenK, blockK, keepE, updM, List.filter_cons, List.filter_nil, List.nil_append, List.cons_append, List.map_cons, List.map_nil, envE, Mem.get, Nat.reduceEqDiff, reduceIte, Option.isNone_none, Option.isNone_some, Bool.false_eq_true, List.length_cons, List.length_nil, Nat.reduceAdd, Nat.reduceMul]
            refine hK43 _ _ _ ?_
            exact hK23 _ _ _ ⟨_, _, Settled.refl, _, _, ⟨_, h, rfl, rfl⟩, (by refine ⟨rfl, ⟨⟨?_, rfl⟩, ⟨⟨?_, rfl⟩, ⟨⟨?_, rfl⟩, trivial⟩⟩⟩, ⟨⟨?_, rfl⟩, trivial⟩⟩ <;> first | rfl | (exact refEq rfl (by simp) rfl (by simp)) | simp [envE, Mem.get, liftE, liftV, rhoOf, rhoE, rhoM, appN, PV.refs, PV.refsL, Blk.refs, PV.ren, PV.renL, Blk.ren]), rfl⟩
          · replace h := ite_f h h46
            refine rwp_f (isF h46) ?_
            refine rwp_seq fun K54 hK54 => ?_
            refine rwp_region fun K55 hK55 => ?_
            refine st0 4864 rfl (ok (eqlI _ (1 : Int))) ?_
            refine st0 4928 rfl (ok (mv (.d (eB (y41.1 == (1 : Int)))))) ?_
            refine hK55 _ _ ?_
            simp only [thenK, blockK, keepE, updM, List.filter_cons, List.filter_nil, List.nil_append, List.cons_append, List.map_cons, List.map_nil, envE, Mem.get, Nat.reduceEqDiff, reduceIte, Option.isNone_none, Option.isNone_some, Bool.false_eq_true, List.length_cons, List.length_nil, Nat.reduceAdd, Nat.reduceMul]
            refine hK54 _ _ _ ?_
            rcases Bool.eq_false_or_eq_true ((y41.1 == (1 : Int))) with h56 | h56
            · replace h := ite_t h h56
              refine rwp_t (isT h56) ?_
              refine rwp_seq fun K57 hK57 => ?_
              refine rwp_region fun K58 hK58 => ?_
              refine st0 4992 rfl (ok (mv (.ptr 1792 0))) ?_
              refine st0 5056 rfl (ok (mv (.ref 4289 v20.length 0 v20.length))) ?_
              refine st0 5120 rfl (ok (lenR _ _ _ _)) ?_
              obtain ⟨y59, h60, h⟩ := bind_inv h
              refine st1 5184 rfl (mem' := [(1792, .var .mine [.d ((eL 1 eI) y59.2.l), .d (eI y59.2.atX)]), (4289, .row true 2 (v20.map eTApiShare))]) (call_ok (v := .d (eI y59.1)) (u := [(1792, .var .mine [.d ((eL 1 eI) y59.2.l), .d (eI y59.2.atX)])]) (ar_p rfl rfl (ds_d _ (ds_d _ ds_nil)) (ar_d (eI (v20.length : Int)) ar_nil)) rfl (passkeycastDeckNextOK (TPasskeycastDeck.mk y41.2.l y41.2.atX) (v20.length : Int) y59 h60) rfl) rfl ?_
              refine st0 5248 rfl (ok (mv (.d (eI y59.1)))) ?_
              refine hK58 _ _ ?_
              simp only [thenK, blockK, keepE, updM, List.filter_cons, List.filter_nil, List.nil_append, List.cons_append, List.map_cons, List.map_nil, envE, Mem.get, Nat.reduceEqDiff, reduceIte, Option.isNone_none, Option.isNone_some, Bool.false_eq_true, List.length_cons, List.length_nil, Nat.reduceAdd, Nat.reduceMul]
              refine hK57 _ _ _ ?_
              refine rwp_draw fun K61 hK61 => ?_
              refine dr0 5312 rfl (ok (mv (.ref 4289 v20.length 0 v20.length))) (by kernel_rfl) ?_
              refine dr0 5376 rfl (ok (mv (.d (eI y59.1)))) (by kernel_rfl) ?_
              refine dr0 5440 rfl (ok (mv (.ref 4289 v20.length 0 v20.length))) (by kernel_rfl) ?_
              refine dr0 5504 rfl (ok (mv (.d (eI y59.1)))) (by kernel_rfl) ?_
              obtain ⟨h62, h⟩ := asq_inv h
              refine dr0 5568 rfl (ok (iaR (xs := v20) (e := eTApiShare) rfl rfl h62)) (by kernel_rfl) ?_
              refine dr0 5632 rfl (ok (fa_rk 1 rfl)) (by kernel_rfl) ?_
              refine dr0 5696 rfl (ok (ld_rp (e := eTApiShare) (xs := v20) (v := (eL 1 eU8) ((v20.getD (0 + y59.1.toNat) (TApiShare.mk (0 : Int) ([] : List (BitVec 8)))).Data)) (TApiShare.mk (0 : Int) ([] : List (BitVec 8))) rfl rfl (by have := h62; simp at this ⊢; omega) rfl rfl rfl rfl)) (by kernel_rfl) ?_
              refine dr0 5760 rfl (ok (mv (.ptr 1792 0))) (by kernel_rfl) ?_
              obtain ⟨y63, h64, h⟩ := bind_inv h
              refine dr1 5824 rfl (mem' := [(1792, .var .mine [.d ((eL 1 eI) y63.2.l), .d (eI y63.2.atX)]), (4289, .row true 2 (v20.map eTApiShare))]) (call_ok (v := .d (eI y63.1)) (u := [(1792, .var .mine [.d ((eL 1 eI) y63.2.l), .d (eI y63.2.atX)])]) (ar_p rfl rfl (ds_d _ (ds_d _ ds_nil)) (ar_d (eI (4 : Int)) ar_nil)) rfl (passkeycastDeckNextOK (TPasskeycastDeck.mk y59.2.l y59.2.atX) (4 : Int) y63 h64) rfl) rfl (by kernel_rfl) ?_
              obtain ⟨h65, h⟩ := asq_inv h
              obtain ⟨v66, h67, h⟩ := lett_inv h
              refine dr0e 5888 rfl (ok (slL_h (xs := ((v20.getD (0 + y59.1.toNat) (TApiShare.mk (0 : Int) ([] : List (BitVec 8)))).Data)) (e := eU8) h65)) (congrArg (fun z => PV.d ((eL 1 eU8) z)) h67) (by kernel_rfl) ?_
              obtain ⟨h68, h⟩ := asq_inv h
              refine dr0 5952 rfl (ok (iaR (xs := v20) (e := eTApiShare) rfl rfl h68)) (by kernel_rfl) ?_
              refine dr0 6016 rfl (ok (fa_rk 1 rfl)) (by kernel_rfl) ?_
              refine drn 6080 rfl (mem' := [(4289, .row true 2 ((v20.set (0 + y59.1.toNat) ({ (v20.getD (0 + y59.1.toNat) (TApiShare.mk (0 : Int) ([] : List (BitVec 8)))) with Data := v66 })).map eTApiShare)), (1792, .var .mine [.d ((eL 1 eI) y63.2.l), .d (eI y63.2.atX)])]) (ok (sto_rp (e := eTApiShare) (xs := v20) (y := (eL 1 eU8) v66) (x' := ({ (v20.getD (0 + y59.1.toNat) (TApiShare.mk (0 : Int) ([] : List (BitVec 8)))) with Data := v66 })) (TApiShare.mk (0 : Int) ([] : List (BitVec 8))) rfl rfl (by have := h68; simp at this ⊢; omega) rfl rfl rfl rfl rfl)) rfl (by kernel_rfl) ?_
              refine hK61 _ _ ?_
              simp only [thenK, blockK, keepE, updM, List.filter_cons, List.filter_nil, List.nil_append, List.cons_append, List.map_cons, List.map_nil, envE, Mem.get, Nat.reduceEqDiff, reduceIte, Option.isNone_none, Option.isNone_some, Bool.false_eq_true, List.length_cons, List.length_nil, Nat.reduceAdd, Nat.reduceMul]
              refine hK43 _ _ _ ?_
              exact hK23 _ _ _ ⟨_, _, Settled.refl, _, _, ⟨_, h, rfl, rfl⟩, (by refine ⟨rfl, ⟨⟨?_, rfl⟩, ⟨⟨?_, rfl⟩, ⟨⟨?_, rfl⟩, trivial⟩⟩⟩, ⟨⟨?_, rfl⟩, trivial⟩⟩ <;> first | rfl | (exact refEq rfl (by simp) rfl (by simp)) | simp [envE, Mem.get, liftE, liftV, rhoOf, rhoE, rhoM, appN, PV.refs, PV.refsL, Blk.refs, PV.ren, PV.renL, Blk.ren]), rfl⟩
            · replace h := ite_f h h56
              refine rwp_f (isF h56) ?_
              refine rwp_seq fun K69 hK69 => ?_
              refine rwp_region fun K70 hK70 => ?_
              refine st0 4992 rfl (ok (eqlI _ (2 : Int))) ?_
              refine st0 5056 rfl (ok (mv (.d (eB (y41.1 == (2 : Int)))))) ?_
              refine hK70 _ _ ?_
              simp only [thenK, blockK, keepE, updM, List.filter_cons, List.filter_nil, List.nil_append, List.cons_append, List.map_cons, List.map_nil, envE, Mem.get, Nat.reduceEqDiff, reduceIte, Option.isNone_none, Option.isNone_some, Bool.false_eq_true, List.length_cons, List.length_nil, Nat.reduceAdd, Nat.reduceMul]
              refine hK69 _ _ _ ?_
              rcases Bool.eq_false_or_eq_true ((y41.1 == (2 : Int))) with h71 | h71
              · replace h := ite_t h h71
                refine rwp_t (isT h71) ?_
                refine rwp_region fun K72 hK72 => ?_
                refine st0 5120 rfl (ok (mv (.ref 4289 v20.length 0 v20.length))) ?_
                obtain ⟨y73, h74, h⟩ := bind_inv h
                refine st0 5184 rfl (call_ok (v := .d ((eL 1 eU8) y73)) (u := []) (ar_d (eI (1 : Int)) (ar_d (eI (65 : Int)) ar_nil)) rfl (passkeycastBytesOK (1 : Int) (65 : Int) y73 h74) rfl) ?_
                obtain ⟨h75, h⟩ := asq_inv h
                refine st0 5248 rfl (ok (iaR (xs := v20) (e := eTApiShare) rfl rfl h75)) ?_
                refine st0 5312 rfl (ok (fa_rk 1 rfl)) ?_
                refine stn 5376 rfl (mem' := [(4289, .row true 2 ((v20.set (0 + (0 : Int).toNat) ({ (v20.getD (0 + (0 : Int).toNat) (TApiShare.mk (0 : Int) ([] : List (BitVec 8)))) with Data := y73 })).map eTApiShare)), (1792, .var .mine [.d ((eL 1 eI) y41.2.l), .d (eI y41.2.atX)])]) (ok (sto_rp (e := eTApiShare) (xs := v20) (y := (eL 1 eU8) y73) (x' := ({ (v20.getD (0 + (0 : Int).toNat) (TApiShare.mk (0 : Int) ([] : List (BitVec 8)))) with Data := y73 })) (TApiShare.mk (0 : Int) ([] : List (BitVec 8))) rfl rfl (by have := h75; simp at this ⊢; omega) rfl rfl rfl rfl rfl)) rfl ?_
                refine hK72 _ _ ?_
                simp only [thenK, blockK, keepE, updM, List.filter_cons, List.filter_nil, List.nil_append, List.cons_append, List.map_cons, List.map_nil, envE, Mem.get, Nat.reduceEqDiff, reduceIte, Option.isNone_none, Option.isNone_some, Bool.false_eq_true, List.length_cons, List.length_nil, Nat.reduceAdd, Nat.reduceMul]
                refine hK43 _ _ _ ?_
                exact hK23 _ _ _ ⟨_, _, Settled.refl, _, _, ⟨_, h, rfl, rfl⟩, (by refine ⟨rfl, ⟨⟨?_, rfl⟩, ⟨⟨?_, rfl⟩, ⟨⟨?_, rfl⟩, trivial⟩⟩⟩, ⟨⟨?_, rfl⟩, trivial⟩⟩ <;> first | rfl | (exact refEq rfl (by simp) rfl (by simp)) | simp [envE, Mem.get, liftE, liftV, rhoOf, rhoE, rhoM, appN, PV.refs, PV.refsL, Blk.refs, PV.ren, PV.renL, Blk.ren]), rfl⟩
              · replace h := ite_f h h71
                refine rwp_f (isF h71) ?_
                refine rwp_skip ?_
                refine hK43 _ _ _ ?_
                exact hK23 _ _ _ ⟨_, _, Settled.refl, _, _, ⟨_, h, rfl, rfl⟩, ⟨rfl, ⟨⟨rfl, rfl⟩, ⟨⟨rfl, rfl⟩, ⟨⟨rfl, rfl⟩, trivial⟩⟩⟩, ⟨⟨rfl, rfl⟩, trivial⟩⟩, rfl⟩
      · refine rwp_seq fun K76 hK76 => ?_
        refine rwp_region fun K77 hK77 => ?_
        refine st0 2048 rfl (ok (mv (.ptr 1792 0))) ?_
        obtain ⟨y78, h79, h⟩ := bind_inv h
        refine st1 2112 rfl (mem' := [(1792, .var .mine [.d ((eL 1 eI) y78.2.l), .d (eI y78.2.atX)])]) (call_ok (v := .d (eI y78.1)) (u := [(1792, .var .mine [.d ((eL 1 eI) y78.2.l), .d (eI y78.2.atX)])]) (ar_p rfl rfl (ds_d _ (ds_d _ ds_nil)) (ar_d (eI (6 : Int)) ar_nil)) rfl (passkeycastDeckNextOK (TPasskeycastDeck.mk y14.l y14.atX) (6 : Int) y78 h79) rfl) rfl ?_
        refine st0 2176 rfl (ok (addI (1 : Int) _)) ?_
        refine st0 2240 rfl (ok (mv (.d (eI (w64 ((1 : Int) + y78.1)))))) ?_
        refine hK77 _ _ ?_
        simp only [thenK, blockK, keepE, updM, List.filter_cons, List.filter_nil, List.nil_append, List.cons_append, List.map_cons, List.map_nil, envE, Mem.get, Nat.reduceEqDiff, reduceIte, Option.isNone_none, Option.isNone_some, Bool.false_eq_true, List.length_cons, List.length_nil, Nat.reduceAdd, Nat.reduceMul]
        refine hK76 _ _ _ ?_
        refine rwp_block fun K80 hK80 => ?_
        refine rwp_loop ([(9, 4289)], []) 4352 (fun k env mem => ∃ (v81 : List (Int)) (v82 : Int) (v83 : List (TApiShare)) (v84 : Int), passkeylaw37SharingValuesL4 a0 a1 k v81 v82 v83 v84 = some res ∧ env = [(0, .d ((eL 2 eTApiShare) a0)), (1, .d (eI a1)), (8, .ptr 1792 0), (9, .ref 4289 v83.length 0 v83.length), (10, .d (eI v84))] ∧ mem = [(1792, .var .mine [.d ((eL 1 eI) v81), .d (eI v82)]), (4289, .row true 2 (v83.map eTApiShare))]) FUEL ⟨_, _, Settled.refl, _, _, ⟨_, _, _, _, h, rfl, rfl⟩, ⟨rfl, ⟨⟨rfl, rfl⟩, ⟨⟨rfl, rfl⟩, ⟨⟨rfl, rfl⟩, ⟨⟨rfl, rfl⟩, ⟨⟨rfl, rfl⟩, trivial⟩⟩⟩⟩⟩, ⟨⟨rfl, rfl⟩, ⟨⟨rfl, rfl⟩, trivial⟩⟩⟩, rfl⟩ (fun k4 env1 mem1 hI K85 hK85 => ?_)
        obtain ⟨v81, v82, v83, v84, h, rfl, rfl⟩ := hI
        cases k4 with
        | zero => simp [passkeylaw37SharingValuesL4] at h
        | succ k4 =>
          rw [passkeylaw37SharingValuesL4] at h
          refine rwp_seq fun K86 hK86 => ?_
          refine rwp_seq fun K87 hK87 => ?_
          refine rwp_region fun K88 hK88 => ?_
          refine st0 4416 rfl (ok (mv (.d (eI v84)))) ?_
          refine st0 4480 rfl (ok (gtrI _ (0 : Int))) ?_
          refine hK88 _ _ ?_
          simp only [thenK, blockK, keepE, updM, List.filter_cons, List.filter_nil, List.nil_append, List.cons_append, List.map_cons, List.map_nil, envE, Mem.get, Nat.reduceEqDiff, reduceIte, Option.isNone_none, Option.isNone_some, Bool.false_eq_true, List.length_cons, List.length_nil, Nat.reduceAdd, Nat.reduceMul]
          refine hK87 _ _ _ ?_
          rcases Bool.eq_false_or_eq_true ((decide ((0 : Int) < v84))) with h89 | h89
          · replace h := ite_t h h89
            refine rwp_t (isT h89) ?_
            refine rwp_skip ?_
            refine hK86 _ _ _ ?_
            refine rwp_seq fun K90 hK90 => ?_
            refine rwp_block fun K91 hK91 => ?_
            refine rwp_draw fun K92 hK92 => ?_
            refine dr0 4544 rfl (ok (mv (.ref 4289 v83.length 0 v83.length))) (by kernel_rfl) ?_
            refine dr0 4608 rfl (ok (mv (.ptr 1792 0))) (by kernel_rfl) ?_
            obtain ⟨y93, h94, h⟩ := bind_inv h
            refine dr1 4672 rfl (mem' := [(1792, .var .mine [.d ((eL 1 eI) y93.2.l), .d (eI y93.2.atX)]), (4289, .row true 2 (v83.map eTApiShare))]) (call_ok (v := .d (eI y93.1)) (u := [(1792, .var .mine [.d ((eL 1 eI) y93.2.l), .d (eI y93.2.atX)])]) (ar_p rfl rfl (ds_d _ (ds_d _ ds_nil)) (ar_d (eI (255 : Int)) ar_nil)) rfl (passkeycastDeckNextOK (TPasskeycastDeck.mk v81 v82) (255 : Int) y93 h94) rfl) rfl (by kernel_rfl) ?_
            refine dr0 4736 rfl (ok (addI (1 : Int) _)) (by kernel_rfl) ?_
            refine dr0 4800 rfl (ok (mv (.ptr 1792 0))) (by kernel_rfl) ?_
            obtain ⟨y95, h96, h⟩ := bind_inv h
            refine dr1 4864 rfl (mem' := [(1792, .var .mine [.d ((eL 1 eI) y95.2.l), .d (eI y95.2.atX)]), (4289, .row true 2 (v83.map eTApiShare))]) (call_ok (v := .d (eI y95.1)) (u := [(1792, .var .mine [.d ((eL 1 eI) y95.2.l), .d (eI y95.2.atX)])]) (ar_p rfl rfl (ds_d _ (ds_d _ ds_nil)) (ar_d (eI (6 : Int)) ar_nil)) rfl (passkeycastDeckNextOK (TPasskeycastDeck.mk y93.2.l y93.2.atX) (6 : Int) y95 h96) rfl) rfl (by kernel_rfl) ?_
            refine dr0 4928 rfl (ok (addI (1 : Int) _)) (by kernel_rfl) ?_
            refine dr0 4992 rfl (ok (mv (.ref 4289 v83.length 0 v83.length))) (by kernel_rfl) ?_
            refine dr0 5056 rfl (ok (lenR _ _ _ _)) (by kernel_rfl) ?_
            refine dr0 5120 rfl (ok (addI _ (1 : Int))) (by kernel_rfl) ?_
            refine dr0 5184 rfl (ok (mv (.ref 4289 v83.length 0 v83.length))) (by kernel_rfl) ?_
            refine dr0 5248 rfl (ok (lenR _ _ _ _)) (by kernel_rfl) ?_
            refine dr0 5312 rfl (ok (addI _ (1 : Int))) (by kernel_rfl) ?_
            refine dr1 5376 rfl (mem' := [(5312, .row true 1 (([(w64 ((1 : Int) + y93.1)), (w64 ((1 : Int) + y95.1)), (w64 ((v83.length : Int) + (1 : Int))), (w64 ((v83.length : Int) + (1 : Int)))] : List (Int)).map eI)), (1792, .var .mine [.d ((eL 1 eI) y95.2.l), .d (eI y95.2.atX)]), (4289, .row true 2 (v83.map eTApiShare))]) (ok (bsl (e := eI) (ys := ([(w64 ((1 : Int) + y93.1)), (w64 ((1 : Int) + y95.1)), (w64 ((v83.length : Int) + (1 : Int))), (w64 ((v83.length : Int) + (1 : Int)))] : List (Int))) rfl rfl rfl)) rfl (by kernel_rfl) ?_
            refine dr0 5440 rfl (ok (mv (.ptr 1792 0))) (by kernel_rfl) ?_
            obtain ⟨y97, h98, h⟩ := bind_inv h
            refine dr1 5504 rfl (mem' := [(1792, .var .mine [.d ((eL 1 eI) y97.2.l), .d (eI y97.2.atX)]), (5312, .row true 1 (([(w64 ((1 : Int) + y93.1)), (w64 ((1 : Int) + y95.1)), (w64 ((v83.length : Int) + (1 : Int))), (w64 ((v83.length : Int) + (1 : Int)))] : List (Int)).map eI)), (4289, .row true 2 (v83.map eTApiShare))]) (call_ok (v := .d (eI y97.1)) (u := [(1792, .var .mine [.d ((eL 1 eI) y97.2.l), .d (eI y97.2.atX)])]) (ar_p rfl rfl (ds_d _ (ds_d _ ds_nil)) (ar_d (eI (4 : Int)) ar_nil)) rfl (passkeycastDeckNextOK (TPasskeycastDeck.mk y95.2.l y95.2.atX) (4 : Int) y97 h98) rfl) rfl (by kernel_rfl) ?_
            obtain ⟨h99, h⟩ := asq_inv h
            refine dr0 5568 rfl (ok (iaR (xs := ([(w64 ((1 : Int) + y93.1)), (w64 ((1 : Int) + y95.1)), (w64 ((v83.length : Int) + (1 : Int))), (w64 ((v83.length : Int) + (1 : Int)))] : List (Int))) (e := eI) rfl rfl h99)) (by kernel_rfl) ?_
            refine dr0 5632 rfl (ok (ld_r (e := eI) (xs := ([(w64 ((1 : Int) + y93.1)), (w64 ((1 : Int) + y95.1)), (w64 ((v83.length : Int) + (1 : Int))), (w64 ((v83.length : Int) + (1 : Int)))] : List (Int))) (0 : Int) rfl rfl (by have := h99; simp at this ⊢; omega) rfl)) (by kernel_rfl) ?_
            refine dr0 5696 rfl (ok (mv (.ptr 1792 0))) (by kernel_rfl) ?_
            obtain ⟨y100, h101, h⟩ := bind_inv h
            refine dr1 5760 rfl (mem' := [(1792, .var .mine [.d ((eL 1 eI) y100.2.l), .d (eI y100.2.atX)]), (5312, .row true 1 (([(w64 ((1 : Int) + y93.1)), (w64 ((1 : Int) + y95.1)), (w64 ((v83.length : Int) + (1 : Int))), (w64 ((v83.length : Int) + (1 : Int)))] : List (Int)).map eI)), (4289, .row true 2 (v83.map eTApiShare))]) (call_ok (v := .d (eI y100.1)) (u := [(1792, .var .mine [.d ((eL 1 eI) y100.2.l), .d (eI y100.2.atX)])]) (ar_p rfl rfl (ds_d _ (ds_d _ ds_nil)) (ar_d (eI (9 : Int)) ar_nil)) rfl (passkeycastDeckNextOK (TPasskeycastDeck.mk y97.2.l y97.2.atX) (9 : Int) y100 h101) rfl) rfl (by kernel_rfl) ?_
            obtain ⟨y102, h103, h⟩ := bind_inv h
            refine dr0 5824 rfl (call_ok (v := .d ((eL 1 eU8) y102)) (u := []) (ar_d (eI y100.1) (ar_d (eI (3 : Int)) ar_nil)) rfl (passkeycastBytesOK y100.1 (3 : Int) y102 h103) rfl) (by kernel_rfl) ?_
            refine dr0 5888 rfl (ok (bld (v := .d (.agg [eI (([(w64 ((1 : Int) + y93.1)), (w64 ((1 : Int) + y95.1)), (w64 ((v83.length : Int) + (1 : Int))), (w64 ((v83.length : Int) + (1 : Int)))] : List (Int)).getD (0 + y97.1.toNat) (0 : Int)), (eL 1 eU8) y102])) rfl rfl)) (by kernel_rfl) ?_
            refine dr1 5952 rfl (mem' := [(5888, .row true 2 (([(TApiShare.mk (([(w64 ((1 : Int) + y93.1)), (w64 ((1 : Int) + y95.1)), (w64 ((v83.length : Int) + (1 : Int))), (w64 ((v83.length : Int) + (1 : Int)))] : List (Int)).getD (0 + y97.1.toNat) (0 : Int)) y102)] : List (TApiShare)).map eTApiShare)), (1792, .var .mine [.d ((eL 1 eI) y100.2.l), .d (eI y100.2.atX)]), (5312, .row true 1 (([(w64 ((1 : Int) + y93.1)), (w64 ((1 : Int) + y95.1)), (w64 ((v83.length : Int) + (1 : Int))), (w64 ((v83.length : Int) + (1 : Int)))] : List (Int)).map eI)), (4289, .row true 2 (v83.map eTApiShare))]) (ok (bsl (e := eTApiShare) (ys := ([(TApiShare.mk (([(w64 ((1 : Int) + y93.1)), (w64 ((1 : Int) + y95.1)), (w64 ((v83.length : Int) + (1 : Int))), (w64 ((v83.length : Int) + (1 : Int)))] : List (Int)).getD (0 + y97.1.toNat) (0 : Int)) y102)] : List (TApiShare))) rfl rfl rfl)) rfl (by kernel_rfl) ?_
            obtain ⟨h104, h⟩ := asq_inv h
            refine dr1 6016 rfl (mem' := [(4289, .row true 2 ((v83 ++ ([(TApiShare.mk (([(w64 ((1 : Int) + y93.1)), (w64 ((1 : Int) + y95.1)), (w64 ((v83.length : Int) + (1 : Int))), (w64 ((v83.length : Int) + (1 : Int)))] : List (Int)).getD (0 + y97.1.toNat) (0 : Int)) y102)] : List (TApiShare))).map eTApiShare)), (5888, .row true 2 (([(TApiShare.mk (([(w64 ((1 : Int) + y93.1)), (w64 ((1 : Int) + y95.1)), (w64 ((v83.length : Int) + (1 : Int))), (w64 ((v83.length : Int) + (1 : Int)))] : List (Int)).getD (0 + y97.1.toNat) (0 : Int)) y102)] : List (TApiShare)).map eTApiShare)), (1792, .var .mine [.d ((eL 1 eI) y100.2.l), .d (eI y100.2.atX)]), (5312, .row true 1 (([(w64 ((1 : Int) + y93.1)), (w64 ((1 : Int) + y95.1)), (w64 ((v83.length : Int) + (1 : Int))), (w64 ((v83.length : Int) + (1 : Int)))] : List (Int)).map eI))]) (ok (appR (e := eTApiShare) (xs := v83) (ys := ([(TApiShare.mk (([(w64 ((1 : Int) + y93.1)), (w64 ((1 : Int) + y95.1)), (w64 ((v83.length : Int) + (1 : Int))), (w64 ((v83.length : Int) + (1 : Int)))] : List (Int)).getD (0 + y97.1.toNat) (0 : Int)) y102)] : List (TApiShare))) (contR (xs := ([(TApiShare.mk (([(w64 ((1 : Int) + y93.1)), (w64 ((1 : Int) + y95.1)), (w64 ((v83.length : Int) + (1 : Int))), (w64 ((v83.length : Int) + (1 : Int)))] : List (Int)).getD (0 + y97.1.toNat) (0 : Int)) y102)] : List (TApiShare))) rfl rfl rfl) rfl rfl rfl h104)) rfl (by kernel_rfl) ?_
            refine dr0 6080 rfl (ok (mv (.ref 4289 (((v83 ++ ([(TApiShare.mk (([(w64 ((1 : Int) + y93.1)), (w64 ((1 : Int) + y95.1)), (w64 ((v83.length : Int) + (1 : Int))), (w64 ((v83.length : Int) + (1 : Int)))] : List (Int)).getD (0 + y97.1.toNat) (0 : Int)) y102)] : List (TApiShare)))).length) 0 (((v83 ++ ([(TApiShare.mk (([(w64 ((1 : Int) + y93.1)), (w64 ((1 : Int) + y95.1)), (w64 ((v83.length : Int) + (1 : Int))), (w64 ((v83.length : Int) + (1 : Int)))] : List (Int)).getD (0 + y97.1.toNat) (0 : Int)) y102)] : List (TApiShare)))).length)))) (by kernel_rfl) ?_
            refine hK92 _ _ ?_
            simp only [thenK, blockK, keepE, updM, List.filter_cons, List.filter_nil, List.nil_append, List.cons_append, List.map_cons, List.map_nil, envE, Mem.get, Nat.reduceEqDiff, reduceIte, Option.isNone_none, Option.isNone_some, Bool.false_eq_true, List.length_cons, List.length_nil, Nat.reduceAdd, Nat.reduceMul]
            refine hK91 _ _ _ ?_
            refine hK90 _ _ _ ?_
            refine rwp_region fun K105 hK105 => ?_
            refine st0 6144 rfl (ok (mv (.d (eI v84)))) ?_
            refine st0 6208 rfl (ok (subI _ (1 : Int))) ?_
            refine st0 6272 rfl (ok (mv (.d (eI (w64 (v84 - (1 : Int))))))) ?_
            refine hK105 _ _ ?_
            simp only [thenK, blockK, keepE, updM, List.filter_cons, List.filter_nil, List.nil_append, List.cons_append, List.map_cons, List.map_nil, envE, Mem.get, Nat.reduceEqDiff, reduceIte, Option.isNone_none, Option.isNone_some, Bool.false_eq_true, List.length_cons, List.length_nil, Nat.reduceAdd, Nat.reduceMul]
            exact hK85.out _ _ _ k4 (Nat.lt_succ_self k4) ⟨_, _, Settled.refl, _, _, ⟨_, _, _, _, h, rfl, rfl⟩, ⟨rfl, ⟨⟨rfl, rfl⟩, ⟨⟨rfl, rfl⟩, ⟨⟨rfl, rfl⟩, ⟨⟨rfl, rfl⟩, ⟨⟨rfl, rfl⟩, trivial⟩⟩⟩⟩⟩, ⟨⟨rfl, rfl⟩, ⟨⟨rfl, rfl⟩, trivial⟩⟩⟩, rfl⟩
          · replace h := ite_f h h89
            refine rwp_f (isF h89) ?_
            refine rwp_exit ?_
            refine hK80 _ _ _ ?_
            exact hK21 _ _ _ ⟨_, _, Settled.refl, _, _, ⟨_, _, _, h, rfl, rfl⟩, ⟨rfl, ⟨⟨rfl, rfl⟩, ⟨⟨rfl, rfl⟩, ⟨⟨rfl, rfl⟩, ⟨⟨rfl, rfl⟩, trivial⟩⟩⟩⟩, ⟨⟨rfl, rfl⟩, ⟨⟨rfl, rfl⟩, trivial⟩⟩⟩, rfl⟩
    · refine rwp_seq fun K106 hK106 => ?_
      refine rwp_region fun K107 hK107 => ?_
      refine st0 384 rfl (ok (mv (.d (eI (0 : Int))))) ?_
      refine hK107 _ _ ?_
      simp only [thenK, blockK, keepE, updM, List.filter_cons, List.filter_nil, List.nil_append, List.cons_append, List.map_cons, List.map_nil, envE, Mem.get, Nat.reduceEqDiff, reduceIte, Option.isNone_none, Option.isNone_some, Bool.false_eq_true, List.length_cons, List.length_nil, Nat.reduceAdd, Nat.reduceMul]
      refine hK106 _ _ _ ?_
      refine rwp_block fun K108 hK108 => ?_
      refine rwp_loop ([], []) 1408 (fun k env mem => ∃ (v109 : Int), passkeylaw37SharingValuesL5 a0 a1 a2 k v109 = some res ∧ env = [(0, .d ((eL 2 eTApiShare) a0)), (1, .d (eI a1)), (2, .d ((eL 1 eI) a2)), (7, .d (eI v109))] ∧ mem = []) FUEL ⟨_, _, Settled.refl, _, _, ⟨_, h, rfl, rfl⟩, ⟨rfl, ⟨⟨rfl, rfl⟩, ⟨⟨rfl, rfl⟩, ⟨⟨rfl, rfl⟩, ⟨⟨rfl, rfl⟩, trivial⟩⟩⟩⟩, trivial⟩, rfl⟩ (fun k5 env1 mem1 hI K110 hK110 => ?_)
      obtain ⟨v109, h, rfl, rfl⟩ := hI
      cases k5 with
      | zero => simp [passkeylaw37SharingValuesL5] at h
      | succ k5 =>
        rw [passkeylaw37SharingValuesL5] at h
        refine rwp_seq fun K111 hK111 => ?_
        refine rwp_seq fun K112 hK112 => ?_
        refine rwp_region fun K113 hK113 => ?_
        refine st0 1472 rfl (ok (mv (.d (eI v109)))) ?_
        refine st0 1536 rfl (ok (mv (.d ((eL 2 eTApiShare) a0)))) ?_
        refine st0 1600 rfl (ok (lenL _ _)) ?_
        refine st0 1664 rfl (ok (lssI _ _)) ?_
        refine hK113 _ _ ?_
        simp only [thenK, blockK, keepE, updM, List.filter_cons, List.filter_nil, List.nil_append, List.cons_append, List.map_cons, List.map_nil, envE, Mem.get, Nat.reduceEqDiff, reduceIte, Option.isNone_none, Option.isNone_some, Bool.false_eq_true, List.length_cons, List.length_nil, Nat.reduceAdd, Nat.reduceMul]
        refine hK112 _ _ _ ?_
        rcases Bool.eq_false_or_eq_true ((decide (v109 < (a0.length : Int)))) with h114 | h114
        · replace h := ite_t h h114
          refine rwp_t (isT h114) ?_
          refine rwp_skip ?_
          refine hK111 _ _ _ ?_
          refine rwp_seq fun K115 hK115 => ?_
          refine rwp_block fun K116 hK116 => ?_
          refine rwp_seq fun K117 hK117 => ?_
          refine rwp_region fun K118 hK118 => ?_
          refine st0 1728 rfl (ok (mv (.d ((eL 2 eTApiShare) a0)))) ?_
          refine st0 1792 rfl (ok (mv (.d (eI v109)))) ?_
          obtain ⟨h119, h⟩ := asq_inv h
          refine st0 1856 rfl (ok (iaL (e := eTApiShare) (xs := a0) (TApiShare.mk (0 : Int) ([] : List (BitVec 8))) h119)) ?_
          refine st0 1920 rfl (ok fa_iptr) ?_
          refine st0 1984 rfl (ok (ld_i (v := (eL 1 eU8) ((a0.getD v109.toNat (TApiShare.mk (0 : Int) ([] : List (BitVec 8)))).Data)) rfl rfl)) ?_
          refine st0 2048 rfl (ok (lenL _ _)) ?_
          refine st0 2112 rfl (ok (gtrI _ (100 : Int))) ?_
          refine hK118 _ _ ?_
          simp only [thenK, blockK, keepE, updM, List.filter_cons, List.filter_nil, List.nil_append, List.cons_append, List.map_cons, List.map_nil, envE, Mem.get, Nat.reduceEqDiff, reduceIte, Option.isNone_none, Option.isNone_some, Bool.false_eq_true, List.length_cons, List.length_nil, Nat.reduceAdd, Nat.reduceMul]
          refine hK117 _ _ _ ?_
          rcases Bool.eq_false_or_eq_true ((decide ((100 : Int) < ((((a0.getD v109.toNat (TApiShare.mk (0 : Int) ([] : List (BitVec 8)))).Data)).length : Int)))) with h120 | h120
          · replace h := ite_t h h120
            refine rwp_t (isT h120) ?_
            refine rwp_seq fun K121 hK121 => ?_
            refine rwp_region fun K122 hK122 => ?_
            obtain ⟨y123, h124, h⟩ := bind_inv h
            refine st0 2176 rfl (call_ok (v := .d (eB y123)) (u := []) ar_nil rfl (passkeylaw37awakeOK  y123 h124) rfl) ?_
            refine st0 2240 rfl (ok (mv (.d (eB y123)))) ?_
            refine hK122 _ _ ?_
            simp only [thenK, blockK, keepE, updM, List.filter_cons, List.filter_nil, List.nil_append, List.cons_append, List.map_cons, List.map_nil, envE, Mem.get, Nat.reduceEqDiff, reduceIte, Option.isNone_none, Option.isNone_some, Bool.false_eq_true, List.length_cons, List.length_nil, Nat.reduceAdd, Nat.reduceMul]
            refine hK121 _ _ _ ?_
            refine rwp_ret ?_
            obtain rfl := Option.some.inj h
            try simp only [thenK, blockK, reduceIte]
            exact Or.inl (end_ok trivial (rs_t (v := .d (eB y123)) rfl rs_nil) (en_d (to_d _) en_nil) ou_nil (by first | exact eok rfl rfl rfl rfl trivial | (refine eok ?_ ?_ ?_ ?_ ?_ <;> first | rfl | exact trivial | simp [retM, Mem.get, PV.renL, PV.ren, Blk.ren, comps, rhoR, rhoM, appN, PV.refsL, PV.refs, keys, nodupB, Blk.refs, allIn, Blk.bor])))
          · replace h := ite_f h h120
            refine rwp_f (isF h120) ?_
            refine rwp_skip ?_
            refine hK116 _ _ _ ?_
            refine hK115 _ _ _ ?_
            refine rwp_region fun K125 hK125 => ?_
            refine st0 2176 rfl (ok (mv (.d (eI v109)))) ?_
            refine st0 2240 rfl (ok (addI _ (1 : Int))) ?_
            refine st0 2304 rfl (ok (mv (.d (eI (w64 (v109 + (1 : Int))))))) ?_
            refine hK125 _ _ ?_
            simp only [thenK, blockK, keepE, updM, List.filter_cons, List.filter_nil, List.nil_append, List.cons_append, List.map_cons, List.map_nil, envE, Mem.get, Nat.reduceEqDiff, reduceIte, Option.isNone_none, Option.isNone_some, Bool.false_eq_true, List.length_cons, List.length_nil, Nat.reduceAdd, Nat.reduceMul]
            exact hK110.out _ _ _ k5 (Nat.lt_succ_self k5) ⟨_, _, Settled.refl, _, _, ⟨_, h, rfl, rfl⟩, ⟨rfl, ⟨⟨rfl, rfl⟩, ⟨⟨rfl, rfl⟩, ⟨⟨rfl, rfl⟩, ⟨⟨rfl, rfl⟩, trivial⟩⟩⟩⟩, trivial⟩, rfl⟩
        · replace h := ite_f h h114
          refine rwp_f (isF h114) ?_
          refine rwp_exit ?_
          refine hK108 _ _ _ ?_
          exact hK11 _ _ _ ⟨_, _, Settled.refl, _, _, ⟨h, rfl, rfl⟩, ⟨rfl, ⟨⟨rfl, rfl⟩, ⟨⟨rfl, rfl⟩, ⟨⟨rfl, rfl⟩, trivial⟩⟩⟩, trivial⟩, rfl⟩

end Go.Proofs.Ty
