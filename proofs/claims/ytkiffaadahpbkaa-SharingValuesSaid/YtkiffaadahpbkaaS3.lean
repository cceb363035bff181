/- Each Go function comes to what its plain function says. PRINTED by a program of this session (ty.py). -/
import Derived.Test.YtkiffaadahpbkaaS2
set_option linter.unusedVariables false
set_option linter.unusedSimpArgs false
set_option maxHeartbeats 4000000
set_option maxRecDepth 10000
namespace Go.Proofs.Ty
open Go Go.RW Go.Proofs
/-- passkey/sharing.Join -/
def sharingJoinH : Hints := ⟨[(0, [0]), (1, [2, 3])], []⟩
def sharingJoinRc : RCode :=
  .seq (.region false [⟨some 2, .mv, [.k (.nil 1)], none, []⟩, ⟨some 3, .mv, [.k (.d (.int .i64 0))], none, []⟩] [0]) (.seq (.region false [⟨some 4, .mv, [.t 0], none, []⟩, ⟨some 5,
  .call 23 true, [.t 4, .k (.d (.int .i64 0))], none, []⟩, ⟨some 6, .ext 0, [.t 5], none, []⟩, ⟨some 7, .ext 1, [.t 5], none, []⟩, ⟨some 2, .mv, [.t 6], none, []⟩, ⟨some 3, .mv,
  [.t 7], none, []⟩] [2, 3]) .ret)
def sharingJoinRr : List RR := [.t 2, .t 3]
theorem sharingJoinC : compFn Try.prog 22 sharingJoinH = some (sharingJoinRc, sharingJoinRr, 8) := by kernel_rfl
theorem sharingJoinOK (a0 : List (TApiShare)) (res : (List (BitVec 8)) × Int) (h : sharingJoin a0 = some res) : CallOK Try.prog 22 [.d ((eL 2 eTApiShare) a0)] [] (.tup [.ref 0 res.1.length 0 res.1.length, .d (eI res.2)]) [(0, .row true 1 (res.1.map eU8))] := by
  unfold sharingJoin at h
  refine callOK sharingJoinC fm rfl ?_
  simp only [initE, initM, nbor, List.map_cons, List.map_nil, Nat.reduceAdd]
  unfold sharingJoinRc
  refine rwp_seq fun K1 hK1 => ?_
  refine rwp_region fun K2 hK2 => ?_
  refine st0 128 rfl (ok (mv (.nil 1))) ?_
  refine st0 192 rfl (ok (mv (.d (eI (0 : Int))))) ?_
  refine hK2 _ _ ?_
  simp only [thenK, blockK, keepE, updM, List.filter_cons, List.filter_nil, List.nil_append, List.cons_append, List.map_cons, List.map_nil, envE, Mem.get, Nat.reduceEqDiff, reduceIte, Option.isNone_none, Option.isNone_some, Bool.false_eq_true, List.length_cons, List.length_nil, Nat.reduceAdd, Nat.reduceMul]
  refine hK1 _ _ _ ?_
  refine rwp_seq fun K3 hK3 => ?_
  refine rwp_region fun K4 hK4 => ?_
  refine st0 256 rfl (ok (mv (.d ((eL 2 eTApiShare) a0)))) ?_
  obtain ⟨y5, h6, h⟩ := bind_inv h
  refine st1 320 rfl (mem' := [(256, .row true 1 (y5.1.map eU8))]) (call_ok (v := .tup [.ref 256 y5.1.length 0 y5.1.length, .d (eI y5.2)]) (u := [(256, .row true 1 (y5.1.map eU8))]) (ar_d ((eL 2 eTApiShare) a0) (ar_d (eI (0 : Int)) ar_nil)) rfl (sharingAtOK a0 (0 : Int) y5 h6) rfl) rfl ?_
  refine st0 384 rfl (ok (extr (v := .ref 256 y5.1.length 0 y5.1.length) rfl rfl)) ?_
  refine st0 448 rfl (ok (extr (v := .d (eI y5.2)) rfl rfl)) ?_
  refine st0 512 rfl (ok (mv (.ref 256 y5.1.length 0 y5.1.length))) ?_
  refine st0 576 rfl (ok (mv (.d (eI y5.2)))) ?_
  refine hK4 _ _ ?_
  simp only [thenK, blockK, keepE, updM, List.filter_cons, List.filter_nil, List.nil_append, List.cons_append, List.map_cons, List.map_nil, envE, Mem.get, Nat.reduceEqDiff, reduceIte, Option.isNone_none, Option.isNone_some, Bool.false_eq_true, List.length_cons, List.length_nil, Nat.reduceAdd, Nat.reduceMul]
  refine hK3 _ _ _ ?_
  refine rwp_ret ?_
  obtain rfl := Option.some.inj h
  try simp only [thenK, blockK, reduceIte]
  exact Or.inl (end_ok trivial (rs_t (v := .ref 256 y5.1.length 0 y5.1.length) rfl (rs_t (v := .d (eI y5.2)) rfl rs_nil)) (en_ref (en_d (to_d _) en_nil)) ou_nil (by first | exact eok rfl rfl rfl rfl (And.intro (And.intro rfl rfl) trivial) | (refine eok ?_ ?_ ?_ ?_ ?_ <;> first | rfl | exact (And.intro (And.intro rfl rfl) trivial) | simp [retM, Mem.get, PV.renL, PV.ren, Blk.ren, comps, rhoR, rhoM, appN, PV.refsL, PV.refs, keys, nodupB, Blk.refs, allIn, Blk.bor])))

/-- passkey/passkeylaw37.awake -/
def passkeylaw37awakeH : Hints := ⟨[(0, []), (1, [1, 2]), (2, [1, 17]), (3, [0]), (4, [1, 3, 4]), (5, [0])], []⟩
def passkeylaw37awakeRc : RCode :=
  .seq (.region false [⟨some 0, .mv, [.k (.d (.bool false))], none, []⟩] []) (.seq (.region false [⟨some 6, .bslice 1 false 1 [.d (.int .u8 0)] [0], [.k (.d (.int .u8 5))], none,
  []⟩, ⟨some 7, .bslice 1 false 1 [.d (.int .u8 0)] [0], [.k (.d (.int .u8 3))], none, []⟩, ⟨some 8, .call 16 true, [.t 6, .t 7, .k (.d (.int .i64 2)), .k (.d (.int .i64 3))],
  none, []⟩, ⟨some 5, .mv, [.t 8], none, []⟩, ⟨some 9, .ext 0, [.t 5], none, []⟩, ⟨some 10, .ext 1, [.t 5], none, []⟩, ⟨some 1, .mv, [.t 9], none, []⟩, ⟨some 2, .mv, [.t 10], none,
  []⟩] [1, 2]) (.seq (.seq (.region false [⟨some 11, .mv, [.t 2], none, []⟩, ⟨some 12, .bin .neq, [.t 11, .k (.d (.int .i64 0))], none, []⟩, ⟨some 13, .mv, [.t 12], none, []⟩,
  ⟨some 14, .mv, [.t 1], some (13, false), []⟩, ⟨some 15, .len, [.t 14], some (13, false), []⟩, ⟨some 16, .bin .neq, [.t 15, .k (.d (.int .i64 3))], some (13, false), []⟩, ⟨some
  17, .pick, [.t 13, .k (.d (.bool true)), .t 16], none, []⟩] [1, 17]) (.cond (.t 17) (.seq (.region false [⟨some 0, .mv, [.k (.d (.bool false))], none, []⟩] [0]) .ret) .skip))
  (.seq (.region true [⟨some 19, .mv, [.t 1], none, []⟩, ⟨some 20, .ia 2, [.t 19, .k (.d (.int .i64 0))], none, [0]⟩, ⟨some 21, .load 2 true, [.t 20], none, [0, 1]⟩, ⟨some 22, .mv,
  [.t 1], none, []⟩, ⟨some 23, .ia 2, [.t 22, .k (.d (.int .i64 2))], none, [3]⟩, ⟨some 24, .load 2 true, [.t 23], none, [3, 4]⟩, ⟨some 25, .bslice 2 true 2 [.d (.int .i64 0), .nil
  1] [0, 1], [.t 21, .t 24], none, [0, 1, 2, 3, 4, 5]⟩, ⟨some 26, .call 22 true, [.t 25], none, [0, 1, 2, 3, 4, 5, 6]⟩, ⟨some 18, .mv, [.t 26], none, [0, 1, 2, 3, 4, 5, 6, 7]⟩,
  ⟨some 27, .ext 0, [.t 18], none, [0, 1, 2, 3, 4, 5, 6, 7, 8]⟩, ⟨some 28, .ext 1, [.t 18], none, [0, 1, 2, 3, 4, 5, 6, 7, 8]⟩, ⟨some 3, .mv, [.t 27], none, [0, 1, 2, 3, 4, 5, 6,
  7, 8, 9]⟩, ⟨some 4, .mv, [.t 28], none, [0, 1, 2, 3, 4, 5, 6, 7, 8, 9, 10, 11]⟩] [1, 3, 4]) (.seq (.region false [⟨some 29, .mv, [.t 4], none, []⟩, ⟨some 30, .bin .eql, [.t 29,
  .k (.d (.int .i64 0))], none, []⟩, ⟨some 31, .mv, [.t 30], none, []⟩, ⟨some 32, .mv, [.t 3], some (31, true), []⟩, ⟨some 33, .b2s, [.t 32], some (31, true), []⟩, ⟨some 34, .bin
  .eql, [.t 33, .k (.d (.str ⟨#[5]⟩))], some (31, true), []⟩, ⟨some 35, .pick, [.t 31, .t 34, .k (.d (.bool false))], none, []⟩, ⟨some 36, .mv, [.t 35], none, []⟩, ⟨some 37, .call
  9 false, [.k (.d (.int .u8 83)), .k (.d (.int .u8 202))], some (36, true), []⟩, ⟨some 38, .bin .eql, [.t 37, .k (.d (.int .u8 1))], some (36, true), []⟩, ⟨some 39, .pick, [.t 36,
  .t 38, .k (.d (.bool false))], none, []⟩, ⟨some 40, .mv, [.t 39], none, []⟩, ⟨some 41, .call 11 false, [.k (.d (.int .u8 83))], some (40, true), []⟩, ⟨some 42, .bin .eql, [.t 41,
  .k (.d (.int .u8 202))], some (40, true), []⟩, ⟨some 43, .pick, [.t 40, .t 42, .k (.d (.bool false))], none, []⟩, ⟨some 44, .mv, [.t 43], none, []⟩, ⟨some 45, .call 9 false, [.k
  (.d (.int .u8 2)), .k (.d (.int .u8 128))], some (44, true), []⟩, ⟨some 46, .bin .eql, [.t 45, .k (.d (.int .u8 27))], some (44, true), []⟩, ⟨some 47, .pick, [.t 44, .t 46, .k
  (.d (.bool false))], none, []⟩, ⟨some 48, .mv, [.t 47], none, []⟩, ⟨some 49, .mv, [.t 1], some (48, true), []⟩, ⟨some 50, .ia 2, [.t 49, .k (.d (.int .i64 1))], some (48, true),
  []⟩, ⟨some 51, .fa 0, [.t 50], some (48, true), []⟩, ⟨some 52, .load 1 false, [.t 51], some (48, true), []⟩, ⟨some 53, .bin .eql, [.t 52, .k (.d (.int .i64 2))], some (48, true),
  []⟩, ⟨some 54, .pick, [.t 48, .t 53, .k (.d (.bool false))], none, []⟩, ⟨some 55, .mv, [.t 54], none, []⟩, ⟨some 56, .mv, [.t 1], some (55, true), []⟩, ⟨some 57, .ia 2, [.t 56,
  .k (.d (.int .i64 1))], some (55, true), []⟩, ⟨some 58, .fa 1, [.t 57], some (55, true), []⟩, ⟨some 59, .load 1 false, [.t 58], some (55, true), []⟩, ⟨some 60, .b2s, [.t 59],
  some (55, true), []⟩, ⟨some 61, .bin .eql, [.t 60, .k (.d (.str ⟨#[3]⟩))], some (55, true), []⟩, ⟨some 62, .pick, [.t 55, .t 61, .k (.d (.bool false))], none, []⟩, ⟨some 0, .mv,
  [.t 62], none, []⟩] [0]) .ret))))
def passkeylaw37awakeRr : List RR := [.t 0]
theorem passkeylaw37awakeC : compFn Try.prog 13 passkeylaw37awakeH = some (passkeylaw37awakeRc, passkeylaw37awakeRr, 63) := by kernel_rfl
theorem passkeylaw37awakeOK  (res : Bool) (h : passkeylaw37awake  = some res) : CallOK Try.prog 13 [] [] (.d (eB res)) [] := by
  unfold passkeylaw37awake at h
  refine callOK passkeylaw37awakeC fm rfl ?_
  simp only [initE, initM, nbor, List.map_cons, List.map_nil, Nat.reduceAdd]
  unfold passkeylaw37awakeRc
  refine rwp_seq fun K1 hK1 => ?_
  refine rwp_region fun K2 hK2 => ?_
  refine st0 128 rfl (ok (mv (.d (eB false)))) ?_
  refine hK2 _ _ ?_
  simp only [thenK, blockK, keepE, updM, List.filter_cons, List.filter_nil, List.nil_append, List.cons_append, List.map_cons, List.map_nil, envE, Mem.get, Nat.reduceEqDiff, reduceIte, Option.isNone_none, Option.isNone_some, Bool.false_eq_true, List.length_cons, List.length_nil, Nat.reduceAdd, Nat.reduceMul]
  refine hK1 _ _ _ ?_
  refine rwp_seq fun K3 hK3 => ?_
  refine rwp_region fun K4 hK4 => ?_
  refine st1 192 rfl (mem' := [(128, .row true 1 (([(5#8)] : List (BitVec 8)).map eU8))]) (ok (bsl (e := eU8) (ys := ([(5#8)] : List (BitVec 8))) rfl rfl rfl)) rfl ?_
  refine st1 256 rfl (mem' := [(192, .row true 1 (([(3#8)] : List (BitVec 8)).map eU8)), (128, .row true 1 (([(5#8)] : List (BitVec 8)).map eU8))]) (ok (bsl (e := eU8) (ys := ([(3#8)] : List (BitVec 8))) rfl rfl rfl)) rfl ?_
  obtain ⟨y5, h6, h⟩ := bind_inv h
  refine st1 320 rfl (mem' := [(256, .row true 2 (y5.1.map eTApiShare)), (128, .row false 1 (([(5#8)] : List (BitVec 8)).map eU8)), (192, .row false 1 (([(3#8)] : List (BitVec 8)).map eU8))]) (call_ok (v := .tup [.ref 256 y5.1.length 0 y5.1.length, .d (eI y5.2)]) (u := [(256, .row true 2 (y5.1.map eTApiShare)), (128, .row false 1 (([(5#8)] : List (BitVec 8)).map eU8)), (192, .row false 1 (([(3#8)] : List (BitVec 8)).map eU8))]) (ar_to rfl (to_1 rfl (ds_r (ys := ([(5#8)] : List (BitVec 8))) rfl rfl rfl ds_nil)) (ar_to rfl (to_1 rfl (ds_r (ys := ([(3#8)] : List (BitVec 8))) rfl rfl rfl ds_nil)) (ar_d (eI (2 : Int)) (ar_d (eI (3 : Int)) ar_nil)))) rfl (sharingSplitOK ([(5#8)] : List (BitVec 8)) ([(3#8)] : List (BitVec 8)) (2 : Int) (3 : Int) y5 h6) rfl) rfl ?_
  refine st0 384 rfl (ok (mv (.tup [.ref 256 y5.1.length 0 y5.1.length, .d (eI y5.2)]))) ?_
  refine st0 448 rfl (ok (extr (v := .ref 256 y5.1.length 0 y5.1.length) rfl rfl)) ?_
  refine st0 512 rfl (ok (extr (v := .d (eI y5.2)) rfl rfl)) ?_
  refine st0 576 rfl (ok (mv (.ref 256 y5.1.length 0 y5.1.length))) ?_
  refine st0 640 rfl (ok (mv (.d (eI y5.2)))) ?_
  refine hK4 _ _ ?_
  simp only [thenK, blockK, keepE, updM, List.filter_cons, List.filter_nil, List.nil_append, List.cons_append, List.map_cons, List.map_nil, envE, Mem.get, Nat.reduceEqDiff, reduceIte, Option.isNone_none, Option.isNone_some, Bool.false_eq_true, List.length_cons, List.length_nil, Nat.reduceAdd, Nat.reduceMul]
  refine hK3 _ _ _ ?_
  refine rwp_seq fun K7 hK7 => ?_
  refine rwp_join ([], []) 1152 (fun env mem => ∃ (v8 : Bool), passkeylaw37awakeJ1 y5 v8 = some res ∧ env = [(1, .ref 256 y5.1.length 0 y5.1.length), (17, .d (eB v8))] ∧ mem = [(256, .row true 2 (y5.1.map eTApiShare))]) (fun _ _ hI => ?_) (fun K9 hK9 => ?_)
  · obtain ⟨v8, h, rfl, rfl⟩ := hI
    unfold passkeylaw37awakeJ1 at h
    rcases Bool.eq_false_or_eq_true (v8) with h10 | h10
    · replace h := ite_t h h10
      refine rwp_t (isT h10) ?_
      refine rwp_seq fun K11 hK11 => ?_
      refine rwp_region fun K12 hK12 => ?_
      refine st0 1216 rfl (ok (mv (.d (eB false)))) ?_
      refine hK12 _ _ ?_
      simp only [thenK, blockK, keepE, updM, List.filter_cons, List.filter_nil, List.nil_append, List.cons_append, List.map_cons, List.map_nil, envE, Mem.get, Nat.reduceEqDiff, reduceIte, Option.isNone_none, Option.isNone_some, Bool.false_eq_true, List.length_cons, List.length_nil, Nat.reduceAdd, Nat.reduceMul]
      refine hK11 _ _ _ ?_
      refine rwp_ret ?_
      obtain rfl := Option.some.inj h
      try simp only [thenK, blockK, reduceIte]
      exact Or.inl (end_ok trivial (rs_t (v := .d (eB false)) rfl rs_nil) (en_d (to_d _) en_nil) ou_nil (by first | exact eok rfl rfl rfl rfl trivial | (refine eok ?_ ?_ ?_ ?_ ?_ <;> first | rfl | exact trivial | simp [retM, Mem.get, PV.renL, PV.ren, Blk.ren, comps, rhoR, rhoM, appN, PV.refsL, PV.refs, keys, nodupB, Blk.refs, allIn, Blk.bor])))
    · replace h := ite_f h h10
      refine rwp_f (isF h10) ?_
      refine rwp_skip ?_
      refine hK7 _ _ _ ?_
      refine rwp_seq fun K13 hK13 => ?_
      refine rwp_draw fun K14 hK14 => ?_
      refine dr0 1216 rfl (ok (mv (.ref 256 y5.1.length 0 y5.1.length))) (by kernel_rfl) ?_
      obtain ⟨h15, h⟩ := asq_inv h
      refine dr0 1280 rfl (ok (iaR (xs := y5.1) (e := eTApiShare) rfl rfl h15)) (by kernel_rfl) ?_
      refine dr0 1344 rfl (ok (ld_r (e := eTApiShare) (xs := y5.1) (TApiShare.mk (0 : Int) ([] : List (BitVec 8))) rfl rfl (by have := h15; simp at this ⊢; omega) rfl)) (by kernel_rfl) ?_
      refine dr0 1408 rfl (ok (mv (.ref 256 y5.1.length 0 y5.1.length))) (by kernel_rfl) ?_
      obtain ⟨h16, h⟩ := asq_inv h
      refine dr0 1472 rfl (ok (iaR (xs := y5.1) (e := eTApiShare) rfl rfl h16)) (by kernel_rfl) ?_
      refine dr0 1536 rfl (ok (ld_r (e := eTApiShare) (xs := y5.1) (TApiShare.mk (0 : Int) ([] : List (BitVec 8))) rfl rfl (by have := h16; simp at this ⊢; omega) rfl)) (by kernel_rfl) ?_
      refine dr1 1600 rfl (mem' := [(1536, .row true 2 (([(y5.1.getD (0 + (0 : Int).toNat) (TApiShare.mk (0 : Int) ([] : List (BitVec 8)))), (y5.1.getD (0 + (2 : Int).toNat) (TApiShare.mk (0 : Int) ([] : List (BitVec 8))))] : List (TApiShare)).map eTApiShare)), (256, .row true 2 (y5.1.map eTApiShare))]) (ok (bsl (e := eTApiShare) (ys := ([(y5.1.getD (0 + (0 : Int).toNat) (TApiShare.mk (0 : Int) ([] : List (BitVec 8)))), (y5.1.getD (0 + (2 : Int).toNat) (TApiShare.mk (0 : Int) ([] : List (BitVec 8))))] : List (TApiShare))) rfl rfl rfl)) rfl (by kernel_rfl) ?_
      obtain ⟨y17, h18, h⟩ := bind_inv h
      refine dr1 1664 rfl (mem' := [(1600, .row true 1 (y17.1.map eU8)), (1536, .row false 2 (([(y5.1.getD (0 + (0 : Int).toNat) (TApiShare.mk (0 : Int) ([] : List (BitVec 8)))), (y5.1.getD (0 + (2 : Int).toNat) (TApiShare.mk (0 : Int) ([] : List (BitVec 8))))] : List (TApiShare)).map eTApiShare)), (256, .row true 2 (y5.1.map eTApiShare))]) (call_ok (v := .tup [.ref 1600 y17.1.length 0 y17.1.length, .d (eI y17.2)]) (u := [(1600, .row true 1 (y17.1.map eU8)), (1536, .row false 2 (([(y5.1.getD (0 + (0 : Int).toNat) (TApiShare.mk (0 : Int) ([] : List (BitVec 8)))), (y5.1.getD (0 + (2 : Int).toNat) (TApiShare.mk (0 : Int) ([] : List (BitVec 8))))] : List (TApiShare)).map eTApiShare))]) (ar_to rfl (to_1 rfl (ds_r (ys := ([(y5.1.getD (0 + (0 : Int).toNat) (TApiShare.mk (0 : Int) ([] : List (BitVec 8)))), (y5.1.getD (0 + (2 : Int).toNat) (TApiShare.mk (0 : Int) ([] : List (BitVec 8))))] : List (TApiShare))) rfl rfl rfl ds_nil)) ar_nil) rfl (sharingJoinOK ([(y5.1.getD (0 + (0 : Int).toNat) (TApiShare.mk (0 : Int) ([] : List (BitVec 8)))), (y5.1.getD (0 + (2 : Int).toNat) (TApiShare.mk (0 : Int) ([] : List (BitVec 8))))] : List (TApiShare)) y17 h18) rfl) rfl (by kernel_rfl) ?_
      refine dr0 1728 rfl (ok (mv (.tup [.ref 1600 y17.1.length 0 y17.1.length, .d (eI y17.2)]))) (by kernel_rfl) ?_
      refine dr0 1792 rfl (ok (extr (v := .ref 1600 y17.1.length 0 y17.1.length) rfl rfl)) (by kernel_rfl) ?_
      refine dr0 1856 rfl (ok (extr (v := .d (eI y17.2)) rfl rfl)) (by kernel_rfl) ?_
      refine dr0 1920 rfl (ok (mv (.ref 1600 y17.1.length 0 y17.1.length))) (by kernel_rfl) ?_
      refine dr0 1984 rfl (ok (mv (.d (eI y17.2)))) (by kernel_rfl) ?_
      refine hK14 _ _ ?_
      simp only [thenK, blockK, keepE, updM, List.filter_cons, List.filter_nil, List.nil_append, List.cons_append, List.map_cons, List.map_nil, envE, Mem.get, Nat.reduceEqDiff, reduceIte, Option.isNone_none, Option.isNone_some, Bool.false_eq_true, List.length_cons, List.length_nil, Nat.reduceAdd, Nat.reduceMul]
      refine hK13 _ _ _ ?_
      refine rwp_seq fun K19 hK19 => ?_
      refine rwp_region fun K20 hK20 => ?_
      refine st0 2048 rfl (ok (mv (.d (eI y17.2)))) ?_
      refine st0 2112 rfl (ok (eqlI _ (0 : Int))) ?_
      refine st0 2176 rfl (ok (mv (.d (eB (y17.2 == (0 : Int)))))) ?_
      rcases Bool.eq_false_or_eq_true ((y17.2 == (0 : Int))) with h21 | h21
      · replace h := ite_t h h21
        refine stG (isT h21) ?_
        refine st0 2240 rfl (ok (mv (.ref 1600 y17.1.length 0 y17.1.length))) ?_
        refine stG (isT h21) ?_
        refine st0 2304 rfl (ok (b2s (contR (xs := y17.1) rfl rfl rfl))) ?_
        refine stG (isT h21) ?_
        refine st0 2368 rfl (ok (eqlS y17.1 ([5#8] : List (BitVec 8)))) ?_
        refine st0 2432 rfl (ok (pick_t h21 (.d (eB (y17.1 == ([5#8] : List (BitVec 8))))) _)) ?_
        refine st0 2496 rfl (ok (mv (.d (eB (y17.1 == ([5#8] : List (BitVec 8))))))) ?_
        rcases Bool.eq_false_or_eq_true ((y17.1 == ([5#8] : List (BitVec 8)))) with h22 | h22
        · replace h := ite_t h h22
          refine stG (isT h22) ?_
          obtain ⟨y23, h24, h⟩ := bind_inv h
          refine st0 2560 rfl (call_ok (v := .d (eU8 y23)) (u := []) (ar_d (eU8 (83#8)) (ar_d (eU8 (202#8)) ar_nil)) rfl (sharingMulOK (83#8) (202#8) y23 h24) rfl) ?_
          refine stG (isT h22) ?_
          refine st0 2624 rfl (ok (eql8 _ (1#8))) ?_
          refine st0 2688 rfl (ok (pick_t h22 (.d (eB (y23 == (1#8)))) _)) ?_
          refine st0 2752 rfl (ok (mv (.d (eB (y23 == (1#8)))))) ?_
          rcases Bool.eq_false_or_eq_true ((y23 == (1#8))) with h25 | h25
          · replace h := ite_t h h25
            refine stG (isT h25) ?_
            obtain ⟨y26, h27, h⟩ := bind_inv h
            refine st0 2816 rfl (call_ok (v := .d (eU8 y26)) (u := []) (ar_d (eU8 (83#8)) ar_nil) rfl (sharingInverseOK (83#8) y26 h27) rfl) ?_
            refine stG (isT h25) ?_
            refine st0 2880 rfl (ok (eql8 _ (202#8))) ?_
            refine st0 2944 rfl (ok (pick_t h25 (.d (eB (y26 == (202#8)))) _)) ?_
            refine st0 3008 rfl (ok (mv (.d (eB (y26 == (202#8)))))) ?_
            rcases Bool.eq_false_or_eq_true ((y26 == (202#8))) with h28 | h28
            · replace h := ite_t h h28
              refine stG (isT h28) ?_
              obtain ⟨y29, h30, h⟩ := bind_inv h
              refine st0 3072 rfl (call_ok (v := .d (eU8 y29)) (u := []) (ar_d (eU8 (2#8)) (ar_d (eU8 (128#8)) ar_nil)) rfl (sharingMulOK (2#8) (128#8) y29 h30) rfl) ?_
              refine stG (isT h28) ?_
              refine st0 3136 rfl (ok (eql8 _ (27#8))) ?_
              refine st0 3200 rfl (ok (pick_t h28 (.d (eB (y29 == (27#8)))) _)) ?_
              refine st0 3264 rfl (ok (mv (.d (eB (y29 == (27#8)))))) ?_
              rcases Bool.eq_false_or_eq_true ((y29 == (27#8))) with h31 | h31
              · replace h := ite_t h h31
                refine stG (isT h31) ?_
                refine st0 3328 rfl (ok (mv (.ref 256 y5.1.length 0 y5.1.length))) ?_
                refine stG (isT h31) ?_
                obtain ⟨h32, h⟩ := asq_inv h
                refine st0 3392 rfl (ok (iaR (xs := y5.1) (e := eTApiShare) rfl rfl h32)) ?_
                refine stG (isT h31) ?_
                refine st0 3456 rfl (ok (fa_rk 0 rfl)) ?_
                refine stG (isT h31) ?_
                refine st0 3520 rfl (ok (ld_rp (e := eTApiShare) (xs := y5.1) (v := eI ((y5.1.getD (0 + (1 : Int).toNat) (TApiShare.mk (0 : Int) ([] : List (BitVec 8)))).X)) (TApiShare.mk (0 : Int) ([] : List (BitVec 8))) rfl rfl (by have := h32; simp at this ⊢; omega) rfl rfl rfl rfl)) ?_
                refine stG (isT h31) ?_
                refine st0 3584 rfl (ok (eqlI _ (2 : Int))) ?_
                refine st0 3648 rfl (ok (pick_t h31 (.d (eB (((y5.1.getD (0 + (1 : Int).toNat) (TApiShare.mk (0 : Int) ([] : List (BitVec 8)))).X) == (2 : Int)))) _)) ?_
                refine st0 3712 rfl (ok (mv (.d (eB (((y5.1.getD (0 + (1 : Int).toNat) (TApiShare.mk (0 : Int) ([] : List (BitVec 8)))).X) == (2 : Int)))))) ?_
                rcases Bool.eq_false_or_eq_true ((((y5.1.getD (0 + (1 : Int).toNat) (TApiShare.mk (0 : Int) ([] : List (BitVec 8)))).X) == (2 : Int))) with h33 | h33
                · replace h := ite_t h h33
                  refine stG (isT h33) ?_
                  refine st0 3776 rfl (ok (mv (.ref 256 y5.1.length 0 y5.1.length))) ?_
                  refine stG (isT h33) ?_
                  obtain ⟨h34, h⟩ := asq_inv h
                  refine st0 3840 rfl (ok (iaR (xs := y5.1) (e := eTApiShare) rfl rfl h34)) ?_
                  refine stG (isT h33) ?_
                  refine st0 3904 rfl (ok (fa_rk 1 rfl)) ?_
                  refine stG (isT h33) ?_
                  refine st0 3968 rfl (ok (ld_rp (e := eTApiShare) (xs := y5.1) (v := (eL 1 eU8) ((y5.1.getD (0 + (1 : Int).toNat) (TApiShare.mk (0 : Int) ([] : List (BitVec 8)))).Data)) (TApiShare.mk (0 : Int) ([] : List (BitVec 8))) rfl rfl (by have := h34; simp at this ⊢; omega) rfl rfl rfl rfl)) ?_
                  refine stG (isT h33) ?_
                  refine st0 4032 rfl (ok (b2s contL)) ?_
                  refine stG (isT h33) ?_
                  refine st0 4096 rfl (ok (eqlS ((y5.1.getD (0 + (1 : Int).toNat) (TApiShare.mk (0 : Int) ([] : List (BitVec 8)))).Data) ([3#8] : List (BitVec 8)))) ?_
                  refine st0 4160 rfl (ok (pick_t h33 (.d (eB (((y5.1.getD (0 + (1 : Int).toNat) (TApiShare.mk (0 : Int) ([] : List (BitVec 8)))).Data) == ([3#8] : List (BitVec 8))))) _)) ?_
                  refine st0 4224 rfl (ok (mv (.d (eB (((y5.1.getD (0 + (1 : Int).toNat) (TApiShare.mk (0 : Int) ([] : List (BitVec 8)))).Data) == ([3#8] : List (BitVec 8))))))) ?_
                  refine hK20 _ _ ?_
                  simp only [thenK, blockK, keepE, updM, List.filter_cons, List.filter_nil, List.nil_append, List.cons_append, List.map_cons, List.map_nil, envE, Mem.get, Nat.reduceEqDiff, reduceIte, Option.isNone_none, Option.isNone_some, Bool.false_eq_true, List.length_cons, List.length_nil, Nat.reduceAdd, Nat.reduceMul]
                  refine hK19 _ _ _ ?_
                  refine rwp_ret ?_
                  obtain rfl := Option.some.inj h
                  try simp only [thenK, blockK, reduceIte]
                  exact Or.inl (end_ok trivial (rs_t (v := .d (eB (((y5.1.getD (0 + (1 : Int).toNat) (TApiShare.mk (0 : Int) ([] : List (BitVec 8)))).Data) == ([3#8] : List (BitVec 8))))) rfl rs_nil) (en_d (to_d _) en_nil) ou_nil (by first | exact eok rfl rfl rfl rfl trivial | (refine eok ?_ ?_ ?_ ?_ ?_ <;> first | rfl | exact trivial | simp [retM, Mem.get, PV.renL, PV.ren, Blk.ren, comps, rhoR, rhoM, appN, PV.refsL, PV.refs, keys, nodupB, Blk.refs, allIn, Blk.bor])))
                · replace h := ite_f h h33
                  refine stGN 3776 rfl rfl h33 ?_
                  refine stGN 3840 rfl rfl h33 ?_
                  refine stGN 3904 rfl rfl h33 ?_
                  refine stGN 3968 rfl rfl h33 ?_
                  refine stGN 4032 rfl rfl h33 ?_
                  refine stGN 4096 rfl rfl h33 ?_
                  refine st0 4160 rfl (ok (pick_f h33 _ (.d (eB false)))) ?_
                  refine st0 4224 rfl (ok (mv (.d (eB false)))) ?_
                  refine hK20 _ _ ?_
                  simp only [thenK, blockK, keepE, updM, List.filter_cons, List.filter_nil, List.nil_append, List.cons_append, List.map_cons, List.map_nil, envE, Mem.get, Nat.reduceEqDiff, reduceIte, Option.isNone_none, Option.isNone_some, Bool.false_eq_true, List.length_cons, List.length_nil, Nat.reduceAdd, Nat.reduceMul]
                  refine hK19 _ _ _ ?_
                  refine rwp_ret ?_
                  obtain rfl := Option.some.inj h
                  try simp only [thenK, blockK, reduceIte]
                  exact Or.inl (end_ok trivial (rs_t (v := .d (eB false)) rfl rs_nil) (en_d (to_d _) en_nil) ou_nil (by first | exact eok rfl rfl rfl rfl trivial | (refine eok ?_ ?_ ?_ ?_ ?_ <;> first | rfl | exact trivial | simp [retM, Mem.get, PV.renL, PV.ren, Blk.ren, comps, rhoR, rhoM, appN, PV.refsL, PV.refs, keys, nodupB, Blk.refs, allIn, Blk.bor])))
              · replace h := ite_f h h31
                refine stGN 3328 rfl rfl h31 ?_
                refine stGN 3392 rfl rfl h31 ?_
                refine stGN 3456 rfl rfl h31 ?_
                refine stGN 3520 rfl rfl h31 ?_
                refine stGN 3584 rfl rfl h31 ?_
                refine st0 3648 rfl (ok (pick_f h31 _ (.d (eB false)))) ?_
                refine st0 3712 rfl (ok (mv (.d (eB false)))) ?_
                refine stGN 3776 rfl rfl rfl ?_
                refine stGN 3840 rfl rfl rfl ?_
                refine stGN 3904 rfl rfl rfl ?_
                refine stGN 3968 rfl rfl rfl ?_
                refine stGN 4032 rfl rfl rfl ?_
                refine stGN 4096 rfl rfl rfl ?_
                refine st0 4160 rfl (ok (pick_f rfl _ (.d (eB false)))) ?_
                refine st0 4224 rfl (ok (mv (.d (eB false)))) ?_
                refine hK20 _ _ ?_
                simp only [thenK, blockK, keepE, updM, List.filter_cons, List.filter_nil, List.nil_append, List.cons_append, List.map_cons, List.map_nil, envE, Mem.get, Nat.reduceEqDiff, reduceIte, Option.isNone_none, Option.isNone_some, Bool.false_eq_true, List.length_cons, List.length_nil, Nat.reduceAdd, Nat.reduceMul]
                refine hK19 _ _ _ ?_
                refine rwp_ret ?_
                obtain rfl := Option.some.inj h
                try simp only [thenK, blockK, reduceIte]
                exact Or.inl (end_ok trivial (rs_t (v := .d (eB false)) rfl rs_nil) (en_d (to_d _) en_nil) ou_nil (by first | exact eok rfl rfl rfl rfl trivial | (refine eok ?_ ?_ ?_ ?_ ?_ <;> first | rfl | exact trivial | simp [retM, Mem.get, PV.renL, PV.ren, Blk.ren, comps, rhoR, rhoM, appN, PV.refsL, PV.refs, keys, nodupB, Blk.refs, allIn, Blk.bor])))
            · replace h := ite_f h h28
              refine stGN 3072 rfl rfl h28 ?_
              refine stGN 3136 rfl rfl h28 ?_
              refine st0 3200 rfl (ok (pick_f h28 _ (.d (eB false)))) ?_
              refine st0 3264 rfl (ok (mv (.d (eB false)))) ?_
              refine stGN 3328 rfl rfl rfl ?_
              refine stGN 3392 rfl rfl rfl ?_
              refine stGN 3456 rfl rfl rfl ?_
              refine stGN 3520 rfl rfl rfl ?_
              refine stGN 3584 rfl rfl rfl ?_
              refine st0 3648 rfl (ok (pick_f rfl _ (.d (eB false)))) ?_
              refine st0 3712 rfl (ok (mv (.d (eB false)))) ?_
              refine stGN 3776 rfl rfl rfl ?_
              refine stGN 3840 rfl rfl rfl ?_
              refine stGN 3904 rfl rfl rfl ?_
              refine stGN 3968 rfl rfl rfl ?_
              refine stGN 4032 rfl rfl rfl ?_
              refine stGN 4096 rfl rfl rfl ?_
              refine st0 4160 rfl (ok (pick_f rfl _ (.d (eB false)))) ?_
              refine st0 4224 rfl (ok (mv (.d (eB false)))) ?_
              refine hK20 _ _ ?_
              simp only [thenK, blockK, keepE, updM, List.filter_cons, List.filter_nil, List.nil_append, List.cons_append, List.map_cons, List.map_nil, envE, Mem.get, Nat.reduceEqDiff, reduceIte, Option.isNone_none, Option.isNone_some, Bool.false_eq_true, List.length_cons, List.length_nil, Nat.reduceAdd, Nat.reduceMul]
              refine hK19 _ _ _ ?_
              refine rwp_ret ?_
              obtain rfl := Option.some.inj h
              try simp only [thenK, blockK, reduceIte]
              exact Or.inl (end_ok trivial (rs_t (v := .d (eB false)) rfl rs_nil) (en_d (to_d _) en_nil) ou_nil (by first | exact eok rfl rfl rfl rfl trivial | (refine eok ?_ ?_ ?_ ?_ ?_ <;> first | rfl | exact trivial | simp [retM, Mem.get, PV.renL, PV.ren, Blk.ren, comps, rhoR, rhoM, appN, PV.refsL, PV.refs, keys, nodupB, Blk.refs, allIn, Blk.bor])))
          · replace h := ite_f h h25
            refine stGN 2816 rfl rfl h25 ?_
            refine stGN 2880 rfl rfl h25 ?_
            refine st0 2944 rfl (ok (pick_f h25 _ (.d (eB false)))) ?_
            refine st0 3008 rfl (ok (mv (.d (eB false)))) ?_
            refine stGN 3072 rfl rfl rfl ?_
            refine stGN 3136 rfl rfl rfl ?_
            refine st0 3200 rfl (ok (pick_f rfl _ (.d (eB false)))) ?_
            refine st0 3264 rfl (ok (mv (.d (eB false)))) ?_
            refine stGN 3328 rfl rfl rfl ?_
            refine stGN 3392 rfl rfl rfl ?_
            refine stGN 3456 rfl rfl rfl ?_
            refine stGN 3520 rfl rfl rfl ?_
            refine stGN 3584 rfl rfl rfl ?_
            refine st0 3648 rfl (ok (pick_f rfl _ (.d (eB false)))) ?_
            refine st0 3712 rfl (ok (mv (.d (eB false)))) ?_
            refine stGN 3776 rfl rfl rfl ?_
            refine stGN 3840 rfl rfl rfl ?_
            refine stGN 3904 rfl rfl rfl ?_
            refine stGN 3968 rfl rfl rfl ?_
            refine stGN 4032 rfl rfl rfl ?_
            refine stGN 4096 rfl rfl rfl ?_
            refine st0 4160 rfl (ok (pick_f rfl _ (.d (eB false)))) ?_
            refine st0 4224 rfl (ok (mv (.d (eB false)))) ?_
            refine hK20 _ _ ?_
            simp only [thenK, blockK, keepE, updM, List.filter_cons, List.filter_nil, List.nil_append, List.cons_append, List.map_cons, List.map_nil, envE, Mem.get, Nat.reduceEqDiff, reduceIte, Option.isNone_none, Option.isNone_some, Bool.false_eq_true, List.length_cons, List.length_nil, Nat.reduceAdd, Nat.reduceMul]
            refine hK19 _ _ _ ?_
            refine rwp_ret ?_
            obtain rfl := Option.some.inj h
            try simp only [thenK, blockK, reduceIte]
            exact Or.inl (end_ok trivial (rs_t (v := .d (eB false)) rfl rs_nil) (en_d (to_d _) en_nil) ou_nil (by first | exact eok rfl rfl rfl rfl trivial | (refine eok ?_ ?_ ?_ ?_ ?_ <;> first | rfl | exact trivial | simp [retM, Mem.get, PV.renL, PV.ren, Blk.ren, comps, rhoR, rhoM, appN, PV.refsL, PV.refs, keys, nodupB, Blk.refs, allIn, Blk.bor])))
        · replace h := ite_f h h22
          refine stGN 2560 rfl rfl h22 ?_
          refine stGN 2624 rfl rfl h22 ?_
          refine st0 2688 rfl (ok (pick_f h22 _ (.d (eB false)))) ?_
          refine st0 2752 rfl (ok (mv (.d (eB false)))) ?_
          refine stGN 2816 rfl rfl rfl ?_
          refine stGN 2880 rfl rfl rfl ?_
          refine st0 2944 rfl (ok (pick_f rfl _ (.d (eB false)))) ?_
          refine st0 3008 rfl (ok (mv (.d (eB false)))) ?_
          refine stGN 3072 rfl rfl rfl ?_
          refine stGN 3136 rfl rfl rfl ?_
          refine st0 3200 rfl (ok (pick_f rfl _ (.d (eB false)))) ?_
          refine st0 3264 rfl (ok (mv (.d (eB false)))) ?_
          refine stGN 3328 rfl rfl rfl ?_
          refine stGN 3392 rfl rfl rfl ?_
          refine stGN 3456 rfl rfl rfl ?_
          refine stGN 3520 rfl rfl rfl ?_
          refine stGN 3584 rfl rfl rfl ?_
          refine st0 3648 rfl (ok (pick_f rfl _ (.d (eB false)))) ?_
          refine st0 3712 rfl (ok (mv (.d (eB false)))) ?_
          refine stGN 3776 rfl rfl rfl ?_
          refine stGN 3840 rfl rfl rfl ?_
          refine stGN 3904 rfl rfl rfl ?_
          refine stGN 3968 rfl rfl rfl ?_
          refine stGN 4032 rfl rfl rfl ?_
          refine stGN 4096 rfl rfl rfl ?_
          refine st0 4160 rfl (ok (pick_f rfl _ (.d (eB false)))) ?_
          refine st0 4224 rfl (ok (mv (.d (eB false)))) ?_
          refine hK20 _ _ ?_
          simp only [thenK, blockK, keepE, updM, List.filter_cons, List.filter_nil, List.nil_append, List.cons_append, List.map_cons, List.map_nil, envE, Mem.get, Nat.reduceEqDiff, reduceIte, Option.isNone_none, Option.isNone_some, Bool.false_eq_true, List.length_cons, List.length_nil, Nat.reduceAdd, Nat.reduceMul]
          refine hK19 _ _ _ ?_
          refine rwp_ret ?_
          obtain rfl := Option.some.inj h
          try simp only [thenK, blockK, reduceIte]
          exact Or.inl (end_ok trivial (rs_t (v := .d (eB false)) rfl rs_nil) (en_d (to_d _) en_nil) ou_nil (by first | exact eok rfl rfl rfl rfl trivial | (refine eok ?_ ?_ ?_ ?_ ?_ <;> first | rfl | exact trivial | simp [retM, Mem.get, PV.renL, PV.ren, Blk.ren, comps, rhoR, rhoM, appN, PV.refsL, PV.refs, keys, nodupB, Blk.refs, allIn, Blk.bor])))
      · replace h := ite_f h h21
        refine stGN 2240 rfl rfl h21 ?_
        refine stGN 2304 rfl rfl h21 ?_
        refine stGN 2368 rfl rfl h21 ?_
        refine st0 2432 rfl (ok (pick_f h21 _ (.d (eB false)))) ?_
        refine st0 2496 rfl (ok (mv (.d (eB false)))) ?_
        refine stGN 2560 rfl rfl rfl ?_
        refine stGN 2624 rfl rfl rfl ?_
        refine st0 2688 rfl (ok (pick_f rfl _ (.d (eB false)))) ?_
        refine st0 2752 rfl (ok (mv (.d (eB false)))) ?_
        refine stGN 2816 rfl rfl rfl ?_
        refine stGN 2880 rfl rfl rfl ?_
        refine st0 2944 rfl (ok (pick_f rfl _ (.d (eB false)))) ?_
        refine st0 3008 rfl (ok (mv (.d (eB false)))) ?_
        refine stGN 3072 rfl rfl rfl ?_
        refine stGN 3136 rfl rfl rfl ?_
        refine st0 3200 rfl (ok (pick_f rfl _ (.d (eB false)))) ?_
        refine st0 3264 rfl (ok (mv (.d (eB false)))) ?_
        refine stGN 3328 rfl rfl rfl ?_
        refine stGN 3392 rfl rfl rfl ?_
        refine stGN 3456 rfl rfl rfl ?_
        refine stGN 3520 rfl rfl rfl ?_
        refine stGN 3584 rfl rfl rfl ?_
        refine st0 3648 rfl (ok (pick_f rfl _ (.d (eB false)))) ?_
        refine st0 3712 rfl (ok (mv (.d (eB false)))) ?_
        refine stGN 3776 rfl rfl rfl ?_
        refine stGN 3840 rfl rfl rfl ?_
        refine stGN 3904 rfl rfl rfl ?_
        refine stGN 3968 rfl rfl rfl ?_
        refine stGN 4032 rfl rfl rfl ?_
        refine stGN 4096 rfl rfl rfl ?_
        refine st0 4160 rfl (ok (pick_f rfl _ (.d (eB false)))) ?_
        refine st0 4224 rfl (ok (mv (.d (eB false)))) ?_
        refine hK20 _ _ ?_
        simp only [thenK, blockK, keepE, updM, List.filter_cons, List.filter_nil, List.nil_append, List.cons_append, List.map_cons, List.map_nil, envE, Mem.get, Nat.reduceEqDiff, reduceIte, Option.isNone_none, Option.isNone_some, Bool.false_eq_true, List.length_cons, List.length_nil, Nat.reduceAdd, Nat.reduceMul]
        refine hK19 _ _ _ ?_
        refine rwp_ret ?_
        obtain rfl := Option.some.inj h
        try simp only [thenK, blockK, reduceIte]
        exact Or.inl (end_ok trivial (rs_t (v := .d (eB false)) rfl rs_nil) (en_d (to_d _) en_nil) ou_nil (by first | exact eok rfl rfl rfl rfl trivial | (refine eok ?_ ?_ ?_ ?_ ?_ <;> first | rfl | exact trivial | simp [retM, Mem.get, PV.renL, PV.ren, Blk.ren, comps, rhoR, rhoM, appN, PV.refsL, PV.refs, keys, nodupB, Blk.refs, allIn, Blk.bor])))
  · refine rwp_region fun K35 hK35 => ?_
    refine st0 704 rfl (ok (mv (.d (eI y5.2)))) ?_
    refine st0 768 rfl (ok (neqI _ (0 : Int))) ?_
    refine st0 832 rfl (ok (mv (.d (eB (y5.2 != (0 : Int)))))) ?_
    rcases Bool.eq_false_or_eq_true ((y5.2 != (0 : Int))) with h36 | h36
    · replace h := ite_t h h36
      refine stGN 896 rfl rfl h36 ?_
      refine stGN 960 rfl rfl h36 ?_
      refine stGN 1024 rfl rfl h36 ?_
      refine st0 1088 rfl (ok (pick_t h36 (.d (eB true)) _)) ?_
      refine hK35 _ _ ?_
      simp only [thenK, blockK, keepE, updM, List.filter_cons, List.filter_nil, List.nil_append, List.cons_append, List.map_cons, List.map_nil, envE, Mem.get, Nat.reduceEqDiff, reduceIte, Option.isNone_none, Option.isNone_some, Bool.false_eq_true, List.length_cons, List.length_nil, Nat.reduceAdd, Nat.reduceMul]
      exact hK9 _ _ _ ⟨_, _, Settled.refl, _, _, ⟨_, h, rfl, rfl⟩, ⟨rfl, ⟨⟨rfl, rfl⟩, ⟨⟨rfl, rfl⟩, trivial⟩⟩, ⟨⟨rfl, rfl⟩, trivial⟩⟩, rfl⟩
    · replace h := ite_f h h36
      refine stG (isF h36) ?_
      refine st0 896 rfl (ok (mv (.ref 256 y5.1.length 0 y5.1.length))) ?_
      refine stG (isF h36) ?_
      refine st0 960 rfl (ok (lenR _ _ _ _)) ?_
      refine stG (isF h36) ?_
      refine st0 1024 rfl (ok (neqI _ (3 : Int))) ?_
      refine st0 1088 rfl (ok (pick_f h36 _ (.d (eB ((y5.1.length : Int) != (3 : Int)))))) ?_
      refine hK35 _ _ ?_
      simp only [thenK, blockK, keepE, updM, List.filter_cons, List.filter_nil, List.nil_append, List.cons_append, List.map_cons, List.map_nil, envE, Mem.get, Nat.reduceEqDiff, reduceIte, Option.isNone_none, Option.isNone_some, Bool.false_eq_true, List.length_cons, List.length_nil, Nat.reduceAdd, Nat.reduceMul]
      exact hK9 _ _ _ ⟨_, _, Settled.refl, _, _, ⟨_, h, rfl, rfl⟩, ⟨rfl, ⟨⟨rfl, rfl⟩, ⟨⟨rfl, rfl⟩, trivial⟩⟩, ⟨⟨rfl, rfl⟩, trivial⟩⟩, rfl⟩

end Go.Proofs.Ty
