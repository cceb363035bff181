/- Each Go function comes to what its plain function says. PRINTED by a program of this session (ty.py). -/
import Derived.Test.YtfhdcabplkhdcaaDoorS8
set_option linter.unusedVariables false
set_option linter.unusedSimpArgs false
set_option maxHeartbeats 4000000
set_option maxRecDepth 10000
namespace Go.Proofs.Ty
open Go Go.RW Go.Proofs
open Go.RW renaming thenK → n0, blockK → n1, keepE → n2, updM → n3, envE → n4
open Go.RW.Mem renaming get → n5
open List renaming filter_cons → n6, filter_nil → n7, nil_append → n8, cons_append → n9, map_cons → n10, map_nil → n11, length_cons → n12, length_nil → n13
open Option renaming isNone_none → n14, isNone_some → n15
open Bool renaming false_eq_true → n16
open Nat renaming reduceEqDiff → n17, reduceAdd → n18, reduceMul → n19
/-- passkey/passkeyref10.SealPin -/
def passkeyref10SealPinH : Hints := ⟨[(0, [0, 1, 2]), (1, [0, 1, 2, 11]), (2, [6, 7]), (3, [0, 1, 2, 8]), (4, [0, 1, 8]), (5, [6, 7])], []⟩
def passkeyref10SealPinRc : RCode :=
  .seq (.region false [⟨some 6, .mv, [.k (.nil 1)], none, []⟩, ⟨some 7, .mv, [.k (.d (.int .i64 0))], none, []⟩] [0, 1, 2]) (.seq (.seq (.region false [⟨some 9, .mv, [.t 2], none,
  []⟩, ⟨some 10, .lens, [.t 9], none, []⟩, ⟨some 11, .bin .gtr, [.t 10, .k (.d (.int .i64 63))], none, []⟩] [0, 1, 2, 11]) (.cond (.t 11) (.seq (.region false [⟨some 6, .mv, [.k
  (.nil 1)], none, []⟩, ⟨some 7, .mv, [.k (.d (.int .i64 8))], none, []⟩] [6, 7]) .ret) .skip)) (.seq (.region false [⟨some 12, .mks 1 false [.d (.int .u8 0)] 281474976710656, [.k
  (.d (.int .i64 64)), .k (.d (.int .i64 64))], none, []⟩, ⟨some 8, .mv, [.t 12], none, []⟩] [0, 1, 2, 8]) (.seq (.region false [⟨some 13, .mv, [.t 8], none, []⟩, ⟨some 14, .mv,
  [.t 2], none, []⟩, ⟨some 15, .copys, [.t 13, .t 14], none, []⟩] [0, 1, 8]) (.seq (.region false [⟨some 16, .mv, [.t 0], none, []⟩, ⟨some 17, .mv, [.t 1], none, []⟩, ⟨some 18,
  .mv, [.t 8], none, []⟩, ⟨some 19, .call 12 true, [.t 16, .t 17, .k (.nil 1), .t 18], none, []⟩, ⟨some 20, .ext 0, [.t 19], none, []⟩, ⟨some 21, .ext 1, [.t 19], none, []⟩, ⟨some
  6, .mv, [.t 20], none, []⟩, ⟨some 7, .mv, [.t 21], none, []⟩] [6, 7]) .ret))))
def passkeyref10SealPinRr : List RR := [.t 6, .t 7]
theorem passkeyref10SealPinC : compFn Tryd.prog 11 passkeyref10SealPinH = some (passkeyref10SealPinRc, passkeyref10SealPinRr, 22) := by kernel_rfl
theorem passkeyref10SealPinOK (a0 : BitVec 64) (a1 : BitVec 64) (a2 : List (BitVec 8)) (res : (List (BitVec 8)) × Int) (h : passkeyref10SealPin a0 a1 a2 = some res) : CallOK Tryd.prog 11 [.d (eU64 a0), .d (eU64 a1), .d (eS a2)] [] (.tup [.ref 0 res.1.length 0 res.1.length, .d (eI res.2)]) [(0, .row true 1 (res.1.map eU8))] := by
  unfold passkeyref10SealPin at h
  refine callOK passkeyref10SealPinC fm rfl ?_
  simp only [initE, initM, nbor, List.map_cons, List.map_nil, Nat.reduceAdd]
  unfold passkeyref10SealPinRc
  refine rwp_seq fun K1 hK1 => ?_
  refine rwp_region fun K2 hK2 => ?_
  refine st0 128 rfl (ok (mv (.nil 1))) ?_
  refine st0 192 rfl (ok (mv (.d (eI (0 : Int))))) ?_
  refine hK2 _ _ ?_
  simp only [n0, n1, n2, n3, n4, n5, n6, n7, n8, n9, n10, n11, n12, n13, n14, n15, n16, n17, n18, n19, reduceIte]
  refine hK1 _ _ _ ?_
  refine rwp_seq fun K3 hK3 => ?_
  refine rwp_seq fun K4 hK4 => ?_
  refine rwp_region fun K5 hK5 => ?_
  refine st0 256 rfl (ok (mv (.d (eS a2)))) ?_
  refine st0 320 rfl (ok (lenS _)) ?_
  refine st0 384 rfl (ok (gtrI _ (63 : Int))) ?_
  refine hK5 _ _ ?_
  simp only [n0, n1, n2, n3, n4, n5, n6, n7, n8, n9, n10, n11, n12, n13, n14, n15, n16, n17, n18, n19, reduceIte]
  refine hK4 _ _ _ ?_
  rcases Bool.eq_false_or_eq_true ((decide ((63 : Int) < (a2.length : Int)))) with h6 | h6
  · replace h := ite_t h h6
    refine rwp_t (isT h6) ?_
    refine rwp_seq fun K7 hK7 => ?_
    refine rwp_region fun K8 hK8 => ?_
    refine st0 448 rfl (ok (mv (.nil 1))) ?_
    refine st0 512 rfl (ok (mv (.d (eI (8 : Int))))) ?_
    refine hK8 _ _ ?_
    simp only [n0, n1, n2, n3, n4, n5, n6, n7, n8, n9, n10, n11, n12, n13, n14, n15, n16, n17, n18, n19, reduceIte]
    refine hK7 _ _ _ ?_
    refine rwp_ret ?_
    obtain rfl := Option.some.inj h
    try simp only [thenK, blockK, reduceIte]
    exact Or.inl (end_ok trivial (rs_t (v := .nil 1) rfl (rs_t (v := .d (eI (8 : Int))) rfl rs_nil)) (en_nilr (en_d (to_d _) en_nil)) ou_nil (by first | exact eok rfl rfl rfl rfl (And.intro (And.intro rfl rfl) trivial) | (refine eok ?_ ?_ ?_ ?_ ?_ <;> first | rfl | exact (And.intro (And.intro rfl rfl) trivial) | simp [retM, Mem.get, PV.renL, PV.ren, Blk.ren, comps, rhoR, rhoM, appN, PV.refsL, PV.refs, keys, nodupB, Blk.refs, allIn, Blk.bor])))
  · replace h := ite_f h h6
    refine rwp_f (isF h6) ?_
    refine rwp_skip ?_
    refine hK3 _ _ _ ?_
    refine rwp_seq fun K9 hK9 => ?_
    refine rwp_region fun K10 hK10 => ?_
    obtain ⟨h11, h⟩ := asq_inv h
    refine st1 448 rfl (mem' := [(384, .row true 1 ((List.replicate (64 : Int).toNat 0#8).map eU8))]) (ok (mks1 (e := eU8) 0#8 rfl rfl h11)) rfl ?_
    refine st0 512 rfl (ok (mv (.ref 384 (((List.replicate (64 : Int).toNat 0#8)).length) 0 (((List.replicate (64 : Int).toNat 0#8)).length)))) ?_
    refine hK10 _ _ ?_
    simp only [n0, n1, n2, n3, n4, n5, n6, n7, n8, n9, n10, n11, n12, n13, n14, n15, n16, n17, n18, n19, reduceIte]
    refine hK9 _ _ _ ?_
    refine rwp_seq fun K12 hK12 => ?_
    refine rwp_region fun K13 hK13 => ?_
    refine st0 576 rfl (ok (mv (.ref 384 (((List.replicate (64 : Int).toNat 0#8)).length) 0 (((List.replicate (64 : Int).toNat 0#8)).length)))) ?_
    refine st0 640 rfl (ok (mv (.d (eS a2)))) ?_
    refine st1 704 rfl (mem' := [(384, .row true 1 ((putL (List.replicate (64 : Int).toNat 0#8) 0 (a2.take (min a2.length (((List.replicate (64 : Int).toNat 0#8)).length)))).map eU8))]) (ok (cpsR (xs := (List.replicate (64 : Int).toNat 0#8)) (ys := a2) rfl rfl)) rfl ?_
    refine hK13 _ _ ?_
    simp only [n0, n1, n2, n3, n4, n5, n6, n7, n8, n9, n10, n11, n12, n13, n14, n15, n16, n17, n18, n19, reduceIte]
    refine hK12 _ _ _ ?_
    refine rwp_seq fun K14 hK14 => ?_
    refine rwp_region fun K15 hK15 => ?_
    refine st0 768 rfl (ok (mv (.d (eU64 a0)))) ?_
    refine st0 832 rfl (ok (mv (.d (eU64 a1)))) ?_
    refine st0 896 rfl (ok (mv (.ref 384 (((List.replicate (64 : Int).toNat 0#8)).length) 0 (((List.replicate (64 : Int).toNat 0#8)).length)))) ?_
    obtain ⟨y16, h17, h⟩ := bind_inv h
    refine st1 960 rfl (mem' := [(896, .row true 1 (y16.1.map eU8)), (384, .row false 1 ((putL (List.replicate (64 : Int).toNat 0#8) 0 (a2.take (min a2.length (((List.replicate (64 : Int).toNat 0#8)).length)))).map eU8))]) (call_ok (v := .tup [.ref 896 y16.1.length 0 y16.1.length, .d (eI y16.2)]) (u := [(896, .row true 1 (y16.1.map eU8)), (384, .row false 1 ((putL (List.replicate (64 : Int).toNat 0#8) 0 (a2.take (min a2.length (((List.replicate (64 : Int).toNat 0#8)).length)))).map eU8))]) (ar_d (eU64 a0) (ar_d (eU64 a1) (ar_to rfl (to_1 rfl (ds_n eU8 ds_nil)) (ar_to rfl (to_1 rfl (ds_r (ys := (putL (List.replicate (64 : Int).toNat 0#8) 0 (a2.take (min a2.length (((List.replicate (64 : Int).toNat 0#8)).length))))) rfl (by first | exact putLn.symm | simp) (by first | exact putLn.symm | simp) ds_nil)) ar_nil)))) rfl (passkeyref3SealOK a0 a1 ([] : List (BitVec 8)) (putL (List.replicate (64 : Int).toNat 0#8) 0 (a2.take (min a2.length (((List.replicate (64 : Int).toNat 0#8)).length)))) y16 h17) rfl) rfl ?_
    refine st0 1024 rfl (ok (extr (v := .ref 896 y16.1.length 0 y16.1.length) rfl rfl)) ?_
    refine st0 1088 rfl (ok (extr (v := .d (eI y16.2)) rfl rfl)) ?_
    refine st0 1152 rfl (ok (mv (.ref 896 y16.1.length 0 y16.1.length))) ?_
    refine st0 1216 rfl (ok (mv (.d (eI y16.2)))) ?_
    refine hK15 _ _ ?_
    simp only [n0, n1, n2, n3, n4, n5, n6, n7, n8, n9, n10, n11, n12, n13, n14, n15, n16, n17, n18, n19, reduceIte]
    refine hK14 _ _ _ ?_
    refine rwp_ret ?_
    obtain rfl := Option.some.inj h
    try simp only [thenK, blockK, reduceIte]
    exact Or.inl (end_ok trivial (rs_t (v := .ref 896 y16.1.length 0 y16.1.length) rfl (rs_t (v := .d (eI y16.2)) rfl rs_nil)) (en_ref (en_d (to_d _) en_nil)) ou_nil (by first | exact eok rfl rfl rfl rfl (And.intro (And.intro rfl rfl) trivial) | (refine eok ?_ ?_ ?_ ?_ ?_ <;> first | rfl | exact (And.intro (And.intro rfl rfl) trivial) | simp [retM, Mem.get, PV.renL, PV.ren, Blk.ren, comps, rhoR, rhoM, appN, PV.refsL, PV.refs, keys, nodupB, Blk.refs, allIn, Blk.bor])))

/-- passkey/passkeyref10.OpenPin -/
def passkeyref10OpenPinH : Hints := ⟨[(0, [0, 1]), (1, [6, 7]), (2, [6, 7, 17]), (3, [4, 5]), (4, [6, 8]), (5, [6, 8, 29]), (6, [6, 8]), (7, [6, 8, 40]), (8, [4, 5]), (9, [6, 8, 9]), (10, [6, 8, 9, 45]), (12, [6, 8, 9, 52]), (13, [4, 5]), (11, [6, 8, 9]), (14, [4, 5])], []⟩
def passkeyref10OpenPinRc : RCode :=
  .seq (.region false [⟨some 4, .mv, [.k (.d (.str ⟨#[]⟩))], none, []⟩, ⟨some 5, .mv, [.k (.d (.int .i64 0))], none, []⟩] [0, 1]) (.seq (.region false [⟨some 11, .mv, [.t 0], none,
  []⟩, ⟨some 12, .mv, [.t 1], none, []⟩, ⟨some 13, .call 44 true, [.t 11, .k (.nil 1), .t 12], none, []⟩, ⟨some 10, .mv, [.t 13], none, []⟩, ⟨some 14, .ext 0, [.t 10], none, []⟩,
  ⟨some 15, .ext 1, [.t 10], none, []⟩, ⟨some 6, .mv, [.t 14], none, []⟩, ⟨some 7, .mv, [.t 15], none, []⟩] [6, 7]) (.seq (.seq (.region false [⟨some 16, .mv, [.t 7], none, []⟩,
  ⟨some 17, .bin .neq, [.t 16, .k (.d (.int .i64 0))], none, []⟩] [6, 7, 17]) (.cond (.t 17) (.seq (.region false [⟨some 18, .mv, [.t 7], none, []⟩, ⟨some 4, .mv, [.k (.d (.str
  ⟨#[]⟩))], none, []⟩, ⟨some 5, .mv, [.t 18], none, []⟩] [4, 5]) .ret) .skip)) (.seq (.region false [⟨some 8, .mv, [.k (.d (.int .i64 0))], none, []⟩] [6, 8]) (.seq (.block 0
  (.loop [] (.seq (.seq (.region false [⟨some 19, .mv, [.t 8], none, []⟩, ⟨some 20, .mv, [.t 6], none, []⟩, ⟨some 21, .len, [.t 20], none, []⟩, ⟨some 22, .bin .lss, [.t 19, .t 21],
  none, []⟩, ⟨some 23, .mv, [.t 22], none, []⟩, ⟨some 24, .mv, [.t 6], some (23, true), []⟩, ⟨some 25, .mv, [.t 8], some (23, true), []⟩, ⟨some 26, .ia 1, [.t 24, .t 25], some (23,
  true), []⟩, ⟨some 27, .load 1 false, [.t 26], some (23, true), []⟩, ⟨some 28, .bin .neq, [.t 27, .k (.d (.int .u8 0))], some (23, true), []⟩, ⟨some 29, .pick, [.t 23, .t 28, .k
  (.d (.bool false))], none, []⟩] [6, 8, 29]) (.cond (.t 29) .skip (.exit 0))) (.block 1 (.region false [⟨some 30, .mv, [.t 8], none, []⟩, ⟨some 31, .bin .add, [.t 30, .k (.d (.int
  .i64 1))], none, []⟩, ⟨some 8, .mv, [.t 31], none, []⟩] [6, 8]))))) (.seq (.seq (.region false [⟨some 32, .mv, [.t 6], none, []⟩, ⟨some 33, .len, [.t 32], none, []⟩, ⟨some 34,
  .bin .neq, [.t 33, .k (.d (.int .i64 64))], none, []⟩, ⟨some 35, .mv, [.t 34], none, []⟩, ⟨some 36, .mv, [.t 8], some (35, false), []⟩, ⟨some 37, .mv, [.t 6], some (35, false),
  []⟩, ⟨some 38, .len, [.t 37], some (35, false), []⟩, ⟨some 39, .bin .eql, [.t 36, .t 38], some (35, false), []⟩, ⟨some 40, .pick, [.t 35, .k (.d (.bool true)), .t 39], none, []⟩]
  [6, 8, 40]) (.cond (.t 40) (.seq (.region false [⟨some 4, .mv, [.k (.d (.str ⟨#[]⟩))], none, []⟩, ⟨some 5, .mv, [.k (.d (.int .i64 2))], none, []⟩] [4, 5]) .ret) .skip)) (.seq
  (.seq (.region false [⟨some 41, .mv, [.t 8], none, []⟩, ⟨some 9, .mv, [.t 41], none, []⟩] [6, 8, 9]) (.block 2 (.loop [] (.seq (.seq (.region false [⟨some 42, .mv, [.t 9], none,
  []⟩, ⟨some 43, .mv, [.t 6], none, []⟩, ⟨some 44, .len, [.t 43], none, []⟩, ⟨some 45, .bin .lss, [.t 42, .t 44], none, []⟩] [6, 8, 9, 45]) (.cond (.t 45) .skip (.exit 2))) (.seq
  (.block 3 (.seq (.region false [⟨some 48, .mv, [.t 6], none, []⟩, ⟨some 49, .mv, [.t 9], none, []⟩, ⟨some 50, .ia 1, [.t 48, .t 49], none, []⟩, ⟨some 51, .load 1 false, [.t 50],
  none, []⟩, ⟨some 52, .bin .neq, [.t 51, .k (.d (.int .u8 0))], none, []⟩] [6, 8, 9, 52]) (.cond (.t 52) (.seq (.region false [⟨some 4, .mv, [.k (.d (.str ⟨#[]⟩))], none, []⟩,
  ⟨some 5, .mv, [.k (.d (.int .i64 2))], none, []⟩] [4, 5]) .ret) .skip))) (.region false [⟨some 46, .mv, [.t 9], none, []⟩, ⟨some 47, .bin .add, [.t 46, .k (.d (.int .i64 1))],
  none, []⟩, ⟨some 9, .mv, [.t 47], none, []⟩] [6, 8, 9])))))) (.seq (.region false [⟨some 53, .mv, [.t 6], none, []⟩, ⟨some 54, .mv, [.t 8], none, []⟩, ⟨some 55, .slice 1 false
  true false, [.t 53, .t 54], none, []⟩, ⟨some 56, .b2s, [.t 55], none, []⟩, ⟨some 4, .mv, [.t 56], none, []⟩, ⟨some 5, .mv, [.k (.d (.int .i64 0))], none, []⟩] [4, 5]) .ret)))))))
def passkeyref10OpenPinRr : List RR := [.t 4, .t 5]
theorem passkeyref10OpenPinC : compFn Tryd.prog 33 passkeyref10OpenPinH = some (passkeyref10OpenPinRc, passkeyref10OpenPinRr, 57) := by kernel_rfl
theorem passkeyref10OpenPinOK (a0 : BitVec 64) (a1 : List (BitVec 8)) (res : (List (BitVec 8)) × Int) (h : passkeyref10OpenPin a0 a1 = some res) : CallOK Tryd.prog 33 [.d (eU64 a0), .d ((eL 1 eU8) a1)] [] (.tup [.d (eS res.1), .d (eI res.2)]) [] := by
  unfold passkeyref10OpenPin at h
  refine callOK passkeyref10OpenPinC fm rfl ?_
  simp only [initE, initM, nbor, List.map_cons, List.map_nil, Nat.reduceAdd]
  unfold passkeyref10OpenPinRc
  refine rwp_seq fun K1 hK1 => ?_
  refine rwp_region fun K2 hK2 => ?_
  refine st0 128 rfl (ok (mv (.d (eS ([] : List (BitVec 8)))))) ?_
  refine st0 192 rfl (ok (mv (.d (eI (0 : Int))))) ?_
  refine hK2 _ _ ?_
  simp only [n0, n1, n2, n3, n4, n5, n6, n7, n8, n9, n10, n11, n12, n13, n14, n15, n16, n17, n18, n19, reduceIte]
  refine hK1 _ _ _ ?_
  refine rwp_seq fun K3 hK3 => ?_
  refine rwp_region fun K4 hK4 => ?_
  refine st0 256 rfl (ok (mv (.d (eU64 a0)))) ?_
  refine st0 320 rfl (ok (mv (.d ((eL 1 eU8) a1)))) ?_
  obtain ⟨y5, h6, h⟩ := bind_inv h
  refine st1 384 rfl (mem' := [(320, .row true 1 (y5.1.map eU8))]) (call_ok (v := .tup [.ref 320 y5.1.length 0 y5.1.length, .d (eI y5.2)]) (u := [(320, .row true 1 (y5.1.map eU8))]) (ar_d (eU64 a0) (ar_to rfl (to_1 rfl (ds_n eU8 ds_nil)) (ar_d ((eL 1 eU8) a1) ar_nil))) rfl (passkeyref3OpenOK a0 ([] : List (BitVec 8)) a1 y5 h6) rfl) rfl ?_
  refine st0 448 rfl (ok (mv (.tup [.ref 320 y5.1.length 0 y5.1.length, .d (eI y5.2)]))) ?_
  refine st0 512 rfl (ok (extr (v := .ref 320 y5.1.length 0 y5.1.length) rfl rfl)) ?_
  refine st0 576 rfl (ok (extr (v := .d (eI y5.2)) rfl rfl)) ?_
  refine st0 640 rfl (ok (mv (.ref 320 y5.1.length 0 y5.1.length))) ?_
  refine st0 704 rfl (ok (mv (.d (eI y5.2)))) ?_
  refine hK4 _ _ ?_
  simp only [n0, n1, n2, n3, n4, n5, n6, n7, n8, n9, n10, n11, n12, n13, n14, n15, n16, n17, n18, n19, reduceIte]
  refine hK3 _ _ _ ?_
  refine rwp_seq fun K7 hK7 => ?_
  refine rwp_seq fun K8 hK8 => ?_
  refine rwp_region fun K9 hK9 => ?_
  refine st0 768 rfl (ok (mv (.d (eI y5.2)))) ?_
  refine st0 832 rfl (ok (neqI _ (0 : Int))) ?_
  refine hK9 _ _ ?_
  simp only [n0, n1, n2, n3, n4, n5, n6, n7, n8, n9, n10, n11, n12, n13, n14, n15, n16, n17, n18, n19, reduceIte]
  refine hK8 _ _ _ ?_
  rcases Bool.eq_false_or_eq_true ((y5.2 != (0 : Int))) with h10 | h10
  · replace h := ite_t h h10
    refine rwp_t (isT h10) ?_
    refine rwp_seq fun K11 hK11 => ?_
    refine rwp_region fun K12 hK12 => ?_
    refine st0 896 rfl (ok (mv (.d (eI y5.2)))) ?_
    refine st0 960 rfl (ok (mv (.d (eS ([] : List (BitVec 8)))))) ?_
    refine st0 1024 rfl (ok (mv (.d (eI y5.2)))) ?_
    refine hK12 _ _ ?_
    simp only [n0, n1, n2, n3, n4, n5, n6, n7, n8, n9, n10, n11, n12, n13, n14, n15, n16, n17, n18, n19, reduceIte]
    refine hK11 _ _ _ ?_
    refine rwp_ret ?_
    obtain rfl := Option.some.inj h
    try simp only [thenK, blockK, reduceIte]
    exact Or.inl (end_ok trivial (rs_t (v := .d (eS ([] : List (BitVec 8)))) rfl (rs_t (v := .d (eI y5.2)) rfl rs_nil)) (en_d (to_d _) (en_d (to_d _) en_nil)) ou_nil (by first | exact eok rfl rfl rfl rfl trivial | (refine eok ?_ ?_ ?_ ?_ ?_ <;> first | rfl | exact trivial | simp [retM, Mem.get, PV.renL, PV.ren, Blk.ren, comps, rhoR, rhoM, appN, PV.refsL, PV.refs, keys, nodupB, Blk.refs, allIn, Blk.bor])))
  · replace h := ite_f h h10
    refine rwp_f (isF h10) ?_
    refine rwp_skip ?_
    refine hK7 _ _ _ ?_
    refine rwp_seq fun K13 hK13 => ?_
    refine rwp_region fun K14 hK14 => ?_
    refine st0 896 rfl (ok (mv (.d (eI (0 : Int))))) ?_
    refine hK14 _ _ ?_
    simp only [n0, n1, n2, n3, n4, n5, n6, n7, n8, n9, n10, n11, n12, n13, n14, n15, n16, n17, n18, n19, reduceIte]
    refine hK13 _ _ _ ?_
    refine rwp_join ([], []) 2816 (fun env mem => ∃ (v15 : Int), passkeyref10OpenPinJ1 y5 v15 = some res ∧ env = [(6, .ref 320 y5.1.length 0 y5.1.length), (8, .d (eI v15))] ∧ mem = [(320, .row true 1 (y5.1.map eU8))]) (fun _ _ hI => ?_) (fun K16 hK16 => ?_)
    · obtain ⟨v15, h, rfl, rfl⟩ := hI
      unfold passkeyref10OpenPinJ1 at h
      refine rwp_seq fun K17 hK17 => ?_
      refine rwp_join ([], []) 3456 (fun env mem => ∃ (v18 : Bool), passkeyref10OpenPinJ2 y5 v15 v18 = some res ∧ env = [(6, .ref 320 y5.1.length 0 y5.1.length), (8, .d (eI v15)), (40, .d (eB v18))] ∧ mem = [(320, .row true 1 (y5.1.map eU8))]) (fun _ _ hI => ?_) (fun K19 hK19 => ?_)
      · obtain ⟨v18, h, rfl, rfl⟩ := hI
        unfold passkeyref10OpenPinJ2 at h
        rcases Bool.eq_false_or_eq_true (v18) with h20 | h20
        · replace h := ite_t h h20
          refine rwp_t (isT h20) ?_
          refine rwp_seq fun K21 hK21 => ?_
          refine rwp_region fun K22 hK22 => ?_
          refine st0 3520 rfl (ok (mv (.d (eS ([] : List (BitVec 8)))))) ?_
          refine st0 3584 rfl (ok (mv (.d (eI (2 : Int))))) ?_
          refine hK22 _ _ ?_
          simp only [n0, n1, n2, n3, n4, n5, n6, n7, n8, n9, n10, n11, n12, n13, n14, n15, n16, n17, n18, n19, reduceIte]
          refine hK21 _ _ _ ?_
          refine rwp_ret ?_
          obtain rfl := Option.some.inj h
          try simp only [thenK, blockK, reduceIte]
          exact Or.inl (end_ok trivial (rs_t (v := .d (eS ([] : List (BitVec 8)))) rfl (rs_t (v := .d (eI (2 : Int))) rfl rs_nil)) (en_d (to_d _) (en_d (to_d _) en_nil)) ou_nil (by first | exact eok rfl rfl rfl rfl trivial | (refine eok ?_ ?_ ?_ ?_ ?_ <;> first | rfl | exact trivial | simp [retM, Mem.get, PV.renL, PV.ren, Blk.ren, comps, rhoR, rhoM, appN, PV.refsL, PV.refs, keys, nodupB, Blk.refs, allIn, Blk.bor])))
        · replace h := ite_f h h20
          refine rwp_f (isF h20) ?_
          refine rwp_skip ?_
          refine hK17 _ _ _ ?_
          refine rwp_join ([], []) 4800 (fun env mem => passkeyref10OpenPinJ3 y5 v15 = some res ∧ env = [(6, .ref 320 y5.1.length 0 y5.1.length), (8, .d (eI v15))] ∧ mem = [(320, .row true 1 (y5.1.map eU8))]) (fun _ _ hI => ?_) (fun K23 hK23 => ?_)
          · obtain ⟨h, rfl, rfl⟩ := hI
            unfold passkeyref10OpenPinJ3 at h
            refine rwp_seq fun K24 hK24 => ?_
            refine rwp_region fun K25 hK25 => ?_
            refine st0 4864 rfl (ok (mv (.ref 320 y5.1.length 0 y5.1.length))) ?_
            refine st0 4928 rfl (ok (mv (.d (eI v15)))) ?_
            obtain ⟨h26, h⟩ := asq_inv h
            refine st0 4992 rfl (ok (slR_h (ys := y5.1.map eU8) rfl (by simp) h26)) ?_
            refine st0 5056 rfl (ok (b2s (contP (xs := y5.1) rfl rfl))) ?_
            refine st0 5120 rfl (ok (mv (.d (eS ((y5.1.drop (0 + 0)).take (v15.toNat - 0)))))) ?_
            refine st0 5184 rfl (ok (mv (.d (eI (0 : Int))))) ?_
            refine hK25 _ _ ?_
            simp only [n0, n1, n2, n3, n4, n5, n6, n7, n8, n9, n10, n11, n12, n13, n14, n15, n16, n17, n18, n19, reduceIte]
            refine hK24 _ _ _ ?_
            refine rwp_ret ?_
            obtain rfl := Option.some.inj h
            try simp only [thenK, blockK, reduceIte]
            exact Or.inl (end_ok trivial (rs_t (v := .d (eS ((y5.1.drop (0 + 0)).take (v15.toNat - 0)))) rfl (rs_t (v := .d (eI (0 : Int))) rfl rs_nil)) (en_d (to_d _) (en_d (to_d _) en_nil)) ou_nil (by first | exact eok rfl rfl rfl rfl trivial | (refine eok ?_ ?_ ?_ ?_ ?_ <;> first | rfl | exact trivial | simp [retM, Mem.get, PV.renL, PV.ren, Blk.ren, comps, rhoR, rhoM, appN, PV.refsL, PV.refs, keys, nodupB, Blk.refs, allIn, Blk.bor])))
          · refine rwp_seq fun K27 hK27 => ?_
            refine rwp_region fun K28 hK28 => ?_
            refine st0 3520 rfl (ok (mv (.d (eI v15)))) ?_
            refine st0 3584 rfl (ok (mv (.d (eI v15)))) ?_
            refine hK28 _ _ ?_
            simp only [n0, n1, n2, n3, n4, n5, n6, n7, n8, n9, n10, n11, n12, n13, n14, n15, n16, n17, n18, n19, reduceIte]
            refine hK27 _ _ _ ?_
            refine rwp_block fun K29 hK29 => ?_
            refine rwp_loop ([], []) 4480 (fun k env mem => ∃ (v30 : Int), passkeyref10OpenPinL4 y5 v15 k v30 = some res ∧ env = [(6, .ref 320 y5.1.length 0 y5.1.length), (8, .d (eI v15)), (9, .d (eI v30))] ∧ mem = [(320, .row true 1 (y5.1.map eU8))]) FUEL ⟨_, _, Settled.refl, _, _, ⟨_, h, rfl, rfl⟩, ⟨rfl, ⟨⟨rfl, rfl⟩, ⟨⟨rfl, rfl⟩, ⟨⟨rfl, rfl⟩, trivial⟩⟩⟩, ⟨⟨rfl, rfl⟩, trivial⟩⟩, rfl⟩ (fun k4 env1 mem1 hI K31 hK31 => ?_)
            obtain ⟨v30, h, rfl, rfl⟩ := hI
            cases k4 with
            | zero => simp [passkeyref10OpenPinL4] at h
            | succ k4 =>
              rw [passkeyref10OpenPinL4] at h
              refine rwp_seq fun K32 hK32 => ?_
              refine rwp_seq fun K33 hK33 => ?_
              refine rwp_region fun K34 hK34 => ?_
              refine st0 4544 rfl (ok (mv (.d (eI v30)))) ?_
              refine st0 4608 rfl (ok (mv (.ref 320 y5.1.length 0 y5.1.length))) ?_
              refine st0 4672 rfl (ok (lenR _ _ _ _)) ?_
              refine st0 4736 rfl (ok (lssI _ _)) ?_
              refine hK34 _ _ ?_
              simp only [n0, n1, n2, n3, n4, n5, n6, n7, n8, n9, n10, n11, n12, n13, n14, n15, n16, n17, n18, n19, reduceIte]
              refine hK33 _ _ _ ?_
              rcases Bool.eq_false_or_eq_true ((decide (v30 < (y5.1.length : Int)))) with h35 | h35
              · replace h := ite_t h h35
                refine rwp_t (isT h35) ?_
                refine rwp_skip ?_
                refine hK32 _ _ _ ?_
                refine rwp_seq fun K36 hK36 => ?_
                refine rwp_block fun K37 hK37 => ?_
                refine rwp_seq fun K38 hK38 => ?_
                refine rwp_region fun K39 hK39 => ?_
                refine st0 4800 rfl (ok (mv (.ref 320 y5.1.length 0 y5.1.length))) ?_
                refine st0 4864 rfl (ok (mv (.d (eI v30)))) ?_
                obtain ⟨h40, h⟩ := asq_inv h
                refine st0 4928 rfl (ok (iaR (xs := y5.1) (e := eU8) rfl rfl h40)) ?_
                refine st0 4992 rfl (ok (ld_r (e := eU8) (xs := y5.1) 0#8 rfl rfl (by have := h40; simp at this ⊢; omega) rfl)) ?_
                refine st0 5056 rfl (ok (neq8 _ (0#8))) ?_
                refine hK39 _ _ ?_
                simp only [n0, n1, n2, n3, n4, n5, n6, n7, n8, n9, n10, n11, n12, n13, n14, n15, n16, n17, n18, n19, reduceIte]
                refine hK38 _ _ _ ?_
                rcases Bool.eq_false_or_eq_true (((y5.1.getD (0 + v30.toNat) 0#8) != (0#8))) with h41 | h41
                · replace h := ite_t h h41
                  refine rwp_t (isT h41) ?_
                  refine rwp_seq fun K42 hK42 => ?_
                  refine rwp_region fun K43 hK43 => ?_
                  refine st0 5120 rfl (ok (mv (.d (eS ([] : List (BitVec 8)))))) ?_
                  refine st0 5184 rfl (ok (mv (.d (eI (2 : Int))))) ?_
                  refine hK43 _ _ ?_
                  simp only [n0, n1, n2, n3, n4, n5, n6, n7, n8, n9, n10, n11, n12, n13, n14, n15, n16, n17, n18, n19, reduceIte]
                  refine hK42 _ _ _ ?_
                  refine rwp_ret ?_
                  obtain rfl := Option.some.inj h
                  try simp only [thenK, blockK, reduceIte]
                  exact Or.inl (end_ok trivial (rs_t (v := .d (eS ([] : List (BitVec 8)))) rfl (rs_t (v := .d (eI (2 : Int))) rfl rs_nil)) (en_d (to_d _) (en_d (to_d _) en_nil)) ou_nil (by first | exact eok rfl rfl rfl rfl trivial | (refine eok ?_ ?_ ?_ ?_ ?_ <;> first | rfl | exact trivial | simp [retM, Mem.get, PV.renL, PV.ren, Blk.ren, comps, rhoR, rhoM, appN, PV.refsL, PV.refs, keys, nodupB, Blk.refs, allIn, Blk.bor])))
                · replace h := ite_f h h41
                  refine rwp_f (isF h41) ?_
                  refine rwp_skip ?_
                  refine hK37 _ _ _ ?_
                  refine hK36 _ _ _ ?_
                  refine rwp_region fun K44 hK44 => ?_
                  refine st0 5120 rfl (ok (mv (.d (eI v30)))) ?_
                  refine st0 5184 rfl (ok (addI _ (1 : Int))) ?_
                  refine st0 5248 rfl (ok (mv (.d (eI (w64 (v30 + (1 : Int))))))) ?_
                  refine hK44 _ _ ?_
                  simp only [n0, n1, n2, n3, n4, n5, n6, n7, n8, n9, n10, n11, n12, n13, n14, n15, n16, n17, n18, n19, reduceIte]
                  exact hK31.out _ _ _ k4 (Nat.lt_succ_self k4) ⟨_, _, Settled.refl, _, _, ⟨_, h, rfl, rfl⟩, ⟨rfl, ⟨⟨rfl, rfl⟩, ⟨⟨rfl, rfl⟩, ⟨⟨rfl, rfl⟩, trivial⟩⟩⟩, ⟨⟨rfl, rfl⟩, trivial⟩⟩, rfl⟩
              · replace h := ite_f h h35
                refine rwp_f (isF h35) ?_
                refine rwp_exit ?_
                refine hK29 _ _ _ ?_
                exact hK23 _ _ _ ⟨_, _, Settled.refl, _, _, ⟨h, rfl, rfl⟩, ⟨rfl, ⟨⟨rfl, rfl⟩, ⟨⟨rfl, rfl⟩, trivial⟩⟩, ⟨⟨rfl, rfl⟩, trivial⟩⟩, rfl⟩
      · refine rwp_region fun K45 hK45 => ?_
        refine st0 2880 rfl (ok (mv (.ref 320 y5.1.length 0 y5.1.length))) ?_
        refine st0 2944 rfl (ok (lenR _ _ _ _)) ?_
        refine st0 3008 rfl (ok (neqI _ (64 : Int))) ?_
        refine st0 3072 rfl (ok (mv (.d (eB ((y5.1.length : Int) != (64 : Int)))))) ?_
        rcases Bool.eq_false_or_eq_true (((y5.1.length : Int) != (64 : Int))) with h46 | h46
        · replace h := ite_t h h46
          refine stGN 3136 rfl rfl h46 ?_
          refine stGN 3200 rfl rfl h46 ?_
          refine stGN 3264 rfl rfl h46 ?_
          refine stGN 3328 rfl rfl h46 ?_
          refine st0 3392 rfl (ok (pick_t h46 (.d (eB true)) _)) ?_
          refine hK45 _ _ ?_
          simp only [n0, n1, n2, n3, n4, n5, n6, n7, n8, n9, n10, n11, n12, n13, n14, n15, n16, n17, n18, n19, reduceIte]
          exact hK19 _ _ _ ⟨_, _, Settled.refl, _, _, ⟨_, h, rfl, rfl⟩, ⟨rfl, ⟨⟨rfl, rfl⟩, ⟨⟨rfl, rfl⟩, ⟨⟨rfl, rfl⟩, trivial⟩⟩⟩, ⟨⟨rfl, rfl⟩, trivial⟩⟩, rfl⟩
        · replace h := ite_f h h46
          refine stG (isF h46) ?_
          refine st0 3136 rfl (ok (mv (.d (eI v15)))) ?_
          refine stG (isF h46) ?_
          refine st0 3200 rfl (ok (mv (.ref 320 y5.1.length 0 y5.1.length))) ?_
          refine stG (isF h46) ?_
          refine st0 3264 rfl (ok (lenR _ _ _ _)) ?_
          refine stG (isF h46) ?_
          refine st0 3328 rfl (ok (eqlI _ _)) ?_
          refine st0 3392 rfl (ok (pick_f h46 _ (.d (eB (v15 == (y5.1.length : Int)))))) ?_
          refine hK45 _ _ ?_
          simp only [n0, n1, n2, n3, n4, n5, n6, n7, n8, n9, n10, n11, n12, n13, n14, n15, n16, n17, n18, n19, reduceIte]
          exact hK19 _ _ _ ⟨_, _, Settled.refl, _, _, ⟨_, h, rfl, rfl⟩, ⟨rfl, ⟨⟨rfl, rfl⟩, ⟨⟨rfl, rfl⟩, ⟨⟨rfl, rfl⟩, trivial⟩⟩⟩, ⟨⟨rfl, rfl⟩, trivial⟩⟩, rfl⟩
    · refine rwp_block fun K47 hK47 => ?_
      refine rwp_loop ([], []) 1984 (fun k env mem => ∃ (v48 : Int), passkeyref10OpenPinL5 y5 k v48 = some res ∧ env = [(6, .ref 320 y5.1.length 0 y5.1.length), (8, .d (eI v48))] ∧ mem = [(320, .row true 1 (y5.1.map eU8))]) FUEL ⟨_, _, Settled.refl, _, _, ⟨_, h, rfl, rfl⟩, ⟨rfl, ⟨⟨rfl, rfl⟩, ⟨⟨rfl, rfl⟩, trivial⟩⟩, ⟨⟨rfl, rfl⟩, trivial⟩⟩, rfl⟩ (fun k5 env1 mem1 hI K49 hK49 => ?_)
      obtain ⟨v48, h, rfl, rfl⟩ := hI
      cases k5 with
      | zero => simp [passkeyref10OpenPinL5] at h
      | succ k5 =>
        rw [passkeyref10OpenPinL5] at h
        refine rwp_seq fun K50 hK50 => ?_
        refine rwp_join ([], []) 2752 (fun env mem => ∃ (v51 : Bool), passkeyref10OpenPinJ6 (passkeyref10OpenPinL5 y5 k5) y5 v48 v51 = some res ∧ env = [(6, .ref 320 y5.1.length 0 y5.1.length), (8, .d (eI v48)), (29, .d (eB v51))] ∧ mem = [(320, .row true 1 (y5.1.map eU8))]) (fun _ _ hI => ?_) (fun K52 hK52 => ?_)
        · obtain ⟨v51, h, rfl, rfl⟩ := hI
          unfold passkeyref10OpenPinJ6 at h
          rcases Bool.eq_false_or_eq_true (v51) with h53 | h53
          · replace h := ite_t h h53
            refine rwp_t (isT h53) ?_
            refine rwp_skip ?_
            refine hK50 _ _ _ ?_
            refine rwp_block fun K54 hK54 => ?_
            refine rwp_region fun K55 hK55 => ?_
            refine st0 2816 rfl (ok (mv (.d (eI v48)))) ?_
            refine st0 2880 rfl (ok (addI _ (1 : Int))) ?_
            refine st0 2944 rfl (ok (mv (.d (eI (w64 (v48 + (1 : Int))))))) ?_
            refine hK55 _ _ ?_
            simp only [n0, n1, n2, n3, n4, n5, n6, n7, n8, n9, n10, n11, n12, n13, n14, n15, n16, n17, n18, n19, reduceIte]
            refine hK54 _ _ _ ?_
            exact hK49.out _ _ _ k5 (Nat.lt_succ_self k5) ⟨_, _, Settled.refl, _, _, ⟨_, h, rfl, rfl⟩, ⟨rfl, ⟨⟨rfl, rfl⟩, ⟨⟨rfl, rfl⟩, trivial⟩⟩, ⟨⟨rfl, rfl⟩, trivial⟩⟩, rfl⟩
          · replace h := ite_f h h53
            refine rwp_f (isF h53) ?_
            refine rwp_exit ?_
            refine hK47 _ _ _ ?_
            exact hK16 _ _ _ ⟨_, _, Settled.refl, _, _, ⟨_, h, rfl, rfl⟩, ⟨rfl, ⟨⟨rfl, rfl⟩, ⟨⟨rfl, rfl⟩, trivial⟩⟩, ⟨⟨rfl, rfl⟩, trivial⟩⟩, rfl⟩
        · refine rwp_region fun K56 hK56 => ?_
          refine st0 2048 rfl (ok (mv (.d (eI v48)))) ?_
          refine st0 2112 rfl (ok (mv (.ref 320 y5.1.length 0 y5.1.length))) ?_
          refine st0 2176 rfl (ok (lenR _ _ _ _)) ?_
          refine st0 2240 rfl (ok (lssI _ _)) ?_
          refine st0 2304 rfl (ok (mv (.d (eB (decide (v48 < (y5.1.length : Int))))))) ?_
          rcases Bool.eq_false_or_eq_true ((decide (v48 < (y5.1.length : Int)))) with h57 | h57
          · replace h := ite_t h h57
            refine stG (isT h57) ?_
            refine st0 2368 rfl (ok (mv (.ref 320 y5.1.length 0 y5.1.length))) ?_
            refine stG (isT h57) ?_
            refine st0 2432 rfl (ok (mv (.d (eI v48)))) ?_
            refine stG (isT h57) ?_
            obtain ⟨h58, h⟩ := asq_inv h
            refine st0 2496 rfl (ok (iaR (xs := y5.1) (e := eU8) rfl rfl h58)) ?_
            refine stG (isT h57) ?_
            refine st0 2560 rfl (ok (ld_r (e := eU8) (xs := y5.1) 0#8 rfl rfl (by have := h58; simp at this ⊢; omega) rfl)) ?_
            refine stG (isT h57) ?_
            refine st0 2624 rfl (ok (neq8 _ (0#8))) ?_
            refine st0 2688 rfl (ok (pick_t h57 (.d (eB ((y5.1.getD (0 + v48.toNat) 0#8) != (0#8)))) _)) ?_
            refine hK56 _ _ ?_
            simp only [n0, n1, n2, n3, n4, n5, n6, n7, n8, n9, n10, n11, n12, n13, n14, n15, n16, n17, n18, n19, reduceIte]
            exact hK52 _ _ _ ⟨_, _, Settled.refl, _, _, ⟨_, h, rfl, rfl⟩, ⟨rfl, ⟨⟨rfl, rfl⟩, ⟨⟨rfl, rfl⟩, ⟨⟨rfl, rfl⟩, trivial⟩⟩⟩, ⟨⟨rfl, rfl⟩, trivial⟩⟩, rfl⟩
          · replace h := ite_f h h57
            refine stGN 2368 rfl rfl h57 ?_
            refine stGN 2432 rfl rfl h57 ?_
            refine stGN 2496 rfl rfl h57 ?_
            refine stGN 2560 rfl rfl h57 ?_
            refine stGN 2624 rfl rfl h57 ?_
            refine st0 2688 rfl (ok (pick_f h57 _ (.d (eB false)))) ?_
            refine hK56 _ _ ?_
            simp only [n0, n1, n2, n3, n4, n5, n6, n7, n8, n9, n10, n11, n12, n13, n14, n15, n16, n17, n18, n19, reduceIte]
            exact hK52 _ _ _ ⟨_, _, Settled.refl, _, _, ⟨_, h, rfl, rfl⟩, ⟨rfl, ⟨⟨rfl, rfl⟩, ⟨⟨rfl, rfl⟩, ⟨⟨rfl, rfl⟩, trivial⟩⟩⟩, ⟨⟨rfl, rfl⟩, trivial⟩⟩, rfl⟩

/-- passkey/passkeylaw12.pins -/
def passkeylaw12pinsH : Hints := ⟨[(0, [0, 1]), (1, [0, 1, 5, 6]), (2, [5, 6, 7, 8]), (3, [4])], []⟩
def passkeylaw12pinsRc : RCode :=
  .seq (.region false [⟨some 4, .mv, [.k (.d (.bool false))], none, []⟩] [0, 1]) (.seq (.region false [⟨some 10, .mv, [.t 0], none, []⟩, ⟨some 11, .mv, [.t 1], none, []⟩, ⟨some 12,
  .call 24 false, [.t 10, .t 11], none, []⟩, ⟨some 9, .mv, [.t 12], none, []⟩, ⟨some 13, .ext 0, [.t 9], none, []⟩, ⟨some 14, .ext 1, [.t 9], none, []⟩, ⟨some 5, .mv, [.t 13],
  none, []⟩, ⟨some 6, .mv, [.t 14], none, []⟩] [0, 1, 5, 6]) (.seq (.region false [⟨some 16, .mv, [.t 0], none, []⟩, ⟨some 17, .mv, [.t 1], none, []⟩, ⟨some 18, .call 33 false, [.t
  16, .t 17], none, []⟩, ⟨some 15, .mv, [.t 18], none, []⟩, ⟨some 19, .ext 0, [.t 15], none, []⟩, ⟨some 20, .ext 1, [.t 15], none, []⟩, ⟨some 7, .mv, [.t 19], none, []⟩, ⟨some 8,
  .mv, [.t 20], none, []⟩] [5, 6, 7, 8]) (.seq (.region false [⟨some 21, .mv, [.t 5], none, []⟩, ⟨some 22, .mv, [.t 7], none, []⟩, ⟨some 23, .bin .eql, [.t 21, .t 22], none, []⟩,
  ⟨some 24, .mv, [.t 23], none, []⟩, ⟨some 25, .mv, [.t 6], some (24, true), []⟩, ⟨some 26, .mv, [.t 8], some (24, true), []⟩, ⟨some 27, .bin .eql, [.t 25, .t 26], some (24, true),
  []⟩, ⟨some 28, .pick, [.t 24, .t 27, .k (.d (.bool false))], none, []⟩, ⟨some 4, .mv, [.t 28], none, []⟩] [4]) .ret)))
def passkeylaw12pinsRr : List RR := [.t 4]
theorem passkeylaw12pinsC : compFn Tryd.prog 13 passkeylaw12pinsH = some (passkeylaw12pinsRc, passkeylaw12pinsRr, 29) := by kernel_rfl
theorem passkeylaw12pinsOK (a0 : BitVec 64) (a1 : List (BitVec 8)) (res : Bool) (h : passkeylaw12pins a0 a1 = some res) : CallOK Tryd.prog 13 [.d (eU64 a0), .d ((eL 1 eU8) a1)] [] (.d (eB res)) [] := by
  unfold passkeylaw12pins at h
  refine callOK passkeylaw12pinsC fm rfl ?_
  simp only [initE, initM, nbor, List.map_cons, List.map_nil, Nat.reduceAdd]
  unfold passkeylaw12pinsRc
  refine rwp_seq fun K1 hK1 => ?_
  refine rwp_region fun K2 hK2 => ?_
  refine st0 128 rfl (ok (mv (.d (eB false)))) ?_
  refine hK2 _ _ ?_
  simp only [n0, n1, n2, n3, n4, n5, n6, n7, n8, n9, n10, n11, n12, n13, n14, n15, n16, n17, n18, n19, reduceIte]
  refine hK1 _ _ _ ?_
  refine rwp_seq fun K3 hK3 => ?_
  refine rwp_region fun K4 hK4 => ?_
  refine st0 192 rfl (ok (mv (.d (eU64 a0)))) ?_
  refine st0 256 rfl (ok (mv (.d ((eL 1 eU8) a1)))) ?_
  obtain ⟨y5, h6, h⟩ := bind_inv h
  refine st0 320 rfl (call_ok (v := .tup [.d (eS y5.1), .d (eI y5.2)]) (u := []) (ar_d (eU64 a0) (ar_d ((eL 1 eU8) a1) ar_nil)) rfl (tokenOpenPinOK a0 a1 y5 h6) rfl) ?_
  refine st0 384 rfl (ok (mv (.tup [.d (eS y5.1), .d (eI y5.2)]))) ?_
  refine st0 448 rfl (ok (extr (v := .d (eS y5.1)) rfl rfl)) ?_
  refine st0 512 rfl (ok (extr (v := .d (eI y5.2)) rfl rfl)) ?_
  refine st0 576 rfl (ok (mv (.d (eS y5.1)))) ?_
  refine st0 640 rfl (ok (mv (.d (eI y5.2)))) ?_
  refine hK4 _ _ ?_
  simp only [n0, n1, n2, n3, n4, n5, n6, n7, n8, n9, n10, n11, n12, n13, n14, n15, n16, n17, n18, n19, reduceIte]
  refine hK3 _ _ _ ?_
  refine rwp_seq fun K7 hK7 => ?_
  refine rwp_region fun K8 hK8 => ?_
  refine st0 704 rfl (ok (mv (.d (eU64 a0)))) ?_
  refine st0 768 rfl (ok (mv (.d ((eL 1 eU8) a1)))) ?_
  obtain ⟨y9, h10, h⟩ := bind_inv h
  refine st0 832 rfl (call_ok (v := .tup [.d (eS y9.1), .d (eI y9.2)]) (u := []) (ar_d (eU64 a0) (ar_d ((eL 1 eU8) a1) ar_nil)) rfl (passkeyref10OpenPinOK a0 a1 y9 h10) rfl) ?_
  refine st0 896 rfl (ok (mv (.tup [.d (eS y9.1), .d (eI y9.2)]))) ?_
  refine st0 960 rfl (ok (extr (v := .d (eS y9.1)) rfl rfl)) ?_
  refine st0 1024 rfl (ok (extr (v := .d (eI y9.2)) rfl rfl)) ?_
  refine st0 1088 rfl (ok (mv (.d (eS y9.1)))) ?_
  refine st0 1152 rfl (ok (mv (.d (eI y9.2)))) ?_
  refine hK8 _ _ ?_
  simp only [n0, n1, n2, n3, n4, n5, n6, n7, n8, n9, n10, n11, n12, n13, n14, n15, n16, n17, n18, n19, reduceIte]
  refine hK7 _ _ _ ?_
  refine rwp_seq fun K11 hK11 => ?_
  refine rwp_region fun K12 hK12 => ?_
  refine st0 1216 rfl (ok (mv (.d (eS y5.1)))) ?_
  refine st0 1280 rfl (ok (mv (.d (eS y9.1)))) ?_
  refine st0 1344 rfl (ok (eqlS y5.1 y9.1)) ?_
  refine st0 1408 rfl (ok (mv (.d (eB (y5.1 == y9.1))))) ?_
  rcases Bool.eq_false_or_eq_true ((y5.1 == y9.1)) with h13 | h13
  · replace h := ite_t h h13
    refine stG (isT h13) ?_
    refine st0 1472 rfl (ok (mv (.d (eI y5.2)))) ?_
    refine stG (isT h13) ?_
    refine st0 1536 rfl (ok (mv (.d (eI y9.2)))) ?_
    refine stG (isT h13) ?_
    refine st0 1600 rfl (ok (eqlI _ _)) ?_
    refine st0 1664 rfl (ok (pick_t h13 (.d (eB (y5.2 == y9.2))) _)) ?_
    refine st0 1728 rfl (ok (mv (.d (eB (y5.2 == y9.2))))) ?_
    refine hK12 _ _ ?_
    simp only [n0, n1, n2, n3, n4, n5, n6, n7, n8, n9, n10, n11, n12, n13, n14, n15, n16, n17, n18, n19, reduceIte]
    refine hK11 _ _ _ ?_
    refine rwp_ret ?_
    obtain rfl := Option.some.inj h
    try simp only [thenK, blockK, reduceIte]
    exact Or.inl (end_ok trivial (rs_t (v := .d (eB (y5.2 == y9.2))) rfl rs_nil) (en_d (to_d _) en_nil) ou_nil (by first | exact eok rfl rfl rfl rfl trivial | (refine eok ?_ ?_ ?_ ?_ ?_ <;> first | rfl | exact trivial | simp [retM, Mem.get, PV.renL, PV.ren, Blk.ren, comps, rhoR, rhoM, appN, PV.refsL, PV.refs, keys, nodupB, Blk.refs, allIn, Blk.bor])))
  · replace h := ite_f h h13
    refine stGN 1472 rfl rfl h13 ?_
    refine stGN 1536 rfl rfl h13 ?_
    refine stGN 1600 rfl rfl h13 ?_
    refine st0 1664 rfl (ok (pick_f h13 _ (.d (eB false)))) ?_
    refine st0 1728 rfl (ok (mv (.d (eB false)))) ?_
    refine hK12 _ _ ?_
    simp only [n0, n1, n2, n3, n4, n5, n6, n7, n8, n9, n10, n11, n12, n13, n14, n15, n16, n17, n18, n19, reduceIte]
    refine hK11 _ _ _ ?_
    refine rwp_ret ?_
    obtain rfl := Option.some.inj h
    try simp only [thenK, blockK, reduceIte]
    exact Or.inl (end_ok trivial (rs_t (v := .d (eB false)) rfl rs_nil) (en_d (to_d _) en_nil) ou_nil (by first | exact eok rfl rfl rfl rfl trivial | (refine eok ?_ ?_ ?_ ?_ ?_ <;> first | rfl | exact trivial | simp [retM, Mem.get, PV.renL, PV.ren, Blk.ren, comps, rhoR, rhoM, appN, PV.refsL, PV.refs, keys, nodupB, Blk.refs, allIn, Blk.bor])))

end Go.Proofs.Ty
