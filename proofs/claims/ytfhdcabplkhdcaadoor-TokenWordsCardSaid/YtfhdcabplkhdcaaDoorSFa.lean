/- Each Go function comes to what its plain function says. PRINTED by a program of this session (ty.py). -/
import Derived.Test.YtfhdcabplkhdcaaDoorS8
set_option linter.unusedVariables false
set_option linter.unusedSimpArgs false
set_option maxHeartbeats 4000000
set_option maxRecDepth 10000
namespace Go.Proofs.Ty
open Go Go.RW Go.Proofs
open Go.RW renaming thenK → n0, blockK → n1, keepE → n2, updM → n3, envE → n4
open Go.RW.Mem renaming get → n5
open List renaming filter_cons → n6, filter_nil → n7, nil_append → n8, cons_append → n9, map_cons → n10, map_nil → n11, length_cons → n12, length_nil → n13
open Option renaming isNone_none → n14, isNone_some → n15
open Bool renaming false_eq_true → n16
open Nat renaming reduceEqDiff → n17, reduceAdd → n18, reduceMul → n19
/-- passkey/passkeyref10.SealWord -/
def passkeyref10SealWordH : Hints := ⟨[(0, [0, 1, 2]), (1, [7]), (2, [6])], []⟩
def passkeyref10SealWordRc : RCode :=
  .seq (.region false [⟨some 6, .mv, [.k (.nil 1)], none, []⟩] [0, 1, 2]) (.seq (.region false [⟨some 10, .mv, [.t 0], none, []⟩, ⟨some 11, .mv, [.t 1], none, []⟩, ⟨some 12, .mv, [.t
  2], none, []⟩, ⟨some 13, .bslice 1 false 1 [.d (.int .u64 0)] [0], [.t 12], none, []⟩, ⟨some 14, .call 31 true, [.t 13], none, []⟩, ⟨some 15, .call 12 true, [.t 10, .t 11, .k
  (.nil 1), .t 14], none, []⟩, ⟨some 9, .mv, [.t 15], none, []⟩, ⟨some 16, .ext 0, [.t 9], none, []⟩, ⟨some 17, .ext 1, [.t 9], none, []⟩, ⟨some 7, .mv, [.t 16], none, []⟩, ⟨some
  8, .mv, [.t 17], none, []⟩] [7]) (.seq (.region false [⟨some 18, .mv, [.t 7], none, []⟩, ⟨some 6, .mv, [.t 18], none, []⟩] [6]) .ret))
def passkeyref10SealWordRr : List RR := [.t 6]
theorem passkeyref10SealWordC : compFn Tryd.prog 27 passkeyref10SealWordH = some (passkeyref10SealWordRc, passkeyref10SealWordRr, 19) := by kernel_rfl
theorem passkeyref10SealWordOK (a0 : BitVec 64) (a1 : BitVec 64) (a2 : BitVec 64) (res : List (BitVec 8)) (h : passkeyref10SealWord a0 a1 a2 = some res) : CallOK Tryd.prog 27 [.d (eU64 a0), .d (eU64 a1), .d (eU64 a2)] [] (.ref 0 res.length 0 res.length) [(0, .row true 1 (res.map eU8))] := by
  unfold passkeyref10SealWord at h
  refine callOK passkeyref10SealWordC fm rfl ?_
  simp only [initE, initM, nbor, List.map_cons, List.map_nil, Nat.reduceAdd]
  unfold passkeyref10SealWordRc
  refine rwp_seq fun K1 hK1 => ?_
  refine rwp_region fun K2 hK2 => ?_
  refine st0 128 rfl (ok (mv (.nil 1))) ?_
  refine hK2 _ _ ?_
  simp only [n0, n1, n2, n3, n4, n5, n6, n7, n8, n9, n10, n11, n12, n13, n14, n15, n16, n17, n18, n19, reduceIte]
  refine hK1 _ _ _ ?_
  refine rwp_seq fun K3 hK3 => ?_
  refine rwp_region fun K4 hK4 => ?_
  refine st0 192 rfl (ok (mv (.d (eU64 a0)))) ?_
  refine st0 256 rfl (ok (mv (.d (eU64 a1)))) ?_
  refine st0 320 rfl (ok (mv (.d (eU64 a2)))) ?_
  refine st1 384 rfl (mem' := [(320, .row true 1 (([a2] : List (BitVec 64)).map eU64))]) (ok (bsl (e := eU64) (ys := ([a2] : List (BitVec 64))) rfl rfl rfl)) rfl ?_
  obtain ⟨y5, h6, h⟩ := bind_inv h
  refine st1 448 rfl (mem' := [(384, .row true 1 (y5.map eU8)), (320, .row false 1 (([a2] : List (BitVec 64)).map eU64))]) (call_ok (v := .ref 384 y5.length 0 y5.length) (u := [(384, .row true 1 (y5.map eU8)), (320, .row false 1 (([a2] : List (BitVec 64)).map eU64))]) (ar_to rfl (to_1 rfl (ds_r (ys := ([a2] : List (BitVec 64))) rfl rfl rfl ds_nil)) ar_nil) rfl (passkeyref1WordsOK ([a2] : List (BitVec 64)) y5 h6) rfl) rfl ?_
  obtain ⟨y7, h8, h⟩ := bind_inv h
  refine st1 512 rfl (mem' := [(448, .row true 1 (y7.1.map eU8)), (384, .row false 1 (y5.map eU8)), (320, .row false 1 (([a2] : List (BitVec 64)).map eU64))]) (call_ok (v := .tup [.ref 448 y7.1.length 0 y7.1.length, .d (eI y7.2)]) (u := [(448, .row true 1 (y7.1.map eU8)), (384, .row false 1 (y5.map eU8))]) (ar_d (eU64 a0) (ar_d (eU64 a1) (ar_to rfl (to_1 rfl (ds_n eU8 ds_nil)) (ar_to rfl (to_1 rfl (ds_r (ys := y5) rfl rfl rfl ds_nil)) ar_nil)))) rfl (passkeyref3SealOK a0 a1 ([] : List (BitVec 8)) y5 y7 h8) rfl) rfl ?_
  refine st0 576 rfl (ok (mv (.tup [.ref 448 y7.1.length 0 y7.1.length, .d (eI y7.2)]))) ?_
  refine st0 640 rfl (ok (extr (v := .ref 448 y7.1.length 0 y7.1.length) rfl rfl)) ?_
  refine st0 704 rfl (ok (extr (v := .d (eI y7.2)) rfl rfl)) ?_
  refine st0 768 rfl (ok (mv (.ref 448 y7.1.length 0 y7.1.length))) ?_
  refine st0 832 rfl (ok (mv (.d (eI y7.2)))) ?_
  refine hK4 _ _ ?_
  simp only [n0, n1, n2, n3, n4, n5, n6, n7, n8, n9, n10, n11, n12, n13, n14, n15, n16, n17, n18, n19, reduceIte]
  refine hK3 _ _ _ ?_
  refine rwp_seq fun K9 hK9 => ?_
  refine rwp_region fun K10 hK10 => ?_
  refine st0 896 rfl (ok (mv (.ref 448 y7.1.length 0 y7.1.length))) ?_
  refine st0 960 rfl (ok (mv (.ref 448 y7.1.length 0 y7.1.length))) ?_
  refine hK10 _ _ ?_
  simp only [n0, n1, n2, n3, n4, n5, n6, n7, n8, n9, n10, n11, n12, n13, n14, n15, n16, n17, n18, n19, reduceIte]
  refine hK9 _ _ _ ?_
  refine rwp_ret ?_
  obtain rfl := Option.some.inj h
  try simp only [thenK, blockK, reduceIte]
  exact Or.inl (end_ok trivial (rs_t (v := .ref 448 y7.1.length 0 y7.1.length) rfl rs_nil) (en_ref en_nil) ou_nil (by first | exact eok rfl rfl rfl rfl (And.intro (And.intro rfl rfl) trivial) | (refine eok ?_ ?_ ?_ ?_ ?_ <;> first | rfl | exact (And.intro (And.intro rfl rfl) trivial) | simp [retM, Mem.get, PV.renL, PV.ren, Blk.ren, comps, rhoR, rhoM, appN, PV.refsL, PV.refs, keys, nodupB, Blk.refs, allIn, Blk.bor])))

/-- passkey/passkeyref10.OpenWord -/
def passkeyref10OpenWordH : Hints := ⟨[(0, [0, 1]), (1, [6, 7]), (2, [6, 7, 15]), (3, [4, 5]), (4, [6, 19]), (5, [4, 5]), (6, [4, 5])], []⟩
def passkeyref10OpenWordRc : RCode :=
  .seq (.region false [⟨some 4, .mv, [.k (.d (.int .u64 0))], none, []⟩, ⟨some 5, .mv, [.k (.d (.int .i64 0))], none, []⟩] [0, 1]) (.seq (.region false [⟨some 9, .mv, [.t 0], none,
  []⟩, ⟨some 10, .mv, [.t 1], none, []⟩, ⟨some 11, .call 44 true, [.t 9, .k (.nil 1), .t 10], none, []⟩, ⟨some 8, .mv, [.t 11], none, []⟩, ⟨some 12, .ext 0, [.t 8], none, []⟩,
  ⟨some 13, .ext 1, [.t 8], none, []⟩, ⟨some 6, .mv, [.t 12], none, []⟩, ⟨some 7, .mv, [.t 13], none, []⟩] [6, 7]) (.seq (.seq (.region false [⟨some 14, .mv, [.t 7], none, []⟩,
  ⟨some 15, .bin .neq, [.t 14, .k (.d (.int .i64 0))], none, []⟩] [6, 7, 15]) (.cond (.t 15) (.seq (.region false [⟨some 16, .mv, [.t 7], none, []⟩, ⟨some 4, .mv, [.k (.d (.int
  .u64 0))], none, []⟩, ⟨some 5, .mv, [.t 16], none, []⟩] [4, 5]) .ret) .skip)) (.seq (.seq (.region false [⟨some 17, .mv, [.t 6], none, []⟩, ⟨some 18, .len, [.t 17], none, []⟩,
  ⟨some 19, .bin .neq, [.t 18, .k (.d (.int .i64 8))], none, []⟩] [6, 19]) (.cond (.t 19) (.seq (.region false [⟨some 4, .mv, [.k (.d (.int .u64 0))], none, []⟩, ⟨some 5, .mv, [.k
  (.d (.int .i64 2))], none, []⟩] [4, 5]) .ret) .skip)) (.seq (.region false [⟨some 20, .mv, [.t 6], none, []⟩, ⟨some 21, .call 56 false, [.t 20], none, []⟩, ⟨some 4, .mv, [.t 21],
  none, []⟩, ⟨some 5, .mv, [.k (.d (.int .i64 0))], none, []⟩] [4, 5]) .ret))))
def passkeyref10OpenWordRr : List RR := [.t 4, .t 5]
theorem passkeyref10OpenWordC : compFn Tryd.prog 40 passkeyref10OpenWordH = some (passkeyref10OpenWordRc, passkeyref10OpenWordRr, 22) := by kernel_rfl
theorem passkeyref10OpenWordOK (a0 : BitVec 64) (a1 : List (BitVec 8)) (res : (BitVec 64) × Int) (h : passkeyref10OpenWord a0 a1 = some res) : CallOK Tryd.prog 40 [.d (eU64 a0), .d ((eL 1 eU8) a1)] [] (.tup [.d (eU64 res.1), .d (eI res.2)]) [] := by
  unfold passkeyref10OpenWord at h
  refine callOK passkeyref10OpenWordC fm rfl ?_
  simp only [initE, initM, nbor, List.map_cons, List.map_nil, Nat.reduceAdd]
  unfold passkeyref10OpenWordRc
  refine rwp_seq fun K1 hK1 => ?_
  refine rwp_region fun K2 hK2 => ?_
  refine st0 128 rfl (ok (mv (.d (eU64 (0#64))))) ?_
  refine st0 192 rfl (ok (mv (.d (eI (0 : Int))))) ?_
  refine hK2 _ _ ?_
  simp only [n0, n1, n2, n3, n4, n5, n6, n7, n8, n9, n10, n11, n12, n13, n14, n15, n16, n17, n18, n19, reduceIte]
  refine hK1 _ _ _ ?_
  refine rwp_seq fun K3 hK3 => ?_
  refine rwp_region fun K4 hK4 => ?_
  refine st0 256 rfl (ok (mv (.d (eU64 a0)))) ?_
  refine st0 320 rfl (ok (mv (.d ((eL 1 eU8) a1)))) ?_
  obtain ⟨y5, h6, h⟩ := bind_inv h
  refine st1 384 rfl (mem' := [(320, .row true 1 (y5.1.map eU8))]) (call_ok (v := .tup [.ref 320 y5.1.length 0 y5.1.length, .d (eI y5.2)]) (u := [(320, .row true 1 (y5.1.map eU8))]) (ar_d (eU64 a0) (ar_to rfl (to_1 rfl (ds_n eU8 ds_nil)) (ar_d ((eL 1 eU8) a1) ar_nil))) rfl (passkeyref3OpenOK a0 ([] : List (BitVec 8)) a1 y5 h6) rfl) rfl ?_
  refine st0 448 rfl (ok (mv (.tup [.ref 320 y5.1.length 0 y5.1.length, .d (eI y5.2)]))) ?_
  refine st0 512 rfl (ok (extr (v := .ref 320 y5.1.length 0 y5.1.length) rfl rfl)) ?_
  refine st0 576 rfl (ok (extr (v := .d (eI y5.2)) rfl rfl)) ?_
  refine st0 640 rfl (ok (mv (.ref 320 y5.1.length 0 y5.1.length))) ?_
  refine st0 704 rfl (ok (mv (.d (eI y5.2)))) ?_
  refine hK4 _ _ ?_
  simp only [n0, n1, n2, n3, n4, n5, n6, n7, n8, n9, n10, n11, n12, n13, n14, n15, n16, n17, n18, n19, reduceIte]
  refine hK3 _ _ _ ?_
  refine rwp_seq fun K7 hK7 => ?_
  refine rwp_seq fun K8 hK8 => ?_
  refine rwp_region fun K9 hK9 => ?_
  refine st0 768 rfl (ok (mv (.d (eI y5.2)))) ?_
  refine st0 832 rfl (ok (neqI _ (0 : Int))) ?_
  refine hK9 _ _ ?_
  simp only [n0, n1, n2, n3, n4, n5, n6, n7, n8, n9, n10, n11, n12, n13, n14, n15, n16, n17, n18, n19, reduceIte]
  refine hK8 _ _ _ ?_
  rcases Bool.eq_false_or_eq_true ((y5.2 != (0 : Int))) with h10 | h10
  · replace h := ite_t h h10
    refine rwp_t (isT h10) ?_
    refine rwp_seq fun K11 hK11 => ?_
    refine rwp_region fun K12 hK12 => ?_
    refine st0 896 rfl (ok (mv (.d (eI y5.2)))) ?_
    refine st0 960 rfl (ok (mv (.d (eU64 (0#64))))) ?_
    refine st0 1024 rfl (ok (mv (.d (eI y5.2)))) ?_
    refine hK12 _ _ ?_
    simp only [n0, n1, n2, n3, n4, n5, n6, n7, n8, n9, n10, n11, n12, n13, n14, n15, n16, n17, n18, n19, reduceIte]
    refine hK11 _ _ _ ?_
    refine rwp_ret ?_
    obtain rfl := Option.some.inj h
    try simp only [thenK, blockK, reduceIte]
    exact Or.inl (end_ok trivial (rs_t (v := .d (eU64 (0#64))) rfl (rs_t (v := .d (eI y5.2)) rfl rs_nil)) (en_d (to_d _) (en_d (to_d _) en_nil)) ou_nil (by first | exact eok rfl rfl rfl rfl trivial | (refine eok ?_ ?_ ?_ ?_ ?_ <;> first | rfl | exact trivial | simp [retM, Mem.get, PV.renL, PV.ren, Blk.ren, comps, rhoR, rhoM, appN, PV.refsL, PV.refs, keys, nodupB, Blk.refs, allIn, Blk.bor])))
  · replace h := ite_f h h10
    refine rwp_f (isF h10) ?_
    refine rwp_skip ?_
    refine hK7 _ _ _ ?_
    refine rwp_seq fun K13 hK13 => ?_
    refine rwp_seq fun K14 hK14 => ?_
    refine rwp_region fun K15 hK15 => ?_
    refine st0 896 rfl (ok (mv (.ref 320 y5.1.length 0 y5.1.length))) ?_
    refine st0 960 rfl (ok (lenR _ _ _ _)) ?_
    refine st0 1024 rfl (ok (neqI _ (8 : Int))) ?_
    refine hK15 _ _ ?_
    simp only [n0, n1, n2, n3, n4, n5, n6, n7, n8, n9, n10, n11, n12, n13, n14, n15, n16, n17, n18, n19, reduceIte]
    refine hK14 _ _ _ ?_
    rcases Bool.eq_false_or_eq_true (((y5.1.length : Int) != (8 : Int))) with h16 | h16
    · replace h := ite_t h h16
      refine rwp_t (isT h16) ?_
      refine rwp_seq fun K17 hK17 => ?_
      refine rwp_region fun K18 hK18 => ?_
      refine st0 1088 rfl (ok (mv (.d (eU64 (0#64))))) ?_
      refine st0 1152 rfl (ok (mv (.d (eI (2 : Int))))) ?_
      refine hK18 _ _ ?_
      simp only [n0, n1, n2, n3, n4, n5, n6, n7, n8, n9, n10, n11, n12, n13, n14, n15, n16, n17, n18, n19, reduceIte]
      refine hK17 _ _ _ ?_
      refine rwp_ret ?_
      obtain rfl := Option.some.inj h
      try simp only [thenK, blockK, reduceIte]
      exact Or.inl (end_ok trivial (rs_t (v := .d (eU64 (0#64))) rfl (rs_t (v := .d (eI (2 : Int))) rfl rs_nil)) (en_d (to_d _) (en_d (to_d _) en_nil)) ou_nil (by first | exact eok rfl rfl rfl rfl trivial | (refine eok ?_ ?_ ?_ ?_ ?_ <;> first | rfl | exact trivial | simp [retM, Mem.get, PV.renL, PV.ren, Blk.ren, comps, rhoR, rhoM, appN, PV.refsL, PV.refs, keys, nodupB, Blk.refs, allIn, Blk.bor])))
    · replace h := ite_f h h16
      refine rwp_f (isF h16) ?_
      refine rwp_skip ?_
      refine hK13 _ _ _ ?_
      refine rwp_seq fun K19 hK19 => ?_
      refine rwp_region fun K20 hK20 => ?_
      refine st0 1088 rfl (ok (mv (.ref 320 y5.1.length 0 y5.1.length))) ?_
      obtain ⟨y21, h22, h⟩ := bind_inv h
      refine st0 1152 rfl (call_ok (v := .d (eU64 y21)) (u := []) (ar_to rfl (to_1 rfl (ds_r (ys := y5.1) rfl rfl rfl ds_nil)) ar_nil) rfl (passkeyref1WordOK y5.1 y21 h22) rfl) ?_
      refine st0 1216 rfl (ok (mv (.d (eU64 y21)))) ?_
      refine st0 1280 rfl (ok (mv (.d (eI (0 : Int))))) ?_
      refine hK20 _ _ ?_
      simp only [n0, n1, n2, n3, n4, n5, n6, n7, n8, n9, n10, n11, n12, n13, n14, n15, n16, n17, n18, n19, reduceIte]
      refine hK19 _ _ _ ?_
      refine rwp_ret ?_
      obtain rfl := Option.some.inj h
      try simp only [thenK, blockK, reduceIte]
      exact Or.inl (end_ok trivial (rs_t (v := .d (eU64 y21)) rfl (rs_t (v := .d (eI (0 : Int))) rfl rs_nil)) (en_d (to_d _) (en_d (to_d _) en_nil)) ou_nil (by first | exact eok rfl rfl rfl rfl trivial | (refine eok ?_ ?_ ?_ ?_ ?_ <;> first | rfl | exact trivial | simp [retM, Mem.get, PV.renL, PV.ren, Blk.ren, comps, rhoR, rhoM, appN, PV.refsL, PV.refs, keys, nodupB, Blk.refs, allIn, Blk.bor])))

/-- passkey/passkeylaw12.words -/
def passkeylaw12wordsH : Hints := ⟨[(0, [0, 1]), (1, [0, 1, 5, 6]), (2, [5, 6, 7, 8]), (3, [4])], []⟩
def passkeylaw12wordsRc : RCode :=
  .seq (.region false [⟨some 4, .mv, [.k (.d (.bool false))], none, []⟩] [0, 1]) (.seq (.region false [⟨some 10, .mv, [.t 0], none, []⟩, ⟨some 11, .mv, [.t 1], none, []⟩, ⟨some 12,
  .call 25 false, [.t 10, .t 11], none, []⟩, ⟨some 9, .mv, [.t 12], none, []⟩, ⟨some 13, .ext 0, [.t 9], none, []⟩, ⟨some 14, .ext 1, [.t 9], none, []⟩, ⟨some 5, .mv, [.t 13],
  none, []⟩, ⟨some 6, .mv, [.t 14], none, []⟩] [0, 1, 5, 6]) (.seq (.region false [⟨some 16, .mv, [.t 0], none, []⟩, ⟨some 17, .mv, [.t 1], none, []⟩, ⟨some 18, .call 40 false, [.t
  16, .t 17], none, []⟩, ⟨some 15, .mv, [.t 18], none, []⟩, ⟨some 19, .ext 0, [.t 15], none, []⟩, ⟨some 20, .ext 1, [.t 15], none, []⟩, ⟨some 7, .mv, [.t 19], none, []⟩, ⟨some 8,
  .mv, [.t 20], none, []⟩] [5, 6, 7, 8]) (.seq (.region false [⟨some 21, .mv, [.t 5], none, []⟩, ⟨some 22, .mv, [.t 7], none, []⟩, ⟨some 23, .bin .eql, [.t 21, .t 22], none, []⟩,
  ⟨some 24, .mv, [.t 23], none, []⟩, ⟨some 25, .mv, [.t 6], some (24, true), []⟩, ⟨some 26, .mv, [.t 8], some (24, true), []⟩, ⟨some 27, .bin .eql, [.t 25, .t 26], some (24, true),
  []⟩, ⟨some 28, .pick, [.t 24, .t 27, .k (.d (.bool false))], none, []⟩, ⟨some 4, .mv, [.t 28], none, []⟩] [4]) .ret)))
def passkeylaw12wordsRr : List RR := [.t 4]
theorem passkeylaw12wordsC : compFn Tryd.prog 28 passkeylaw12wordsH = some (passkeylaw12wordsRc, passkeylaw12wordsRr, 29) := by kernel_rfl
theorem passkeylaw12wordsOK (a0 : BitVec 64) (a1 : List (BitVec 8)) (res : Bool) (h : passkeylaw12words a0 a1 = some res) : CallOK Tryd.prog 28 [.d (eU64 a0), .d ((eL 1 eU8) a1)] [] (.d (eB res)) [] := by
  unfold passkeylaw12words at h
  refine callOK passkeylaw12wordsC fm rfl ?_
  simp only [initE, initM, nbor, List.map_cons, List.map_nil, Nat.reduceAdd]
  unfold passkeylaw12wordsRc
  refine rwp_seq fun K1 hK1 => ?_
  refine rwp_region fun K2 hK2 => ?_
  refine st0 128 rfl (ok (mv (.d (eB false)))) ?_
  refine hK2 _ _ ?_
  simp only [n0, n1, n2, n3, n4, n5, n6, n7, n8, n9, n10, n11, n12, n13, n14, n15, n16, n17, n18, n19, reduceIte]
  refine hK1 _ _ _ ?_
  refine rwp_seq fun K3 hK3 => ?_
  refine rwp_region fun K4 hK4 => ?_
  refine st0 192 rfl (ok (mv (.d (eU64 a0)))) ?_
  refine st0 256 rfl (ok (mv (.d ((eL 1 eU8) a1)))) ?_
  obtain ⟨y5, h6, h⟩ := bind_inv h
  refine st0 320 rfl (call_ok (v := .tup [.d (eU64 y5.1), .d (eI y5.2)]) (u := []) (ar_d (eU64 a0) (ar_d ((eL 1 eU8) a1) ar_nil)) rfl (tokenOpenWordOK a0 a1 y5 h6) rfl) ?_
  refine st0 384 rfl (ok (mv (.tup [.d (eU64 y5.1), .d (eI y5.2)]))) ?_
  refine st0 448 rfl (ok (extr (v := .d (eU64 y5.1)) rfl rfl)) ?_
  refine st0 512 rfl (ok (extr (v := .d (eI y5.2)) rfl rfl)) ?_
  refine st0 576 rfl (ok (mv (.d (eU64 y5.1)))) ?_
  refine st0 640 rfl (ok (mv (.d (eI y5.2)))) ?_
  refine hK4 _ _ ?_
  simp only [n0, n1, n2, n3, n4, n5, n6, n7, n8, n9, n10, n11, n12, n13, n14, n15, n16, n17, n18, n19, reduceIte]
  refine hK3 _ _ _ ?_
  refine rwp_seq fun K7 hK7 => ?_
  refine rwp_region fun K8 hK8 => ?_
  refine st0 704 rfl (ok (mv (.d (eU64 a0)))) ?_
  refine st0 768 rfl (ok (mv (.d ((eL 1 eU8) a1)))) ?_
  obtain ⟨y9, h10, h⟩ := bind_inv h
  refine st0 832 rfl (call_ok (v := .tup [.d (eU64 y9.1), .d (eI y9.2)]) (u := []) (ar_d (eU64 a0) (ar_d ((eL 1 eU8) a1) ar_nil)) rfl (passkeyref10OpenWordOK a0 a1 y9 h10) rfl) ?_
  refine st0 896 rfl (ok (mv (.tup [.d (eU64 y9.1), .d (eI y9.2)]))) ?_
  refine st0 960 rfl (ok (extr (v := .d (eU64 y9.1)) rfl rfl)) ?_
  refine st0 1024 rfl (ok (extr (v := .d (eI y9.2)) rfl rfl)) ?_
  refine st0 1088 rfl (ok (mv (.d (eU64 y9.1)))) ?_
  refine st0 1152 rfl (ok (mv (.d (eI y9.2)))) ?_
  refine hK8 _ _ ?_
  simp only [n0, n1, n2, n3, n4, n5, n6, n7, n8, n9, n10, n11, n12, n13, n14, n15, n16, n17, n18, n19, reduceIte]
  refine hK7 _ _ _ ?_
  refine rwp_seq fun K11 hK11 => ?_
  refine rwp_region fun K12 hK12 => ?_
  refine st0 1216 rfl (ok (mv (.d (eU64 y5.1)))) ?_
  refine st0 1280 rfl (ok (mv (.d (eU64 y9.1)))) ?_
  refine st0 1344 rfl (ok (eql64 _ _)) ?_
  refine st0 1408 rfl (ok (mv (.d (eB (y5.1 == y9.1))))) ?_
  rcases Bool.eq_false_or_eq_true ((y5.1 == y9.1)) with h13 | h13
  · replace h := ite_t h h13
    refine stG (isT h13) ?_
    refine st0 1472 rfl (ok (mv (.d (eI y5.2)))) ?_
    refine stG (isT h13) ?_
    refine st0 1536 rfl (ok (mv (.d (eI y9.2)))) ?_
    refine stG (isT h13) ?_
    refine st0 1600 rfl (ok (eqlI _ _)) ?_
    refine st0 1664 rfl (ok (pick_t h13 (.d (eB (y5.2 == y9.2))) _)) ?_
    refine st0 1728 rfl (ok (mv (.d (eB (y5.2 == y9.2))))) ?_
    refine hK12 _ _ ?_
    simp only [n0, n1, n2, n3, n4, n5, n6, n7, n8, n9, n10, n11, n12, n13, n14, n15, n16, n17, n18, n19, reduceIte]
    refine hK11 _ _ _ ?_
    refine rwp_ret ?_
    obtain rfl := Option.some.inj h
    try simp only [thenK, blockK, reduceIte]
    exact Or.inl (end_ok trivial (rs_t (v := .d (eB (y5.2 == y9.2))) rfl rs_nil) (en_d (to_d _) en_nil) ou_nil (by first | exact eok rfl rfl rfl rfl trivial | (refine eok ?_ ?_ ?_ ?_ ?_ <;> first | rfl | exact trivial | simp [retM, Mem.get, PV.renL, PV.ren, Blk.ren, comps, rhoR, rhoM, appN, PV.refsL, PV.refs, keys, nodupB, Blk.refs, allIn, Blk.bor])))
  · replace h := ite_f h h13
    refine stGN 1472 rfl rfl h13 ?_
    refine stGN 1536 rfl rfl h13 ?_
    refine stGN 1600 rfl rfl h13 ?_
    refine st0 1664 rfl (ok (pick_f h13 _ (.d (eB false)))) ?_
    refine st0 1728 rfl (ok (mv (.d (eB false)))) ?_
    refine hK12 _ _ ?_
    simp only [n0, n1, n2, n3, n4, n5, n6, n7, n8, n9, n10, n11, n12, n13, n14, n15, n16, n17, n18, n19, reduceIte]
    refine hK11 _ _ _ ?_
    refine rwp_ret ?_
    obtain rfl := Option.some.inj h
    try simp only [thenK, blockK, reduceIte]
    exact Or.inl (end_ok trivial (rs_t (v := .d (eB false)) rfl rs_nil) (en_d (to_d _) en_nil) ou_nil (by first | exact eok rfl rfl rfl rfl trivial | (refine eok ?_ ?_ ?_ ?_ ?_ <;> first | rfl | exact trivial | simp [retM, Mem.get, PV.renL, PV.ren, Blk.ren, comps, rhoR, rhoM, appN, PV.refsL, PV.refs, keys, nodupB, Blk.refs, allIn, Blk.bor])))

/-- passkey/passkeylaw12.TokenWords -/
def passkeylaw12TokenWordsH : Hints := ⟨[(0, [0, 1, 2, 3, 4]), (1, [0, 1, 2, 3, 4, 15]), (2, [10]), (3, [0, 1, 2, 3, 11]), (4, [10])], []⟩
def passkeylaw12TokenWordsRc : RCode :=
  .seq (.region false [⟨some 10, .mv, [.k (.d (.bool false))], none, []⟩] [0, 1, 2, 3, 4]) (.seq (.seq (.region false [⟨some 13, .mv, [.t 3], none, []⟩, ⟨some 14, .len, [.t 13],
  none, []⟩, ⟨some 15, .bin .gtr, [.t 14, .k (.d (.int .i64 300))], none, []⟩] [0, 1, 2, 3, 4, 15]) (.cond (.t 15) (.seq (.region false [⟨some 16, .call 9 false, [], none, []⟩,
  ⟨some 10, .mv, [.t 16], none, []⟩] [10]) .ret) .skip)) (.seq (.region false [⟨some 18, .mv, [.t 0], none, []⟩, ⟨some 19, .mv, [.t 1], none, []⟩, ⟨some 20, .mv, [.t 4], none, []⟩,
  ⟨some 21, .bin .rem, [.t 20, .k (.d (.int .u8 12))], none, []⟩, ⟨some 22, .mks 1 false [.d (.int .u8 0)] 281474976710656, [.t 21, .t 21], none, []⟩, ⟨some 23, .call 12 true, [.t
  18, .t 19, .k (.nil 1), .t 22], none, []⟩, ⟨some 17, .mv, [.t 23], none, []⟩, ⟨some 24, .ext 0, [.t 17], none, []⟩, ⟨some 25, .ext 1, [.t 17], none, []⟩, ⟨some 11, .mv, [.t 24],
  none, []⟩, ⟨some 12, .mv, [.t 25], none, []⟩] [0, 1, 2, 3, 11]) (.seq (.region true [⟨some 26, .mv, [.t 0], none, []⟩, ⟨some 27, .mv, [.t 1], none, []⟩, ⟨some 28, .mv, [.t 2],
  none, []⟩, ⟨some 29, .call 26 true, [.t 26, .t 27, .t 28], none, [0, 1, 2]⟩, ⟨some 30, .b2s, [.t 29], none, [0, 1, 2, 3]⟩, ⟨some 31, .mv, [.t 0], none, []⟩, ⟨some 32, .mv, [.t
  1], none, []⟩, ⟨some 33, .mv, [.t 2], none, []⟩, ⟨some 34, .call 27 true, [.t 31, .t 32, .t 33], none, [0, 1, 2, 3, 5, 6, 7]⟩, ⟨some 35, .b2s, [.t 34], none, [0, 1, 2, 3, 5, 6,
  7, 8]⟩, ⟨some 36, .bin .eql, [.t 30, .t 35], none, [0, 1, 2, 3, 4, 5, 6, 7, 8, 9]⟩, ⟨some 37, .mv, [.t 36], none, [0, 1, 2, 3, 4, 5, 6, 7, 8, 9, 10]⟩, ⟨some 38, .mv, [.t 0], some
  (37, true), [0, 1, 2, 3, 4, 5, 6, 7, 8, 9, 10, 11]⟩, ⟨some 39, .mv, [.t 3], some (37, true), [0, 1, 2, 3, 4, 5, 6, 7, 8, 9, 10, 11]⟩, ⟨some 40, .call 28 false, [.t 38, .t 39],
  some (37, true), [0, 1, 2, 3, 4, 5, 6, 7, 8, 9, 10, 11, 12, 13]⟩, ⟨some 41, .pick, [.t 37, .t 40, .k (.d (.bool false))], none, [0, 1, 2, 3, 4, 5, 6, 7, 8, 9, 10, 11, 12, 13,
  14]⟩, ⟨some 42, .mv, [.t 41], none, [0, 1, 2, 3, 4, 5, 6, 7, 8, 9, 10, 11, 12, 13, 14, 15]⟩, ⟨some 43, .mv, [.t 0], some (42, true), [0, 1, 2, 3, 4, 5, 6, 7, 8, 9, 10, 11, 12,
  13, 14, 15, 16]⟩, ⟨some 44, .mv, [.t 11], some (42, true), [0, 1, 2, 3, 4, 5, 6, 7, 8, 9, 10, 11, 12, 13, 14, 15, 16]⟩, ⟨some 45, .call 28 false, [.t 43, .t 44], some (42, true),
  [0, 1, 2, 3, 4, 5, 6, 7, 8, 9, 10, 11, 12, 13, 14, 15, 16, 17, 18]⟩, ⟨some 46, .pick, [.t 42, .t 45, .k (.d (.bool false))], none, [0, 1, 2, 3, 4, 5, 6, 7, 8, 9, 10, 11, 12, 13,
  14, 15, 16, 17, 18, 19]⟩, ⟨some 47, .mv, [.t 46], none, [0, 1, 2, 3, 4, 5, 6, 7, 8, 9, 10, 11, 12, 13, 14, 15, 16, 17, 18, 19, 20]⟩, ⟨some 48, .mv, [.t 0], some (47, true), [0,
  1, 2, 3, 4, 5, 6, 7, 8, 9, 10, 11, 12, 13, 14, 15, 16, 17, 18, 19, 20, 21]⟩, ⟨some 49, .bin .add, [.t 48, .k (.d (.int .u64 1))], some (47, true), [0, 1, 2, 3, 4, 5, 6, 7, 8, 9,
  10, 11, 12, 13, 14, 15, 16, 17, 18, 19, 20, 21, 22]⟩, ⟨some 50, .mv, [.t 11], some (47, true), [0, 1, 2, 3, 4, 5, 6, 7, 8, 9, 10, 11, 12, 13, 14, 15, 16, 17, 18, 19, 20, 21]⟩,
  ⟨some 51, .call 28 false, [.t 49, .t 50], some (47, true), [0, 1, 2, 3, 4, 5, 6, 7, 8, 9, 10, 11, 12, 13, 14, 15, 16, 17, 18, 19, 20, 21, 22, 23, 24]⟩, ⟨some 52, .pick, [.t 47,
  .t 51, .k (.d (.bool false))], none, [0, 1, 2, 3, 4, 5, 6, 7, 8, 9, 10, 11, 12, 13, 14, 15, 16, 17, 18, 19, 20, 21, 22, 23, 24, 25]⟩, ⟨some 53, .mv, [.t 52], none, [0, 1, 2, 3,
  4, 5, 6, 7, 8, 9, 10, 11, 12, 13, 14, 15, 16, 17, 18, 19, 20, 21, 22, 23, 24, 25, 26]⟩, ⟨some 54, .call 9 false, [], some (53, true), [0, 1, 2, 3, 4, 5, 6, 7, 8, 9, 10, 11, 12,
  13, 14, 15, 16, 17, 18, 19, 20, 21, 22, 23, 24, 25, 26, 27]⟩, ⟨some 55, .pick, [.t 53, .t 54, .k (.d (.bool false))], none, [0, 1, 2, 3, 4, 5, 6, 7, 8, 9, 10, 11, 12, 13, 14, 15,
  16, 17, 18, 19, 20, 21, 22, 23, 24, 25, 26, 27, 28]⟩, ⟨some 10, .mv, [.t 55], none, [0, 1, 2, 3, 4, 5, 6, 7, 8, 9, 10, 11, 12, 13, 14, 15, 16, 17, 18, 19, 20, 21, 22, 23, 24, 25,
  26, 27, 28, 29]⟩] [10]) .ret)))
def passkeylaw12TokenWordsRr : List RR := [.t 10]
theorem passkeylaw12TokenWordsC : compFn Tryd.prog 8 passkeylaw12TokenWordsH = some (passkeylaw12TokenWordsRc, passkeylaw12TokenWordsRr, 56) := by kernel_rfl
theorem passkeylaw12TokenWordsOK (a0 : BitVec 64) (a1 : BitVec 64) (a2 : BitVec 64) (a3 : List (BitVec 8)) (a4 : BitVec 8) (res : Bool) (h : passkeylaw12TokenWords a0 a1 a2 a3 a4 = some res) : CallOK Tryd.prog 8 [.d (eU64 a0), .d (eU64 a1), .d (eU64 a2), .d ((eL 1 eU8) a3), .d (eU8 a4)] [] (.d (eB res)) [] := by
  unfold passkeylaw12TokenWords at h
  refine callOK passkeylaw12TokenWordsC fm rfl ?_
  simp only [initE, initM, nbor, List.map_cons, List.map_nil, Nat.reduceAdd]
  unfold passkeylaw12TokenWordsRc
  refine rwp_seq fun K1 hK1 => ?_
  refine rwp_region fun K2 hK2 => ?_
  refine st0 128 rfl (ok (mv (.d (eB false)))) ?_
  refine hK2 _ _ ?_
  simp only [n0, n1, n2, n3, n4, n5, n6, n7, n8, n9, n10, n11, n12, n13, n14, n15, n16, n17, n18, n19, reduceIte]
  refine hK1 _ _ _ ?_
  refine rwp_seq fun K3 hK3 => ?_
  refine rwp_seq fun K4 hK4 => ?_
  refine rwp_region fun K5 hK5 => ?_
  refine st0 192 rfl (ok (mv (.d ((eL 1 eU8) a3)))) ?_
  refine st0 256 rfl (ok (lenL _ _)) ?_
  refine st0 320 rfl (ok (gtrI _ (300 : Int))) ?_
  refine hK5 _ _ ?_
  simp only [n0, n1, n2, n3, n4, n5, n6, n7, n8, n9, n10, n11, n12, n13, n14, n15, n16, n17, n18, n19, reduceIte]
  refine hK4 _ _ _ ?_
  rcases Bool.eq_false_or_eq_true ((decide ((300 : Int) < (a3.length : Int)))) with h6 | h6
  · replace h := ite_t h h6
    refine rwp_t (isT h6) ?_
    refine rwp_seq fun K7 hK7 => ?_
    refine rwp_region fun K8 hK8 => ?_
    obtain ⟨y9, h10, h⟩ := bind_inv h
    refine st0 384 rfl (call_ok (v := .d (eB y9)) (u := []) ar_nil rfl (passkeylaw12awakeOK  y9 h10) rfl) ?_
    refine st0 448 rfl (ok (mv (.d (eB y9)))) ?_
    refine hK8 _ _ ?_
    simp only [n0, n1, n2, n3, n4, n5, n6, n7, n8, n9, n10, n11, n12, n13, n14, n15, n16, n17, n18, n19, reduceIte]
    refine hK7 _ _ _ ?_
    refine rwp_ret ?_
    obtain rfl := Option.some.inj h
    try simp only [thenK, blockK, reduceIte]
    exact Or.inl (end_ok trivial (rs_t (v := .d (eB y9)) rfl rs_nil) (en_d (to_d _) en_nil) ou_nil (by first | exact eok rfl rfl rfl rfl trivial | (refine eok ?_ ?_ ?_ ?_ ?_ <;> first | rfl | exact trivial | simp [retM, Mem.get, PV.renL, PV.ren, Blk.ren, comps, rhoR, rhoM, appN, PV.refsL, PV.refs, keys, nodupB, Blk.refs, allIn, Blk.bor])))
  · replace h := ite_f h h6
    refine rwp_f (isF h6) ?_
    refine rwp_skip ?_
    refine hK3 _ _ _ ?_
    refine rwp_seq fun K11 hK11 => ?_
    refine rwp_region fun K12 hK12 => ?_
    refine st0 384 rfl (ok (mv (.d (eU64 a0)))) ?_
    refine st0 448 rfl (ok (mv (.d (eU64 a1)))) ?_
    refine st0 512 rfl (ok (mv (.d (eU8 a4)))) ?_
    refine st0 576 rfl (ok (rem8 _ (12#8) (by decide))) ?_
    obtain ⟨h13, h⟩ := asq_inv h
    refine st1 640 rfl (mem' := [(576, .row true 1 ((List.replicate ((a4 % (12#8)).toNat : Int).toNat 0#8).map eU8))]) (ok (mks1 (e := eU8) 0#8 rfl rfl h13)) rfl ?_
    obtain ⟨y14, h15, h⟩ := bind_inv h
    refine st1 704 rfl (mem' := [(640, .row true 1 (y14.1.map eU8)), (576, .row false 1 ((List.replicate ((a4 % (12#8)).toNat : Int).toNat 0#8).map eU8))]) (call_ok (v := .tup [.ref 640 y14.1.length 0 y14.1.length, .d (eI y14.2)]) (u := [(640, .row true 1 (y14.1.map eU8)), (576, .row false 1 ((List.replicate ((a4 % (12#8)).toNat : Int).toNat 0#8).map eU8))]) (ar_d (eU64 a0) (ar_d (eU64 a1) (ar_to rfl (to_1 rfl (ds_n eU8 ds_nil)) (ar_to rfl (to_1 rfl (ds_r (ys := (List.replicate ((a4 % (12#8)).toNat : Int).toNat 0#8)) rfl rfl rfl ds_nil)) ar_nil)))) rfl (passkeyref3SealOK a0 a1 ([] : List (BitVec 8)) (List.replicate ((a4 % (12#8)).toNat : Int).toNat 0#8) y14 h15) rfl) rfl ?_
    refine st0 768 rfl (ok (mv (.tup [.ref 640 y14.1.length 0 y14.1.length, .d (eI y14.2)]))) ?_
    refine st0 832 rfl (ok (extr (v := .ref 640 y14.1.length 0 y14.1.length) rfl rfl)) ?_
    refine st0 896 rfl (ok (extr (v := .d (eI y14.2)) rfl rfl)) ?_
    refine st0 960 rfl (ok (mv (.ref 640 y14.1.length 0 y14.1.length))) ?_
    refine st0 1024 rfl (ok (mv (.d (eI y14.2)))) ?_
    refine hK12 _ _ ?_
    simp only [n0, n1, n2, n3, n4, n5, n6, n7, n8, n9, n10, n11, n12, n13, n14, n15, n16, n17, n18, n19, reduceIte]
    refine hK11 _ _ _ ?_
    refine rwp_seq fun K16 hK16 => ?_
    refine rwp_draw fun K17 hK17 => ?_
    refine dr0 1088 rfl (ok (mv (.d (eU64 a0)))) (by kernel_rfl) ?_
    refine dr0 1152 rfl (ok (mv (.d (eU64 a1)))) (by kernel_rfl) ?_
    refine dr0 1216 rfl (ok (mv (.d (eU64 a2)))) (by kernel_rfl) ?_
    obtain ⟨y18, h19, h⟩ := bind_inv h
    refine dr1 1280 rfl (mem' := [(1216, .row true 1 (y18.map eU8)), (640, .row true 1 (y14.1.map eU8)), (576, .row false 1 ((List.replicate ((a4 % (12#8)).toNat : Int).toNat 0#8).map eU8))]) (call_ok (v := .ref 1216 y18.length 0 y18.length) (u := [(1216, .row true 1 (y18.map eU8))]) (ar_d (eU64 a0) (ar_d (eU64 a1) (ar_d (eU64 a2) ar_nil))) rfl (tokenSealWordOK a0 a1 a2 y18 h19) rfl) rfl (by kernel_rfl) ?_
    refine dr0 1344 rfl (ok (b2s (contR (xs := y18) rfl rfl rfl))) (by kernel_rfl) ?_
    refine dr0 1408 rfl (ok (mv (.d (eU64 a0)))) (by kernel_rfl) ?_
    refine dr0 1472 rfl (ok (mv (.d (eU64 a1)))) (by kernel_rfl) ?_
    refine dr0 1536 rfl (ok (mv (.d (eU64 a2)))) (by kernel_rfl) ?_
    obtain ⟨y20, h21, h⟩ := bind_inv h
    refine dr1 1600 rfl (mem' := [(1536, .row true 1 (y20.map eU8)), (1216, .row true 1 (y18.map eU8)), (640, .row true 1 (y14.1.map eU8)), (576, .row false 1 ((List.replicate ((a4 % (12#8)).toNat : Int).toNat 0#8).map eU8))]) (call_ok (v := .ref 1536 y20.length 0 y20.length) (u := [(1536, .row true 1 (y20.map eU8))]) (ar_d (eU64 a0) (ar_d (eU64 a1) (ar_d (eU64 a2) ar_nil))) rfl (passkeyref10SealWordOK a0 a1 a2 y20 h21) rfl) rfl (by kernel_rfl) ?_
    refine dr0 1664 rfl (ok (b2s (contR (xs := y20) rfl rfl rfl))) (by kernel_rfl) ?_
    refine dr0 1728 rfl (ok (eqlS y18 y20)) (by kernel_rfl) ?_
    refine dr0 1792 rfl (ok (mv (.d (eB (y18 == y20))))) (by kernel_rfl) ?_
    rcases Bool.eq_false_or_eq_true ((y18 == y20)) with h22 | h22
    · replace h := ite_t h h22
      refine drG (isT h22) ?_
      refine dr0 1856 rfl (ok (mv (.d (eU64 a0)))) (by kernel_rfl) ?_
      refine drG (isT h22) ?_
      refine dr0 1920 rfl (ok (mv (.d ((eL 1 eU8) a3)))) (by kernel_rfl) ?_
      refine drG (isT h22) ?_
      obtain ⟨y23, h24, h⟩ := bind_inv h
      refine dr0 1984 rfl (call_ok (v := .d (eB y23)) (u := []) (ar_d (eU64 a0) (ar_d ((eL 1 eU8) a3) ar_nil)) rfl (passkeylaw12wordsOK a0 a3 y23 h24) rfl) (by kernel_rfl) ?_
      refine dr0 2048 rfl (ok (pick_t h22 (.d (eB y23)) _)) (by kernel_rfl) ?_
      refine dr0 2112 rfl (ok (mv (.d (eB y23)))) (by kernel_rfl) ?_
      rcases Bool.eq_false_or_eq_true (y23) with h25 | h25
      · replace h := ite_t h h25
        refine drG (isT h25) ?_
        refine dr0 2176 rfl (ok (mv (.d (eU64 a0)))) (by kernel_rfl) ?_
        refine drG (isT h25) ?_
        refine dr0 2240 rfl (ok (mv (.ref 640 y14.1.length 0 y14.1.length))) (by kernel_rfl) ?_
        refine drG (isT h25) ?_
        obtain ⟨y26, h27, h⟩ := bind_inv h
        refine dr0 2304 rfl (call_ok (v := .d (eB y26)) (u := []) (ar_d (eU64 a0) (ar_to rfl (to_1 rfl (ds_r (ys := y14.1) rfl rfl rfl ds_nil)) ar_nil)) rfl (passkeylaw12wordsOK a0 y14.1 y26 h27) rfl) (by kernel_rfl) ?_
        refine dr0 2368 rfl (ok (pick_t h25 (.d (eB y26)) _)) (by kernel_rfl) ?_
        refine dr0 2432 rfl (ok (mv (.d (eB y26)))) (by kernel_rfl) ?_
        rcases Bool.eq_false_or_eq_true (y26) with h28 | h28
        · replace h := ite_t h h28
          refine drG (isT h28) ?_
          refine dr0 2496 rfl (ok (mv (.d (eU64 a0)))) (by kernel_rfl) ?_
          refine drG (isT h28) ?_
          refine dr0 2560 rfl (ok (add64 _ (1#64))) (by kernel_rfl) ?_
          refine drG (isT h28) ?_
          refine dr0 2624 rfl (ok (mv (.ref 640 y14.1.length 0 y14.1.length))) (by kernel_rfl) ?_
          refine drG (isT h28) ?_
          obtain ⟨y29, h30, h⟩ := bind_inv h
          refine dr0 2688 rfl (call_ok (v := .d (eB y29)) (u := []) (ar_d (eU64 (a0 + (1#64))) (ar_to rfl (to_1 rfl (ds_r (ys := y14.1) rfl rfl rfl ds_nil)) ar_nil)) rfl (passkeylaw12wordsOK (a0 + (1#64)) y14.1 y29 h30) rfl) (by kernel_rfl) ?_
          refine dr0 2752 rfl (ok (pick_t h28 (.d (eB y29)) _)) (by kernel_rfl) ?_
          refine dr0 2816 rfl (ok (mv (.d (eB y29)))) (by kernel_rfl) ?_
          rcases Bool.eq_false_or_eq_true (y29) with h31 | h31
          · replace h := ite_t h h31
            refine drG (isT h31) ?_
            obtain ⟨y32, h33, h⟩ := bind_inv h
            refine dr0 2880 rfl (call_ok (v := .d (eB y32)) (u := []) ar_nil rfl (passkeylaw12awakeOK  y32 h33) rfl) (by kernel_rfl) ?_
            refine dr0 2944 rfl (ok (pick_t h31 (.d (eB y32)) _)) (by kernel_rfl) ?_
            refine dr0 3008 rfl (ok (mv (.d (eB y32)))) (by kernel_rfl) ?_
            refine hK17 _ _ ?_
            simp only [n0, n1, n2, n3, n4, n5, n6, n7, n8, n9, n10, n11, n12, n13, n14, n15, n16, n17, n18, n19, reduceIte]
            refine hK16 _ _ _ ?_
            refine rwp_ret ?_
            obtain rfl := Option.some.inj h
            try simp only [thenK, blockK, reduceIte]
            exact Or.inl (end_ok trivial (rs_t (v := .d (eB y32)) rfl rs_nil) (en_d (to_d _) en_nil) ou_nil (by first | exact eok rfl rfl rfl rfl trivial | (refine eok ?_ ?_ ?_ ?_ ?_ <;> first | rfl | exact trivial | simp [retM, Mem.get, PV.renL, PV.ren, Blk.ren, comps, rhoR, rhoM, appN, PV.refsL, PV.refs, keys, nodupB, Blk.refs, allIn, Blk.bor])))
          · replace h := ite_f h h31
            refine drGN 2880 rfl rfl h31 ?_
            refine dr0 2944 rfl (ok (pick_f h31 _ (.d (eB false)))) (by kernel_rfl) ?_
            refine dr0 3008 rfl (ok (mv (.d (eB false)))) (by kernel_rfl) ?_
            refine hK17 _ _ ?_
            simp only [n0, n1, n2, n3, n4, n5, n6, n7, n8, n9, n10, n11, n12, n13, n14, n15, n16, n17, n18, n19, reduceIte]
            refine hK16 _ _ _ ?_
            refine rwp_ret ?_
            obtain rfl := Option.some.inj h
            try simp only [thenK, blockK, reduceIte]
            exact Or.inl (end_ok trivial (rs_t (v := .d (eB false)) rfl rs_nil) (en_d (to_d _) en_nil) ou_nil (by first | exact eok rfl rfl rfl rfl trivial | (refine eok ?_ ?_ ?_ ?_ ?_ <;> first | rfl | exact trivial | simp [retM, Mem.get, PV.renL, PV.ren, Blk.ren, comps, rhoR, rhoM, appN, PV.refsL, PV.refs, keys, nodupB, Blk.refs, allIn, Blk.bor])))
        · replace h := ite_f h h28
          refine drGN 2496 rfl rfl h28 ?_
          refine drGN 2560 rfl rfl h28 ?_
          refine drGN 2624 rfl rfl h28 ?_
          refine drGN 2688 rfl rfl h28 ?_
          refine dr0 2752 rfl (ok (pick_f h28 _ (.d (eB false)))) (by kernel_rfl) ?_
          refine dr0 2816 rfl (ok (mv (.d (eB false)))) (by kernel_rfl) ?_
          refine drGN 2880 rfl rfl rfl ?_
          refine dr0 2944 rfl (ok (pick_f rfl _ (.d (eB false)))) (by kernel_rfl) ?_
          refine dr0 3008 rfl (ok (mv (.d (eB false)))) (by kernel_rfl) ?_
          refine hK17 _ _ ?_
          simp only [n0, n1, n2, n3, n4, n5, n6, n7, n8, n9, n10, n11, n12, n13, n14, n15, n16, n17, n18, n19, reduceIte]
          refine hK16 _ _ _ ?_
          refine rwp_ret ?_
          obtain rfl := Option.some.inj h
          try simp only [thenK, blockK, reduceIte]
          exact Or.inl (end_ok trivial (rs_t (v := .d (eB false)) rfl rs_nil) (en_d (to_d _) en_nil) ou_nil (by first | exact eok rfl rfl rfl rfl trivial | (refine eok ?_ ?_ ?_ ?_ ?_ <;> first | rfl | exact trivial | simp [retM, Mem.get, PV.renL, PV.ren, Blk.ren, comps, rhoR, rhoM, appN, PV.refsL, PV.refs, keys, nodupB, Blk.refs, allIn, Blk.bor])))
      · replace h := ite_f h h25
        refine drGN 2176 rfl rfl h25 ?_
        refine drGN 2240 rfl rfl h25 ?_
        refine drGN 2304 rfl rfl h25 ?_
        refine dr0 2368 rfl (ok (pick_f h25 _ (.d (eB false)))) (by kernel_rfl) ?_
        refine dr0 2432 rfl (ok (mv (.d (eB false)))) (by kernel_rfl) ?_
        refine drGN 2496 rfl rfl rfl ?_
        refine drGN 2560 rfl rfl rfl ?_
        refine drGN 2624 rfl rfl rfl ?_
        refine drGN 2688 rfl rfl rfl ?_
        refine dr0 2752 rfl (ok (pick_f rfl _ (.d (eB false)))) (by kernel_rfl) ?_
        refine dr0 2816 rfl (ok (mv (.d (eB false)))) (by kernel_rfl) ?_
        refine drGN 2880 rfl rfl rfl ?_
        refine dr0 2944 rfl (ok (pick_f rfl _ (.d (eB false)))) (by kernel_rfl) ?_
        refine dr0 3008 rfl (ok (mv (.d (eB false)))) (by kernel_rfl) ?_
        refine hK17 _ _ ?_
        simp only [n0, n1, n2, n3, n4, n5, n6, n7, n8, n9, n10, n11, n12, n13, n14, n15, n16, n17, n18, n19, reduceIte]
        refine hK16 _ _ _ ?_
        refine rwp_ret ?_
        obtain rfl := Option.some.inj h
        try simp only [thenK, blockK, reduceIte]
        exact Or.inl (end_ok trivial (rs_t (v := .d (eB false)) rfl rs_nil) (en_d (to_d _) en_nil) ou_nil (by first | exact eok rfl rfl rfl rfl trivial | (refine eok ?_ ?_ ?_ ?_ ?_ <;> first | rfl | exact trivial | simp [retM, Mem.get, PV.renL, PV.ren, Blk.ren, comps, rhoR, rhoM, appN, PV.refsL, PV.refs, keys, nodupB, Blk.refs, allIn, Blk.bor])))
    · replace h := ite_f h h22
      refine drGN 1856 rfl rfl h22 ?_
      refine drGN 1920 rfl rfl h22 ?_
      refine drGN 1984 rfl rfl h22 ?_
      refine dr0 2048 rfl (ok (pick_f h22 _ (.d (eB false)))) (by kernel_rfl) ?_
      refine dr0 2112 rfl (ok (mv (.d (eB false)))) (by kernel_rfl) ?_
      refine drGN 2176 rfl rfl rfl ?_
      refine drGN 2240 rfl rfl rfl ?_
      refine drGN 2304 rfl rfl rfl ?_
      refine dr0 2368 rfl (ok (pick_f rfl _ (.d (eB false)))) (by kernel_rfl) ?_
      refine dr0 2432 rfl (ok (mv (.d (eB false)))) (by kernel_rfl) ?_
      refine drGN 2496 rfl rfl rfl ?_
      refine drGN 2560 rfl rfl rfl ?_
      refine drGN 2624 rfl rfl rfl ?_
      refine drGN 2688 rfl rfl rfl ?_
      refine dr0 2752 rfl (ok (pick_f rfl _ (.d (eB false)))) (by kernel_rfl) ?_
      refine dr0 2816 rfl (ok (mv (.d (eB false)))) (by kernel_rfl) ?_
      refine drGN 2880 rfl rfl rfl ?_
      refine dr0 2944 rfl (ok (pick_f rfl _ (.d (eB false)))) (by kernel_rfl) ?_
      refine dr0 3008 rfl (ok (mv (.d (eB false)))) (by kernel_rfl) ?_
      refine hK17 _ _ ?_
      simp only [n0, n1, n2, n3, n4, n5, n6, n7, n8, n9, n10, n11, n12, n13, n14, n15, n16, n17, n18, n19, reduceIte]
      refine hK16 _ _ _ ?_
      refine rwp_ret ?_
      obtain rfl := Option.some.inj h
      try simp only [thenK, blockK, reduceIte]
      exact Or.inl (end_ok trivial (rs_t (v := .d (eB false)) rfl rs_nil) (en_d (to_d _) en_nil) ou_nil (by first | exact eok rfl rfl rfl rfl trivial | (refine eok ?_ ?_ ?_ ?_ ?_ <;> first | rfl | exact trivial | simp [retM, Mem.get, PV.renL, PV.ren, Blk.ren, comps, rhoR, rhoM, appN, PV.refsL, PV.refs, keys, nodupB, Blk.refs, allIn, Blk.bor])))

end Go.Proofs.Ty
