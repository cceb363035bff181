/- Each Go function comes to what its plain function says. PRINTED by a program of this session (ty.py). -/
import Derived.Test.YtfhdcabplkhdcaaDoorS6
set_option linter.unusedVariables false
set_option linter.unusedSimpArgs false
set_option maxHeartbeats 4000000
set_option maxRecDepth 10000
namespace Go.Proofs.Ty
open Go Go.RW Go.Proofs
open Go.RW renaming thenK → n0, blockK → n1, keepE → n2, updM → n3, envE → n4
open Go.RW.Mem renaming get → n5
open List renaming filter_cons → n6, filter_nil → n7, nil_append → n8, cons_append → n9, map_cons → n10, map_nil → n11, length_cons → n12, length_nil → n13
open Option renaming isNone_none → n14, isNone_some → n15
open Bool renaming false_eq_true → n16
open Nat renaming reduceEqDiff → n17, reduceAdd → n18, reduceMul → n19
/-- passkey/passkeyref3.Seal -/
def passkeyref3SealH : Hints := ⟨[(0, [0, 1, 2, 3]), (1, [0, 1, 2, 3, 19]), (2, [8, 9]), (3, [0, 1, 2, 10]), (4, [0, 1, 2, 10, 11]), (5, [8, 9])], []⟩
def passkeyref3SealRc : RCode :=
  .seq (.region false [⟨some 8, .mv, [.k (.nil 1)], none, []⟩, ⟨some 9, .mv, [.k (.d (.int .i64 0))], none, []⟩] [0, 1, 2, 3]) (.seq (.seq (.region false [⟨some 12, .mv, [.t 3],
  none, []⟩, ⟨some 13, .len, [.t 12], none, []⟩, ⟨some 14, .bin .gtr, [.t 13, .k (.d (.int .i64 1024))], none, []⟩, ⟨some 15, .mv, [.t 14], none, []⟩, ⟨some 16, .mv, [.t 2], some
  (15, false), []⟩, ⟨some 17, .len, [.t 16], some (15, false), []⟩, ⟨some 18, .bin .gtr, [.t 17, .k (.d (.int .i64 1024))], some (15, false), []⟩, ⟨some 19, .pick, [.t 15, .k (.d
  (.bool true)), .t 18], none, []⟩] [0, 1, 2, 3, 19]) (.cond (.t 19) (.seq (.region false [⟨some 8, .mv, [.k (.nil 1)], none, []⟩, ⟨some 9, .mv, [.k (.d (.int .i64 8))], none, []⟩]
  [8, 9]) .ret) .skip)) (.seq (.region false [⟨some 20, .mv, [.t 0], none, []⟩, ⟨some 21, .mv, [.t 1], none, []⟩, ⟨some 22, .mv, [.t 3], none, []⟩, ⟨some 23, .call 30 true, [.t 20,
  .t 21, .t 22], none, []⟩, ⟨some 10, .mv, [.t 23], none, []⟩] [0, 1, 2, 10]) (.seq (.region false [⟨some 24, .mv, [.t 1], none, []⟩, ⟨some 25, .bslice 1 false 1 [.d (.int .u64 0)]
  [0], [.t 24], none, []⟩, ⟨some 26, .call 31 true, [.t 25], none, []⟩, ⟨some 27, .mv, [.t 10], none, []⟩, ⟨some 28, .app 1 140737488355328, [.t 26, .t 27], none, []⟩, ⟨some 11,
  .mv, [.t 28], none, []⟩] [0, 1, 2, 10, 11]) (.seq (.region false [⟨some 29, .mv, [.t 11], none, []⟩, ⟨some 30, .mv, [.t 0], none, []⟩, ⟨some 31, .mv, [.t 1], none, []⟩, ⟨some 32,
  .mv, [.t 2], none, []⟩, ⟨some 33, .mv, [.t 10], none, []⟩, ⟨some 34, .call 32 false, [.t 30, .t 31, .t 32, .t 33], none, []⟩, ⟨some 35, .bslice 1 false 1 [.d (.int .u64 0)] [0],
  [.t 34], none, []⟩, ⟨some 36, .call 31 true, [.t 35], none, []⟩, ⟨some 37, .app 1 140737488355328, [.t 29, .t 36], none, []⟩, ⟨some 8, .mv, [.t 37], none, []⟩, ⟨some 9, .mv, [.k
  (.d (.int .i64 0))], none, []⟩] [8, 9]) .ret))))
def passkeyref3SealRr : List RR := [.t 8, .t 9]
theorem passkeyref3SealC : compFn Tryd.prog 12 passkeyref3SealH = some (passkeyref3SealRc, passkeyref3SealRr, 38) := by kernel_rfl
theorem passkeyref3SealOK (a0 : BitVec 64) (a1 : BitVec 64) (a2 : List (BitVec 8)) (a3 : List (BitVec 8)) (res : (List (BitVec 8)) × Int) (h : passkeyref3Seal a0 a1 a2 a3 = some res) : CallOK Tryd.prog 12 [.d (eU64 a0), .d (eU64 a1), .d ((eL 1 eU8) a2), .d ((eL 1 eU8) a3)] [] (.tup [.ref 0 res.1.length 0 res.1.length, .d (eI res.2)]) [(0, .row true 1 (res.1.map eU8))] := by
  unfold passkeyref3Seal at h
  refine callOK passkeyref3SealC fm rfl ?_
  simp only [initE, initM, nbor, List.map_cons, List.map_nil, Nat.reduceAdd]
  unfold passkeyref3SealRc
  refine rwp_seq fun K1 hK1 => ?_
  refine rwp_region fun K2 hK2 => ?_
  refine st0 128 rfl (ok (mv (.nil 1))) ?_
  refine st0 192 rfl (ok (mv (.d (eI (0 : Int))))) ?_
  refine hK2 _ _ ?_
  simp only [n0, n1, n2, n3, n4, n5, n6, n7, n8, n9, n10, n11, n12, n13, n14, n15, n16, n17, n18, n19, reduceIte]
  refine hK1 _ _ _ ?_
  refine rwp_seq fun K3 hK3 => ?_
  refine rwp_join ([], []) 768 (fun env mem => ∃ (v4 : Bool), passkeyref3SealJ1 a0 a1 a2 a3 v4 = some res ∧ env = [(0, .d (eU64 a0)), (1, .d (eU64 a1)), (2, .d ((eL 1 eU8) a2)), (3, .d ((eL 1 eU8) a3)), (19, .d (eB v4))] ∧ mem = []) (fun _ _ hI => ?_) (fun K5 hK5 => ?_)
  · obtain ⟨v4, h, rfl, rfl⟩ := hI
    unfold passkeyref3SealJ1 at h
    rcases Bool.eq_false_or_eq_true (v4) with h6 | h6
    · replace h := ite_t h h6
      refine rwp_t (isT h6) ?_
      refine rwp_seq fun K7 hK7 => ?_
      refine rwp_region fun K8 hK8 => ?_
      refine st0 832 rfl (ok (mv (.nil 1))) ?_
      refine st0 896 rfl (ok (mv (.d (eI (8 : Int))))) ?_
      refine hK8 _ _ ?_
      simp only [n0, n1, n2, n3, n4, n5, n6, n7, n8, n9, n10, n11, n12, n13, n14, n15, n16, n17, n18, n19, reduceIte]
      refine hK7 _ _ _ ?_
      refine rwp_ret ?_
      obtain rfl := Option.some.inj h
      try simp only [thenK, blockK, reduceIte]
      exact Or.inl (end_ok trivial (rs_t (v := .nil 1) rfl (rs_t (v := .d (eI (8 : Int))) rfl rs_nil)) (en_nilr (en_d (to_d _) en_nil)) ou_nil (by first | exact eok rfl rfl rfl rfl (And.intro (And.intro rfl rfl) trivial) | (refine eok ?_ ?_ ?_ ?_ ?_ <;> first | rfl | exact (And.intro (And.intro rfl rfl) trivial) | simp [retM, Mem.get, PV.renL, PV.ren, Blk.ren, comps, rhoR, rhoM, appN, PV.refsL, PV.refs, keys, nodupB, Blk.refs, allIn, Blk.bor])))
    · replace h := ite_f h h6
      refine rwp_f (isF h6) ?_
      refine rwp_skip ?_
      refine hK3 _ _ _ ?_
      refine rwp_seq fun K9 hK9 => ?_
      refine rwp_region fun K10 hK10 => ?_
      refine st0 832 rfl (ok (mv (.d (eU64 a0)))) ?_
      refine st0 896 rfl (ok (mv (.d (eU64 a1)))) ?_
      refine st0 960 rfl (ok (mv (.d ((eL 1 eU8) a3)))) ?_
      obtain ⟨y11, h12, h⟩ := bind_inv h
      refine st1 1024 rfl (mem' := [(960, .row true 1 (y11.map eU8))]) (call_ok (v := .ref 960 y11.length 0 y11.length) (u := [(960, .row true 1 (y11.map eU8))]) (ar_d (eU64 a0) (ar_d (eU64 a1) (ar_d ((eL 1 eU8) a3) ar_nil))) rfl (passkeyref3mixOK a0 a1 a3 y11 h12) rfl) rfl ?_
      refine st0 1088 rfl (ok (mv (.ref 960 y11.length 0 y11.length))) ?_
      refine hK10 _ _ ?_
      simp only [n0, n1, n2, n3, n4, n5, n6, n7, n8, n9, n10, n11, n12, n13, n14, n15, n16, n17, n18, n19, reduceIte]
      refine hK9 _ _ _ ?_
      refine rwp_seq fun K13 hK13 => ?_
      refine rwp_region fun K14 hK14 => ?_
      refine st0 1152 rfl (ok (mv (.d (eU64 a1)))) ?_
      refine st1 1216 rfl (mem' := [(1152, .row true 1 (([a1] : List (BitVec 64)).map eU64)), (960, .row true 1 (y11.map eU8))]) (ok (bsl (e := eU64) (ys := ([a1] : List (BitVec 64))) rfl rfl rfl)) rfl ?_
      obtain ⟨y15, h16, h⟩ := bind_inv h
      refine st1 1280 rfl (mem' := [(1216, .row true 1 (y15.map eU8)), (1152, .row false 1 (([a1] : List (BitVec 64)).map eU64)), (960, .row true 1 (y11.map eU8))]) (call_ok (v := .ref 1216 y15.length 0 y15.length) (u := [(1216, .row true 1 (y15.map eU8)), (1152, .row false 1 (([a1] : List (BitVec 64)).map eU64))]) (ar_to rfl (to_1 rfl (ds_r (ys := ([a1] : List (BitVec 64))) rfl rfl rfl ds_nil)) ar_nil) rfl (passkeyref1WordsOK ([a1] : List (BitVec 64)) y15 h16) rfl) rfl ?_
      refine st0 1344 rfl (ok (mv (.ref 960 y11.length 0 y11.length))) ?_
      obtain ⟨h17, h⟩ := asq_inv h
      refine st1 1408 rfl (mem' := [(1216, .row true 1 ((y15 ++ y11).map eU8)), (1152, .row false 1 (([a1] : List (BitVec 64)).map eU64)), (960, .row true 1 (y11.map eU8))]) (ok (appR (e := eU8) (xs := y15) (ys := y11) (contR (xs := y11) rfl rfl rfl) rfl rfl rfl h17)) rfl ?_
      refine st0 1472 rfl (ok (mv (.ref 1216 (((y15 ++ y11)).length) 0 (((y15 ++ y11)).length)))) ?_
      refine hK14 _ _ ?_
      simp only [n0, n1, n2, n3, n4, n5, n6, n7, n8, n9, n10, n11, n12, n13, n14, n15, n16, n17, n18, n19, reduceIte]
      refine hK13 _ _ _ ?_
      refine rwp_seq fun K18 hK18 => ?_
      refine rwp_region fun K19 hK19 => ?_
      refine st0 1536 rfl (ok (mv (.ref 1216 (((y15 ++ y11)).length) 0 (((y15 ++ y11)).length)))) ?_
      refine st0 1600 rfl (ok (mv (.d (eU64 a0)))) ?_
      refine st0 1664 rfl (ok (mv (.d (eU64 a1)))) ?_
      refine st0 1728 rfl (ok (mv (.d ((eL 1 eU8) a2)))) ?_
      refine st0 1792 rfl (ok (mv (.ref 960 y11.length 0 y11.length))) ?_
      obtain ⟨y20, h21, h⟩ := bind_inv h
      refine st0 1856 rfl (call_ok (v := .d (eU64 y20)) (u := []) (ar_d (eU64 a0) (ar_d (eU64 a1) (ar_d ((eL 1 eU8) a2) (ar_to rfl (to_1 rfl (ds_r (ys := y11) rfl rfl rfl ds_nil)) ar_nil)))) rfl (passkeyref3tagOK a0 a1 a2 y11 y20 h21) rfl) ?_
      refine st1 1920 rfl (mem' := [(1856, .row true 1 (([y20] : List (BitVec 64)).map eU64)), (1216, .row true 1 ((y15 ++ y11).map eU8)), (1152, .row false 1 (([a1] : List (BitVec 64)).map eU64)), (960, .row true 1 (y11.map eU8))]) (ok (bsl (e := eU64) (ys := ([y20] : List (BitVec 64))) rfl rfl rfl)) rfl ?_
      obtain ⟨y22, h23, h⟩ := bind_inv h
      refine st1 1984 rfl (mem' := [(1920, .row true 1 (y22.map eU8)), (1856, .row false 1 (([y20] : List (BitVec 64)).map eU64)), (1216, .row true 1 ((y15 ++ y11).map eU8)), (1152, .row false 1 (([a1] : List (BitVec 64)).map eU64)), (960, .row true 1 (y11.map eU8))]) (call_ok (v := .ref 1920 y22.length 0 y22.length) (u := [(1920, .row true 1 (y22.map eU8)), (1856, .row false 1 (([y20] : List (BitVec 64)).map eU64))]) (ar_to rfl (to_1 rfl (ds_r (ys := ([y20] : List (BitVec 64))) rfl rfl rfl ds_nil)) ar_nil) rfl (passkeyref1WordsOK ([y20] : List (BitVec 64)) y22 h23) rfl) rfl ?_
      obtain ⟨h24, h⟩ := asq_inv h
      refine st1 2048 rfl (mem' := [(1216, .row true 1 (((y15 ++ y11) ++ y22).map eU8)), (1920, .row true 1 (y22.map eU8)), (1856, .row false 1 (([y20] : List (BitVec 64)).map eU64)), (1152, .row false 1 (([a1] : List (BitVec 64)).map eU64)), (960, .row true 1 (y11.map eU8))]) (ok (appR (e := eU8) (xs := (y15 ++ y11)) (ys := y22) (contR (xs := y22) rfl rfl rfl) rfl rfl rfl h24)) rfl ?_
      refine st0 2112 rfl (ok (mv (.ref 1216 ((((y15 ++ y11) ++ y22)).length) 0 ((((y15 ++ y11) ++ y22)).length)))) ?_
      refine st0 2176 rfl (ok (mv (.d (eI (0 : Int))))) ?_
      refine hK19 _ _ ?_
      simp only [n0, n1, n2, n3, n4, n5, n6, n7, n8, n9, n10, n11, n12, n13, n14, n15, n16, n17, n18, n19, reduceIte]
      refine hK18 _ _ _ ?_
      refine rwp_ret ?_
      obtain rfl := Option.some.inj h
      try simp only [thenK, blockK, reduceIte]
      exact Or.inl (end_ok trivial (rs_t (v := .ref 1216 ((((y15 ++ y11) ++ y22)).length) 0 ((((y15 ++ y11) ++ y22)).length)) rfl (rs_t (v := .d (eI (0 : Int))) rfl rs_nil)) (en_ref (en_d (to_d _) en_nil)) ou_nil (by first | exact eok rfl rfl rfl rfl (And.intro (And.intro rfl rfl) trivial) | (refine eok ?_ ?_ ?_ ?_ ?_ <;> first | rfl | exact (And.intro (And.intro rfl rfl) trivial) | simp [retM, Mem.get, PV.renL, PV.ren, Blk.ren, comps, rhoR, rhoM, appN, PV.refsL, PV.refs, keys, nodupB, Blk.refs, allIn, Blk.bor])))
  · refine rwp_region fun K25 hK25 => ?_
    refine st0 256 rfl (ok (mv (.d ((eL 1 eU8) a3)))) ?_
    refine st0 320 rfl (ok (lenL _ _)) ?_
    refine st0 384 rfl (ok (gtrI _ (1024 : Int))) ?_
    refine st0 448 rfl (ok (mv (.d (eB (decide ((1024 : Int) < (a3.length : Int))))))) ?_
    rcases Bool.eq_false_or_eq_true ((decide ((1024 : Int) < (a3.length : Int)))) with h26 | h26
    · replace h := ite_t h h26
      refine stGN 512 rfl rfl h26 ?_
      refine stGN 576 rfl rfl h26 ?_
      refine stGN 640 rfl rfl h26 ?_
      refine st0 704 rfl (ok (pick_t h26 (.d (eB true)) _)) ?_
      refine hK25 _ _ ?_
      simp only [n0, n1, n2, n3, n4, n5, n6, n7, n8, n9, n10, n11, n12, n13, n14, n15, n16, n17, n18, n19, reduceIte]
      exact hK5 _ _ _ ⟨_, _, Settled.refl, _, _, ⟨_, h, rfl, rfl⟩, ⟨rfl, ⟨⟨rfl, rfl⟩, ⟨⟨rfl, rfl⟩, ⟨⟨rfl, rfl⟩, ⟨⟨rfl, rfl⟩, ⟨⟨rfl, rfl⟩, trivial⟩⟩⟩⟩⟩, trivial⟩, rfl⟩
    · replace h := ite_f h h26
      refine stG (isF h26) ?_
      refine st0 512 rfl (ok (mv (.d ((eL 1 eU8) a2)))) ?_
      refine stG (isF h26) ?_
      refine st0 576 rfl (ok (lenL _ _)) ?_
      refine stG (isF h26) ?_
      refine st0 640 rfl (ok (gtrI _ (1024 : Int))) ?_
      refine st0 704 rfl (ok (pick_f h26 _ (.d (eB (decide ((1024 : Int) < (a2.length : Int))))))) ?_
      refine hK25 _ _ ?_
      simp only [n0, n1, n2, n3, n4, n5, n6, n7, n8, n9, n10, n11, n12, n13, n14, n15, n16, n17, n18, n19, reduceIte]
      exact hK5 _ _ _ ⟨_, _, Settled.refl, _, _, ⟨_, h, rfl, rfl⟩, ⟨rfl, ⟨⟨rfl, rfl⟩, ⟨⟨rfl, rfl⟩, ⟨⟨rfl, rfl⟩, ⟨⟨rfl, rfl⟩, ⟨⟨rfl, rfl⟩, trivial⟩⟩⟩⟩⟩, trivial⟩, rfl⟩

/-- passkey/passkeyref1.Word -/
def passkeyref1WordH : Hints := ⟨[(0, [0]), (1, [0, 3]), (2, [0, 3, 4]), (3, [0, 3, 4, 12]), (5, [0, 3, 4]), (4, [0, 3, 4]), (6, [2])], []⟩
def passkeyref1WordRc : RCode :=
  .seq (.region false [⟨some 2, .mv, [.k (.d (.int .u64 0))], none, []⟩] [0]) (.seq (.region false [⟨some 3, .mv, [.k (.d (.int .u64 0))], none, []⟩] [0, 3]) (.seq (.seq (.region
  false [⟨some 4, .mv, [.k (.d (.int .i64 0))], none, []⟩] [0, 3, 4]) (.block 0 (.loop [] (.seq (.seq (.region false [⟨some 5, .mv, [.t 4], none, []⟩, ⟨some 6, .bin .lss, [.t 5, .k
  (.d (.int .i64 8))], none, []⟩, ⟨some 7, .mv, [.t 6], none, []⟩, ⟨some 8, .mv, [.t 4], some (7, true), []⟩, ⟨some 9, .mv, [.t 0], some (7, true), []⟩, ⟨some 10, .len, [.t 9],
  some (7, true), []⟩, ⟨some 11, .bin .lss, [.t 8, .t 10], some (7, true), []⟩, ⟨some 12, .pick, [.t 7, .t 11, .k (.d (.bool false))], none, []⟩] [0, 3, 4, 12]) (.cond (.t 12)
  .skip (.exit 0))) (.seq (.block 1 (.region false [⟨some 15, .mv, [.t 3], none, []⟩, ⟨some 16, .bin .shl, [.t 15, .k (.d (.int .u64 8))], none, []⟩, ⟨some 17, .mv, [.t 0], none,
  []⟩, ⟨some 18, .mv, [.t 4], none, []⟩, ⟨some 19, .ia 1, [.t 17, .t 18], none, []⟩, ⟨some 20, .load 1 false, [.t 19], none, []⟩, ⟨some 21, .cvt .u64, [.t 20], none, []⟩, ⟨some 22,
  .bin .or, [.t 16, .t 21], none, []⟩, ⟨some 3, .mv, [.t 22], none, []⟩] [0, 3, 4])) (.region false [⟨some 13, .mv, [.t 4], none, []⟩, ⟨some 14, .bin .add, [.t 13, .k (.d (.int
  .i64 1))], none, []⟩, ⟨some 4, .mv, [.t 14], none, []⟩] [0, 3, 4])))))) (.seq (.region false [⟨some 23, .mv, [.t 3], none, []⟩, ⟨some 2, .mv, [.t 23], none, []⟩] [2]) .ret)))
def passkeyref1WordRr : List RR := [.t 2]
theorem passkeyref1WordC : compFn Tryd.prog 56 passkeyref1WordH = some (passkeyref1WordRc, passkeyref1WordRr, 24) := by kernel_rfl
theorem passkeyref1WordOK (a0 : List (BitVec 8)) (res : BitVec 64) (h : passkeyref1Word a0 = some res) : CallOK Tryd.prog 56 [.d ((eL 1 eU8) a0)] [] (.d (eU64 res)) [] := by
  unfold passkeyref1Word at h
  refine callOK passkeyref1WordC fm rfl ?_
  simp only [initE, initM, nbor, List.map_cons, List.map_nil, Nat.reduceAdd]
  unfold passkeyref1WordRc
  refine rwp_seq fun K1 hK1 => ?_
  refine rwp_region fun K2 hK2 => ?_
  refine st0 128 rfl (ok (mv (.d (eU64 (0#64))))) ?_
  refine hK2 _ _ ?_
  simp only [n0, n1, n2, n3, n4, n5, n6, n7, n8, n9, n10, n11, n12, n13, n14, n15, n16, n17, n18, n19, reduceIte]
  refine hK1 _ _ _ ?_
  refine rwp_seq fun K3 hK3 => ?_
  refine rwp_region fun K4 hK4 => ?_
  refine st0 192 rfl (ok (mv (.d (eU64 (0#64))))) ?_
  refine hK4 _ _ ?_
  simp only [n0, n1, n2, n3, n4, n5, n6, n7, n8, n9, n10, n11, n12, n13, n14, n15, n16, n17, n18, n19, reduceIte]
  refine hK3 _ _ _ ?_
  refine rwp_join ([], []) 2368 (fun env mem => ∃ (v5 : BitVec 64), passkeyref1WordJ1 v5 = some res ∧ env = [(3, .d (eU64 v5))] ∧ mem = []) (fun _ _ hI => ?_) (fun K6 hK6 => ?_)
  · obtain ⟨v5, h, rfl, rfl⟩ := hI
    unfold passkeyref1WordJ1 at h
    refine rwp_seq fun K7 hK7 => ?_
    refine rwp_region fun K8 hK8 => ?_
    refine st0 2432 rfl (ok (mv (.d (eU64 v5)))) ?_
    refine st0 2496 rfl (ok (mv (.d (eU64 v5)))) ?_
    refine hK8 _ _ ?_
    simp only [n0, n1, n2, n3, n4, n5, n6, n7, n8, n9, n10, n11, n12, n13, n14, n15, n16, n17, n18, n19, reduceIte]
    refine hK7 _ _ _ ?_
    refine rwp_ret ?_
    obtain rfl := Option.some.inj h
    try simp only [thenK, blockK, reduceIte]
    exact Or.inl (end_ok trivial (rs_t (v := .d (eU64 v5)) rfl rs_nil) (en_d (to_d _) en_nil) ou_nil (by first | exact eok rfl rfl rfl rfl trivial | (refine eok ?_ ?_ ?_ ?_ ?_ <;> first | rfl | exact trivial | simp [retM, Mem.get, PV.renL, PV.ren, Blk.ren, comps, rhoR, rhoM, appN, PV.refsL, PV.refs, keys, nodupB, Blk.refs, allIn, Blk.bor])))
  · refine rwp_seq fun K9 hK9 => ?_
    refine rwp_region fun K10 hK10 => ?_
    refine st0 256 rfl (ok (mv (.d (eI (0 : Int))))) ?_
    refine hK10 _ _ ?_
    simp only [n0, n1, n2, n3, n4, n5, n6, n7, n8, n9, n10, n11, n12, n13, n14, n15, n16, n17, n18, n19, reduceIte]
    refine hK9 _ _ _ ?_
    refine rwp_block fun K11 hK11 => ?_
    refine rwp_loop ([], []) 1728 (fun k env mem => ∃ (v12 : BitVec 64) (v13 : Int), passkeyref1WordL2 a0 k v12 v13 = some res ∧ env = [(0, .d ((eL 1 eU8) a0)), (3, .d (eU64 v12)), (4, .d (eI v13))] ∧ mem = []) FUEL ⟨_, _, Settled.refl, _, _, ⟨_, _, h, rfl, rfl⟩, ⟨rfl, ⟨⟨rfl, rfl⟩, ⟨⟨rfl, rfl⟩, ⟨⟨rfl, rfl⟩, trivial⟩⟩⟩, trivial⟩, rfl⟩ (fun k2 env1 mem1 hI K14 hK14 => ?_)
    obtain ⟨v12, v13, h, rfl, rfl⟩ := hI
    cases k2 with
    | zero => simp [passkeyref1WordL2] at h
    | succ k2 =>
      rw [passkeyref1WordL2] at h
      refine rwp_seq fun K15 hK15 => ?_
      refine rwp_join ([], []) 2304 (fun env mem => ∃ (v16 : Bool), passkeyref1WordJ3 (passkeyref1WordL2 a0 k2) a0 v12 v13 v16 = some res ∧ env = [(0, .d ((eL 1 eU8) a0)), (3, .d (eU64 v12)), (4, .d (eI v13)), (12, .d (eB v16))] ∧ mem = []) (fun _ _ hI => ?_) (fun K17 hK17 => ?_)
      · obtain ⟨v16, h, rfl, rfl⟩ := hI
        unfold passkeyref1WordJ3 at h
        rcases Bool.eq_false_or_eq_true (v16) with h18 | h18
        · replace h := ite_t h h18
          refine rwp_t (isT h18) ?_
          refine rwp_skip ?_
          refine hK15 _ _ _ ?_
          refine rwp_seq fun K19 hK19 => ?_
          refine rwp_block fun K20 hK20 => ?_
          refine rwp_region fun K21 hK21 => ?_
          refine st0 2368 rfl (ok (mv (.d (eU64 v12)))) ?_
          refine st0 2432 rfl (ok (shlL64 _ 8 rfl)) ?_
          refine st0 2496 rfl (ok (mv (.d ((eL 1 eU8) a0)))) ?_
          refine st0 2560 rfl (ok (mv (.d (eI v13)))) ?_
          obtain ⟨h22, h⟩ := asq_inv h
          refine st0 2624 rfl (ok (iaL (e := eU8) (xs := a0) 0#8 h22)) ?_
          refine st0 2688 rfl (ok (ld_i (v := eU8 (a0.getD v13.toNat 0#8)) rfl rfl)) ?_
          refine st0 2752 rfl (ok (cvt8_64 _)) ?_
          refine st0 2816 rfl (ok (or64 _ _)) ?_
          refine st0 2880 rfl (ok (mv (.d (eU64 ((v12 <<< 8) ||| ((a0.getD v13.toNat 0#8).setWidth 64)))))) ?_
          refine hK21 _ _ ?_
          simp only [n0, n1, n2, n3, n4, n5, n6, n7, n8, n9, n10, n11, n12, n13, n14, n15, n16, n17, n18, n19, reduceIte]
          refine hK20 _ _ _ ?_
          refine hK19 _ _ _ ?_
          refine rwp_region fun K23 hK23 => ?_
          refine st0 2944 rfl (ok (mv (.d (eI v13)))) ?_
          refine st0 3008 rfl (ok (addI _ (1 : Int))) ?_
          refine st0 3072 rfl (ok (mv (.d (eI (w64 (v13 + (1 : Int))))))) ?_
          refine hK23 _ _ ?_
          simp only [n0, n1, n2, n3, n4, n5, n6, n7, n8, n9, n10, n11, n12, n13, n14, n15, n16, n17, n18, n19, reduceIte]
          exact hK14.out _ _ _ k2 (Nat.lt_succ_self k2) ⟨_, _, Settled.refl, _, _, ⟨_, _, h, rfl, rfl⟩, ⟨rfl, ⟨⟨rfl, rfl⟩, ⟨⟨rfl, rfl⟩, ⟨⟨rfl, rfl⟩, trivial⟩⟩⟩, trivial⟩, rfl⟩
        · replace h := ite_f h h18
          refine rwp_f (isF h18) ?_
          refine rwp_exit ?_
          refine hK11 _ _ _ ?_
          exact hK6 _ _ _ ⟨_, _, Settled.refl, _, _, ⟨_, h, rfl, rfl⟩, ⟨rfl, ⟨⟨rfl, rfl⟩, trivial⟩, trivial⟩, rfl⟩
      · refine rwp_region fun K24 hK24 => ?_
        refine st0 1792 rfl (ok (mv (.d (eI v13)))) ?_
        refine st0 1856 rfl (ok (lssI _ (8 : Int))) ?_
        refine st0 1920 rfl (ok (mv (.d (eB (decide (v13 < (8 : Int))))))) ?_
        rcases Bool.eq_false_or_eq_true ((decide (v13 < (8 : Int)))) with h25 | h25
        · replace h := ite_t h h25
          refine stG (isT h25) ?_
          refine st0 1984 rfl (ok (mv (.d (eI v13)))) ?_
          refine stG (isT h25) ?_
          refine st0 2048 rfl (ok (mv (.d ((eL 1 eU8) a0)))) ?_
          refine stG (isT h25) ?_
          refine st0 2112 rfl (ok (lenL _ _)) ?_
          refine stG (isT h25) ?_
          refine st0 2176 rfl (ok (lssI _ _)) ?_
          refine st0 2240 rfl (ok (pick_t h25 (.d (eB (decide (v13 < (a0.length : Int))))) _)) ?_
          refine hK24 _ _ ?_
          simp only [n0, n1, n2, n3, n4, n5, n6, n7, n8, n9, n10, n11, n12, n13, n14, n15, n16, n17, n18, n19, reduceIte]
          exact hK17 _ _ _ ⟨_, _, Settled.refl, _, _, ⟨_, h, rfl, rfl⟩, ⟨rfl, ⟨⟨rfl, rfl⟩, ⟨⟨rfl, rfl⟩, ⟨⟨rfl, rfl⟩, ⟨⟨rfl, rfl⟩, trivial⟩⟩⟩⟩, trivial⟩, rfl⟩
        · replace h := ite_f h h25
          refine stGN 1984 rfl rfl h25 ?_
          refine stGN 2048 rfl rfl h25 ?_
          refine stGN 2112 rfl rfl h25 ?_
          refine stGN 2176 rfl rfl h25 ?_
          refine st0 2240 rfl (ok (pick_f h25 _ (.d (eB false)))) ?_
          refine hK24 _ _ ?_
          simp only [n0, n1, n2, n3, n4, n5, n6, n7, n8, n9, n10, n11, n12, n13, n14, n15, n16, n17, n18, n19, reduceIte]
          exact hK17 _ _ _ ⟨_, _, Settled.refl, _, _, ⟨_, h, rfl, rfl⟩, ⟨rfl, ⟨⟨rfl, rfl⟩, ⟨⟨rfl, rfl⟩, ⟨⟨rfl, rfl⟩, ⟨⟨rfl, rfl⟩, trivial⟩⟩⟩⟩, trivial⟩, rfl⟩

/-- passkey/passkeyref3.Open -/
def passkeyref3OpenH : Hints := ⟨[(0, [0, 1, 2]), (1, [0, 1, 2, 12]), (2, [6, 7]), (3, [0, 1, 2, 20]), (4, [6, 7]), (5, [0, 1, 2, 8, 9]), (6, [0, 8, 9, 40]), (7, [6, 7]), (8, [6, 7])], []⟩
def passkeyref3OpenRc : RCode :=
  .seq (.region false [⟨some 6, .mv, [.k (.nil 1)], none, []⟩, ⟨some 7, .mv, [.k (.d (.int .i64 0))], none, []⟩] [0, 1, 2]) (.seq (.seq (.region false [⟨some 10, .mv, [.t 2], none,
  []⟩, ⟨some 11, .len, [.t 10], none, []⟩, ⟨some 12, .bin .lss, [.t 11, .k (.d (.int .i64 16))], none, []⟩] [0, 1, 2, 12]) (.cond (.t 12) (.seq (.region false [⟨some 6, .mv, [.k
  (.nil 1)], none, []⟩, ⟨some 7, .mv, [.k (.d (.int .i64 1))], none, []⟩] [6, 7]) .ret) .skip)) (.seq (.seq (.region false [⟨some 13, .mv, [.t 2], none, []⟩, ⟨some 14, .len, [.t
  13], none, []⟩, ⟨some 15, .bin .gtr, [.t 14, .k (.d (.int .i64 1040))], none, []⟩, ⟨some 16, .mv, [.t 15], none, []⟩, ⟨some 17, .mv, [.t 1], some (16, false), []⟩, ⟨some 18,
  .len, [.t 17], some (16, false), []⟩, ⟨some 19, .bin .gtr, [.t 18, .k (.d (.int .i64 1024))], some (16, false), []⟩, ⟨some 20, .pick, [.t 16, .k (.d (.bool true)), .t 19], none,
  []⟩] [0, 1, 2, 20]) (.cond (.t 20) (.seq (.region false [⟨some 6, .mv, [.k (.nil 1)], none, []⟩, ⟨some 7, .mv, [.k (.d (.int .i64 8))], none, []⟩] [6, 7]) .ret) .skip)) (.seq
  (.region true [⟨some 21, .mv, [.t 2], none, []⟩, ⟨some 22, .slice 1 false true false, [.t 21, .k (.d (.int .i64 8))], none, [0]⟩, ⟨some 23, .call 56 false, [.t 22], none, [0,
  1]⟩, ⟨some 24, .mv, [.t 2], none, []⟩, ⟨some 25, .mv, [.t 2], none, []⟩, ⟨some 26, .len, [.t 25], none, [4]⟩, ⟨some 27, .bin .sub, [.t 26, .k (.d (.int .i64 8))], none, [4, 5]⟩,
  ⟨some 28, .slice 1 true true false, [.t 24, .k (.d (.int .i64 8)), .t 27], none, [3, 4, 5, 6]⟩, ⟨some 8, .mv, [.t 23], none, [0, 1, 2]⟩, ⟨some 9, .mv, [.t 28], none, [0, 1, 2, 3,
  4, 5, 6, 7, 8]⟩] [0, 1, 2, 8, 9]) (.seq (.seq (.region false [⟨some 29, .mv, [.t 2], none, []⟩, ⟨some 30, .mv, [.t 2], none, []⟩, ⟨some 31, .len, [.t 30], none, []⟩, ⟨some 32,
  .bin .sub, [.t 31, .k (.d (.int .i64 8))], none, []⟩, ⟨some 33, .slice 1 true false false, [.t 29, .t 32], none, []⟩, ⟨some 34, .call 56 false, [.t 33], none, []⟩, ⟨some 35, .mv,
  [.t 0], none, []⟩, ⟨some 36, .mv, [.t 8], none, []⟩, ⟨some 37, .mv, [.t 1], none, []⟩, ⟨some 38, .mv, [.t 9], none, []⟩, ⟨some 39, .call 32 false, [.t 35, .t 36, .t 37, .t 38],
  none, []⟩, ⟨some 40, .bin .neq, [.t 34, .t 39], none, []⟩] [0, 8, 9, 40]) (.cond (.t 40) (.seq (.region false [⟨some 6, .mv, [.k (.nil 1)], none, []⟩, ⟨some 7, .mv, [.k (.d (.int
  .i64 14))], none, []⟩] [6, 7]) .ret) .skip)) (.seq (.region false [⟨some 41, .mv, [.t 0], none, []⟩, ⟨some 42, .mv, [.t 8], none, []⟩, ⟨some 43, .mv, [.t 9], none, []⟩, ⟨some 44,
  .call 30 true, [.t 41, .t 42, .t 43], none, []⟩, ⟨some 6, .mv, [.t 44], none, []⟩, ⟨some 7, .mv, [.k (.d (.int .i64 0))], none, []⟩] [6, 7]) .ret)))))
def passkeyref3OpenRr : List RR := [.t 6, .t 7]
theorem passkeyref3OpenC : compFn Tryd.prog 44 passkeyref3OpenH = some (passkeyref3OpenRc, passkeyref3OpenRr, 45) := by kernel_rfl
theorem passkeyref3OpenOK (a0 : BitVec 64) (a1 : List (BitVec 8)) (a2 : List (BitVec 8)) (res : (List (BitVec 8)) × Int) (h : passkeyref3Open a0 a1 a2 = some res) : CallOK Tryd.prog 44 [.d (eU64 a0), .d ((eL 1 eU8) a1), .d ((eL 1 eU8) a2)] [] (.tup [.ref 0 res.1.length 0 res.1.length, .d (eI res.2)]) [(0, .row true 1 (res.1.map eU8))] := by
  unfold passkeyref3Open at h
  refine callOK passkeyref3OpenC fm rfl ?_
  simp only [initE, initM, nbor, List.map_cons, List.map_nil, Nat.reduceAdd]
  unfold passkeyref3OpenRc
  refine rwp_seq fun K1 hK1 => ?_
  refine rwp_region fun K2 hK2 => ?_
  refine st0 128 rfl (ok (mv (.nil 1))) ?_
  refine st0 192 rfl (ok (mv (.d (eI (0 : Int))))) ?_
  refine hK2 _ _ ?_
  simp only [n0, n1, n2, n3, n4, n5, n6, n7, n8, n9, n10, n11, n12, n13, n14, n15, n16, n17, n18, n19, reduceIte]
  refine hK1 _ _ _ ?_
  refine rwp_seq fun K3 hK3 => ?_
  refine rwp_seq fun K4 hK4 => ?_
  refine rwp_region fun K5 hK5 => ?_
  refine st0 256 rfl (ok (mv (.d ((eL 1 eU8) a2)))) ?_
  refine st0 320 rfl (ok (lenL _ _)) ?_
  refine st0 384 rfl (ok (lssI _ (16 : Int))) ?_
  refine hK5 _ _ ?_
  simp only [n0, n1, n2, n3, n4, n5, n6, n7, n8, n9, n10, n11, n12, n13, n14, n15, n16, n17, n18, n19, reduceIte]
  refine hK4 _ _ _ ?_
  rcases Bool.eq_false_or_eq_true ((decide ((a2.length : Int) < (16 : Int)))) with h6 | h6
  · replace h := ite_t h h6
    refine rwp_t (isT h6) ?_
    refine rwp_seq fun K7 hK7 => ?_
    refine rwp_region fun K8 hK8 => ?_
    refine st0 448 rfl (ok (mv (.nil 1))) ?_
    refine st0 512 rfl (ok (mv (.d (eI (1 : Int))))) ?_
    refine hK8 _ _ ?_
    simp only [n0, n1, n2, n3, n4, n5, n6, n7, n8, n9, n10, n11, n12, n13, n14, n15, n16, n17, n18, n19, reduceIte]
    refine hK7 _ _ _ ?_
    refine rwp_ret ?_
    obtain rfl := Option.some.inj h
    try simp only [thenK, blockK, reduceIte]
    exact Or.inl (end_ok trivial (rs_t (v := .nil 1) rfl (rs_t (v := .d (eI (1 : Int))) rfl rs_nil)) (en_nilr (en_d (to_d _) en_nil)) ou_nil (by first | exact eok rfl rfl rfl rfl (And.intro (And.intro rfl rfl) trivial) | (refine eok ?_ ?_ ?_ ?_ ?_ <;> first | rfl | exact (And.intro (And.intro rfl rfl) trivial) | simp [retM, Mem.get, PV.renL, PV.ren, Blk.ren, comps, rhoR, rhoM, appN, PV.refsL, PV.refs, keys, nodupB, Blk.refs, allIn, Blk.bor])))
  · replace h := ite_f h h6
    refine rwp_f (isF h6) ?_
    refine rwp_skip ?_
    refine hK3 _ _ _ ?_
    refine rwp_seq fun K9 hK9 => ?_
    refine rwp_join ([], []) 960 (fun env mem => ∃ (v10 : Bool), passkeyref3OpenJ1 a0 a1 a2 v10 = some res ∧ env = [(0, .d (eU64 a0)), (1, .d ((eL 1 eU8) a1)), (2, .d ((eL 1 eU8) a2)), (20, .d (eB v10))] ∧ mem = []) (fun _ _ hI => ?_) (fun K11 hK11 => ?_)
    · obtain ⟨v10, h, rfl, rfl⟩ := hI
      unfold passkeyref3OpenJ1 at h
      rcases Bool.eq_false_or_eq_true (v10) with h12 | h12
      · replace h := ite_t h h12
        refine rwp_t (isT h12) ?_
        refine rwp_seq fun K13 hK13 => ?_
        refine rwp_region fun K14 hK14 => ?_
        refine st0 1024 rfl (ok (mv (.nil 1))) ?_
        refine st0 1088 rfl (ok (mv (.d (eI (8 : Int))))) ?_
        refine hK14 _ _ ?_
        simp only [n0, n1, n2, n3, n4, n5, n6, n7, n8, n9, n10, n11, n12, n13, n14, n15, n16, n17, n18, n19, reduceIte]
        refine hK13 _ _ _ ?_
        refine rwp_ret ?_
        obtain rfl := Option.some.inj h
        try simp only [thenK, blockK, reduceIte]
        exact Or.inl (end_ok trivial (rs_t (v := .nil 1) rfl (rs_t (v := .d (eI (8 : Int))) rfl rs_nil)) (en_nilr (en_d (to_d _) en_nil)) ou_nil (by first | exact eok rfl rfl rfl rfl (And.intro (And.intro rfl rfl) trivial) | (refine eok ?_ ?_ ?_ ?_ ?_ <;> first | rfl | exact (And.intro (And.intro rfl rfl) trivial) | simp [retM, Mem.get, PV.renL, PV.ren, Blk.ren, comps, rhoR, rhoM, appN, PV.refsL, PV.refs, keys, nodupB, Blk.refs, allIn, Blk.bor])))
      · replace h := ite_f h h12
        refine rwp_f (isF h12) ?_
        refine rwp_skip ?_
        refine hK9 _ _ _ ?_
        refine rwp_seq fun K15 hK15 => ?_
        refine rwp_draw fun K16 hK16 => ?_
        refine dr0 1024 rfl (ok (mv (.d ((eL 1 eU8) a2)))) (by kernel_rfl) ?_
        obtain ⟨h17, h⟩ := asq_inv h
        refine dr0 1088 rfl (ok (slL_h (xs := a2) (e := eU8) h17)) (by kernel_rfl) ?_
        obtain ⟨y18, h19, h⟩ := bind_inv h
        refine dr0 1152 rfl (call_ok (v := .d (eU64 y18)) (u := []) (ar_d ((eL 1 eU8) (dropTake 0 (8 : Int).toNat a2)) ar_nil) rfl (passkeyref1WordOK (dropTake 0 (8 : Int).toNat a2) y18 h19) rfl) (by kernel_rfl) ?_
        refine dr0 1216 rfl (ok (mv (.d ((eL 1 eU8) a2)))) (by kernel_rfl) ?_
        refine dr0 1280 rfl (ok (mv (.d ((eL 1 eU8) a2)))) (by kernel_rfl) ?_
        refine dr0 1344 rfl (ok (lenL _ _)) (by kernel_rfl) ?_
        refine dr0 1408 rfl (ok (subI _ (8 : Int))) (by kernel_rfl) ?_
        obtain ⟨h20, h⟩ := asq_inv h
        obtain ⟨v21, h22, h⟩ := lett_inv h
        refine dr0e 1472 rfl (ok (slL_lh (xs := a2) (e := eU8) h20)) (congrArg (fun z => PV.d ((eL 1 eU8) z)) h22) (by kernel_rfl) ?_
        refine dr0 1536 rfl (ok (mv (.d (eU64 y18)))) (by kernel_rfl) ?_
        refine dr0 1600 rfl (ok (mv (.d ((eL 1 eU8) v21)))) (by kernel_rfl) ?_
        refine hK16 _ _ ?_
        simp only [n0, n1, n2, n3, n4, n5, n6, n7, n8, n9, n10, n11, n12, n13, n14, n15, n16, n17, n18, n19, reduceIte]
        refine hK15 _ _ _ ?_
        refine rwp_seq fun K23 hK23 => ?_
        refine rwp_seq fun K24 hK24 => ?_
        refine rwp_region fun K25 hK25 => ?_
        refine st0 1664 rfl (ok (mv (.d ((eL 1 eU8) a2)))) ?_
        refine st0 1728 rfl (ok (mv (.d ((eL 1 eU8) a2)))) ?_
        refine st0 1792 rfl (ok (lenL _ _)) ?_
        refine st0 1856 rfl (ok (subI _ (8 : Int))) ?_
        obtain ⟨h26, h⟩ := asq_inv h
        obtain ⟨v27, h28, h⟩ := lett_inv h
        refine st0e 1920 rfl (ok (slL_l (xs := a2) (e := eU8) h26)) (congrArg (fun z => PV.d ((eL 1 eU8) z)) h28) ?_
        obtain ⟨y29, h30, h⟩ := bind_inv h
        refine st0 1984 rfl (call_ok (v := .d (eU64 y29)) (u := []) (ar_d ((eL 1 eU8) v27) ar_nil) rfl (passkeyref1WordOK v27 y29 h30) rfl) ?_
        refine st0 2048 rfl (ok (mv (.d (eU64 a0)))) ?_
        refine st0 2112 rfl (ok (mv (.d (eU64 y18)))) ?_
        refine st0 2176 rfl (ok (mv (.d ((eL 1 eU8) a1)))) ?_
        refine st0 2240 rfl (ok (mv (.d ((eL 1 eU8) v21)))) ?_
        obtain ⟨y31, h32, h⟩ := bind_inv h
        refine st0 2304 rfl (call_ok (v := .d (eU64 y31)) (u := []) (ar_d (eU64 a0) (ar_d (eU64 y18) (ar_d ((eL 1 eU8) a1) (ar_d ((eL 1 eU8) v21) ar_nil)))) rfl (passkeyref3tagOK a0 y18 a1 v21 y31 h32) rfl) ?_
        refine st0 2368 rfl (ok (neq64 _ _)) ?_
        refine hK25 _ _ ?_
        simp only [n0, n1, n2, n3, n4, n5, n6, n7, n8, n9, n10, n11, n12, n13, n14, n15, n16, n17, n18, n19, reduceIte]
        refine hK24 _ _ _ ?_
        rcases Bool.eq_false_or_eq_true ((y29 != y31)) with h33 | h33
        · replace h := ite_t h h33
          refine rwp_t (isT h33) ?_
          refine rwp_seq fun K34 hK34 => ?_
          refine rwp_region fun K35 hK35 => ?_
          refine st0 2432 rfl (ok (mv (.nil 1))) ?_
          refine st0 2496 rfl (ok (mv (.d (eI (14 : Int))))) ?_
          refine hK35 _ _ ?_
          simp only [n0, n1, n2, n3, n4, n5, n6, n7, n8, n9, n10, n11, n12, n13, n14, n15, n16, n17, n18, n19, reduceIte]
          refine hK34 _ _ _ ?_
          refine rwp_ret ?_
          obtain rfl := Option.some.inj h
          try simp only [thenK, blockK, reduceIte]
          exact Or.inl (end_ok trivial (rs_t (v := .nil 1) rfl (rs_t (v := .d (eI (14 : Int))) rfl rs_nil)) (en_nilr (en_d (to_d _) en_nil)) ou_nil (by first | exact eok rfl rfl rfl rfl (And.intro (And.intro rfl rfl) trivial) | (refine eok ?_ ?_ ?_ ?_ ?_ <;> first | rfl | exact (And.intro (And.intro rfl rfl) trivial) | simp [retM, Mem.get, PV.renL, PV.ren, Blk.ren, comps, rhoR, rhoM, appN, PV.refsL, PV.refs, keys, nodupB, Blk.refs, allIn, Blk.bor])))
        · replace h := ite_f h h33
          refine rwp_f (isF h33) ?_
          refine rwp_skip ?_
          refine hK23 _ _ _ ?_
          refine rwp_seq fun K36 hK36 => ?_
          refine rwp_region fun K37 hK37 => ?_
          refine st0 2432 rfl (ok (mv (.d (eU64 a0)))) ?_
          refine st0 2496 rfl (ok (mv (.d (eU64 y18)))) ?_
          refine st0 2560 rfl (ok (mv (.d ((eL 1 eU8) v21)))) ?_
          obtain ⟨y38, h39, h⟩ := bind_inv h
          refine st1 2624 rfl (mem' := [(2560, .row true 1 (y38.map eU8))]) (call_ok (v := .ref 2560 y38.length 0 y38.length) (u := [(2560, .row true 1 (y38.map eU8))]) (ar_d (eU64 a0) (ar_d (eU64 y18) (ar_d ((eL 1 eU8) v21) ar_nil))) rfl (passkeyref3mixOK a0 y18 v21 y38 h39) rfl) rfl ?_
          refine st0 2688 rfl (ok (mv (.ref 2560 y38.length 0 y38.length))) ?_
          refine st0 2752 rfl (ok (mv (.d (eI (0 : Int))))) ?_
          refine hK37 _ _ ?_
          simp only [n0, n1, n2, n3, n4, n5, n6, n7, n8, n9, n10, n11, n12, n13, n14, n15, n16, n17, n18, n19, reduceIte]
          refine hK36 _ _ _ ?_
          refine rwp_ret ?_
          obtain rfl := Option.some.inj h
          try simp only [thenK, blockK, reduceIte]
          exact Or.inl (end_ok trivial (rs_t (v := .ref 2560 y38.length 0 y38.length) rfl (rs_t (v := .d (eI (0 : Int))) rfl rs_nil)) (en_ref (en_d (to_d _) en_nil)) ou_nil (by first | exact eok rfl rfl rfl rfl (And.intro (And.intro rfl rfl) trivial) | (refine eok ?_ ?_ ?_ ?_ ?_ <;> first | rfl | exact (And.intro (And.intro rfl rfl) trivial) | simp [retM, Mem.get, PV.renL, PV.ren, Blk.ren, comps, rhoR, rhoM, appN, PV.refsL, PV.refs, keys, nodupB, Blk.refs, allIn, Blk.bor])))
    · refine rwp_region fun K40 hK40 => ?_
      refine st0 448 rfl (ok (mv (.d ((eL 1 eU8) a2)))) ?_
      refine st0 512 rfl (ok (lenL _ _)) ?_
      refine st0 576 rfl (ok (gtrI _ (1040 : Int))) ?_
      refine st0 640 rfl (ok (mv (.d (eB (decide ((1040 : Int) < (a2.length : Int))))))) ?_
      rcases Bool.eq_false_or_eq_true ((decide ((1040 : Int) < (a2.length : Int)))) with h41 | h41
      · replace h := ite_t h h41
        refine stGN 704 rfl rfl h41 ?_
        refine stGN 768 rfl rfl h41 ?_
        refine stGN 832 rfl rfl h41 ?_
        refine st0 896 rfl (ok (pick_t h41 (.d (eB true)) _)) ?_
        refine hK40 _ _ ?_
        simp only [n0, n1, n2, n3, n4, n5, n6, n7, n8, n9, n10, n11, n12, n13, n14, n15, n16, n17, n18, n19, reduceIte]
        exact hK11 _ _ _ ⟨_, _, Settled.refl, _, _, ⟨_, h, rfl, rfl⟩, ⟨rfl, ⟨⟨rfl, rfl⟩, ⟨⟨rfl, rfl⟩, ⟨⟨rfl, rfl⟩, ⟨⟨rfl, rfl⟩, trivial⟩⟩⟩⟩, trivial⟩, rfl⟩
      · replace h := ite_f h h41
        refine stG (isF h41) ?_
        refine st0 704 rfl (ok (mv (.d ((eL 1 eU8) a1)))) ?_
        refine stG (isF h41) ?_
        refine st0 768 rfl (ok (lenL _ _)) ?_
        refine stG (isF h41) ?_
        refine st0 832 rfl (ok (gtrI _ (1024 : Int))) ?_
        refine st0 896 rfl (ok (pick_f h41 _ (.d (eB (decide ((1024 : Int) < (a1.length : Int))))))) ?_
        refine hK40 _ _ ?_
        simp only [n0, n1, n2, n3, n4, n5, n6, n7, n8, n9, n10, n11, n12, n13, n14, n15, n16, n17, n18, n19, reduceIte]
        exact hK11 _ _ _ ⟨_, _, Settled.refl, _, _, ⟨_, h, rfl, rfl⟩, ⟨rfl, ⟨⟨rfl, rfl⟩, ⟨⟨rfl, rfl⟩, ⟨⟨rfl, rfl⟩, ⟨⟨rfl, rfl⟩, trivial⟩⟩⟩⟩, trivial⟩, rfl⟩

/-- passkey/passkeylaw12.made -/
def passkeylaw12madeH : Hints := ⟨[(0, [0, 2]), (1, [2])], []⟩
def passkeylaw12madeRc : RCode :=
  .seq (.region false [⟨some 2, .alloc [.d (.int .u64 0), .d (.bool false), .d (.int .u64 0), .d (.int .i64 0), .d (.str ⟨#[]⟩), .d (.int .i64 0)], [], none, []⟩] [0, 2]) (.seq
  (.region false [⟨some 3, .mv, [.t 0], none, []⟩, ⟨some 4, .bin .and, [.t 3, .k (.d (.int .i64 7))], none, []⟩, ⟨some 5, .bin .gtr, [.t 4, .k (.d (.int .i64 0))], none, []⟩, ⟨some
  6, .mv, [.t 0], none, []⟩, ⟨some 7, .bin .shr, [.t 6, .k (.d (.int .u64 3))], none, []⟩, ⟨some 8, .bin .and, [.t 7, .k (.d (.int .i64 3))], none, []⟩, ⟨some 9, .cvt .u64, [.t 8],
  none, []⟩, ⟨some 10, .mv, [.t 0], none, []⟩, ⟨some 11, .bin .shr, [.t 10, .k (.d (.int .u64 5))], none, []⟩, ⟨some 12, .bin .and, [.t 11, .k (.d (.int .i64 7))], none, []⟩, ⟨some
  13, .bslice 1 false 3 [.d (.str ⟨#[]⟩)] [0, 1, 2], [.k (.d (.str ⟨#[]⟩)), .k (.d (.str ⟨#[97, 46, 101, 120, 97, 109, 112, 108, 101]⟩)), .k (.d (.str ⟨#[98, 46, 101, 120, 97, 109,
  112, 108, 101]⟩))], none, []⟩, ⟨some 14, .mv, [.t 0], none, []⟩, ⟨some 15, .bin .shr, [.t 14, .k (.d (.int .u64 8))], none, []⟩, ⟨some 16, .bin .and, [.t 15, .k (.d (.int .i64
  3))], none, []⟩, ⟨some 17, .bin .rem, [.t 16, .k (.d (.int .i64 3))], none, []⟩, ⟨some 18, .ia 1, [.t 13, .t 17], none, []⟩, ⟨some 19, .load 1 false, [.t 18], none, []⟩, ⟨some
  20, .mv, [.t 0], none, []⟩, ⟨some 21, .bin .shr, [.t 20, .k (.d (.int .u64 10))], none, []⟩, ⟨some 22, .bin .and, [.t 21, .k (.d (.int .i64 4095))], none, []⟩, ⟨some 23, .build
  [.d (.int .u64 0), .d (.bool false), .d (.int .u64 0), .d (.int .i64 0), .d (.str ⟨#[]⟩), .d (.int .i64 0)] [(0, 1), (1, 1), (2, 1), (3, 1), (4, 1), (5, 1)], [.k (.d (.int .u64
  3)), .t 5, .t 9, .t 12, .t 19, .t 22], none, []⟩, ⟨none, .store 6, [.t 2, .t 23], none, []⟩] [2]) .ret)
def passkeylaw12madeRr : List RR := [.c 2 6 true]
theorem passkeylaw12madeC : compFn Tryd.prog 14 passkeylaw12madeH = some (passkeylaw12madeRc, passkeylaw12madeRr, 24) := by kernel_rfl
theorem passkeylaw12madeOK (a0 : Int) (res : TApiToken) (h : passkeylaw12made a0 = some res) : CallOK Tryd.prog 14 [.d (eI a0)] [] (.d (eTApiToken res)) [] := by
  unfold passkeylaw12made at h
  refine callOK passkeylaw12madeC fm rfl ?_
  simp only [initE, initM, nbor, List.map_cons, List.map_nil, Nat.reduceAdd]
  unfold passkeylaw12madeRc
  refine rwp_seq fun K1 hK1 => ?_
  refine rwp_region fun K2 hK2 => ?_
  refine st1 128 rfl (mem' := [(64, .var .mine [.d (eU64 (0#64)), .d (eB false), .d (eU64 (0#64)), .d (eI (0 : Int)), .d (eS ([] : List (BitVec 8))), .d (eI (0 : Int))])]) (ok (alc (zs := [.d (eU64 (0#64)), .d (eB false), .d (eU64 (0#64)), .d (eI (0 : Int)), .d (eS ([] : List (BitVec 8))), .d (eI (0 : Int))]))) rfl ?_
  refine hK2 _ _ ?_
  simp only [n0, n1, n2, n3, n4, n5, n6, n7, n8, n9, n10, n11, n12, n13, n14, n15, n16, n17, n18, n19, reduceIte]
  refine hK1 _ _ _ ?_
  refine rwp_seq fun K3 hK3 => ?_
  refine rwp_region fun K4 hK4 => ?_
  refine st0 192 rfl (ok (mv (.d (eI a0)))) ?_
  refine st0 256 rfl (ok (andI _ (7 : Int))) ?_
  refine st0 320 rfl (ok (gtrI _ (0 : Int))) ?_
  refine st0 384 rfl (ok (mv (.d (eI a0)))) ?_
  refine st0 448 rfl (ok (shrII _ (by decide))) ?_
  refine st0 512 rfl (ok (andI _ (3 : Int))) ?_
  obtain ⟨v5, h6, h⟩ := lett_inv h
  refine st0e 576 rfl (ok (ofI64 _ (ibits .and .i64 (ishr .i64 a0 (3 : Int)) (3 : Int)))) (congrArg (fun z => PV.d (eU64 z)) h6) ?_
  refine st0 640 rfl (ok (mv (.d (eI a0)))) ?_
  refine st0 704 rfl (ok (shrII _ (by decide))) ?_
  refine st0 768 rfl (ok (andI _ (7 : Int))) ?_
  refine st1 832 rfl (mem' := [(768, .row true 1 (([([] : List (BitVec 8)), ([97#8, 46#8, 101#8, 120#8, 97#8, 109#8, 112#8, 108#8, 101#8] : List (BitVec 8)), ([98#8, 46#8, 101#8, 120#8, 97#8, 109#8, 112#8, 108#8, 101#8] : List (BitVec 8))] : List (List (BitVec 8))).map eS)), (64, .var .mine [.d (eU64 (0#64)), .d (eB false), .d (eU64 (0#64)), .d (eI (0 : Int)), .d (eS ([] : List (BitVec 8))), .d (eI (0 : Int))])]) (ok (bsl (e := eS) (ys := ([([] : List (BitVec 8)), ([97#8, 46#8, 101#8, 120#8, 97#8, 109#8, 112#8, 108#8, 101#8] : List (BitVec 8)), ([98#8, 46#8, 101#8, 120#8, 97#8, 109#8, 112#8, 108#8, 101#8] : List (BitVec 8))] : List (List (BitVec 8)))) rfl rfl rfl)) rfl ?_
  refine st0 896 rfl (ok (mv (.d (eI a0)))) ?_
  refine st0 960 rfl (ok (shrII _ (by decide))) ?_
  refine st0 1024 rfl (ok (andI _ (3 : Int))) ?_
  obtain ⟨v7, h8, h⟩ := lett_inv h
  refine st0e 1088 rfl (ok (remI _ (3 : Int) (by decide))) (congrArg (fun z => PV.d (eI z)) h8) ?_
  obtain ⟨h9, h⟩ := asq_inv h
  refine st0 1152 rfl (ok (iaR (xs := ([([] : List (BitVec 8)), ([97#8, 46#8, 101#8, 120#8, 97#8, 109#8, 112#8, 108#8, 101#8] : List (BitVec 8)), ([98#8, 46#8, 101#8, 120#8, 97#8, 109#8, 112#8, 108#8, 101#8] : List (BitVec 8))] : List (List (BitVec 8)))) (e := eS) rfl rfl h9)) ?_
  refine st0 1216 rfl (ok (ld_r (e := eS) (xs := ([([] : List (BitVec 8)), ([97#8, 46#8, 101#8, 120#8, 97#8, 109#8, 112#8, 108#8, 101#8] : List (BitVec 8)), ([98#8, 46#8, 101#8, 120#8, 97#8, 109#8, 112#8, 108#8, 101#8] : List (BitVec 8))] : List (List (BitVec 8)))) ([] : List (BitVec 8)) rfl rfl (by have := h9; simp at this ⊢; omega) rfl)) ?_
  refine st0 1280 rfl (ok (mv (.d (eI a0)))) ?_
  refine st0 1344 rfl (ok (shrII _ (by decide))) ?_
  refine st0 1408 rfl (ok (andI _ (4095 : Int))) ?_
  refine st0 1472 rfl (ok (bld (v := .d (.agg [eU64 (3#64), eB (decide ((0 : Int) < (ibits .and .i64 a0 (7 : Int)))), eU64 v5, eI (ibits .and .i64 (ishr .i64 a0 (5 : Int)) (7 : Int)), eS (([([] : List (BitVec 8)), ([97#8, 46#8, 101#8, 120#8, 97#8, 109#8, 112#8, 108#8, 101#8] : List (BitVec 8)), ([98#8, 46#8, 101#8, 120#8, 97#8, 109#8, 112#8, 108#8, 101#8] : List (BitVec 8))] : List (List (BitVec 8))).getD (0 + v7.toNat) ([] : List (BitVec 8))), eI (ibits .and .i64 (ishr .i64 a0 (10 : Int)) (4095 : Int))])) rfl rfl)) ?_
  refine stn 1536 rfl (mem' := [(64, .var .mine [.d (eU64 (3#64)), .d (eB (decide ((0 : Int) < (ibits .and .i64 a0 (7 : Int))))), .d (eU64 v5), .d (eI (ibits .and .i64 (ishr .i64 a0 (5 : Int)) (7 : Int))), .d (eS (([([] : List (BitVec 8)), ([97#8, 46#8, 101#8, 120#8, 97#8, 109#8, 112#8, 108#8, 101#8] : List (BitVec 8)), ([98#8, 46#8, 101#8, 120#8, 97#8, 109#8, 112#8, 108#8, 101#8] : List (BitVec 8))] : List (List (BitVec 8))).getD (0 + v7.toNat) ([] : List (BitVec 8)))), .d (eI (ibits .and .i64 (ishr .i64 a0 (10 : Int)) (4095 : Int)))]), (768, .row true 1 (([([] : List (BitVec 8)), ([97#8, 46#8, 101#8, 120#8, 97#8, 109#8, 112#8, 108#8, 101#8] : List (BitVec 8)), ([98#8, 46#8, 101#8, 120#8, 97#8, 109#8, 112#8, 108#8, 101#8] : List (BitVec 8))] : List (List (BitVec 8))).map eS))]) (ok (sto_v (ps' := [.d (eU64 (3#64)), .d (eB (decide ((0 : Int) < (ibits .and .i64 a0 (7 : Int))))), .d (eU64 v5), .d (eI (ibits .and .i64 (ishr .i64 a0 (5 : Int)) (7 : Int))), .d (eS (([([] : List (BitVec 8)), ([97#8, 46#8, 101#8, 120#8, 97#8, 109#8, 112#8, 108#8, 101#8] : List (BitVec 8)), ([98#8, 46#8, 101#8, 120#8, 97#8, 109#8, 112#8, 108#8, 101#8] : List (BitVec 8))] : List (List (BitVec 8))).getD (0 + v7.toNat) ([] : List (BitVec 8)))), .d (eI (ibits .and .i64 (ishr .i64 a0 (10 : Int)) (4095 : Int)))]) rfl rfl rfl rfl)) rfl ?_
  refine hK4 _ _ ?_
  simp only [n0, n1, n2, n3, n4, n5, n6, n7, n8, n9, n10, n11, n12, n13, n14, n15, n16, n17, n18, n19, reduceIte]
  refine hK3 _ _ _ ?_
  refine rwp_ret ?_
  obtain rfl := Option.some.inj h
  try simp only [thenK, blockK, reduceIte]
  exact Or.inl (end_ok trivial (rs_c (id := 64) (off := 0) (v := .d (.agg [eU64 (3#64), eB (decide ((0 : Int) < (ibits .and .i64 a0 (7 : Int)))), eU64 v5, eI (ibits .and .i64 (ishr .i64 a0 (5 : Int)) (7 : Int)), eS (([([] : List (BitVec 8)), ([97#8, 46#8, 101#8, 120#8, 97#8, 109#8, 112#8, 108#8, 101#8] : List (BitVec 8)), ([98#8, 46#8, 101#8, 120#8, 97#8, 109#8, 112#8, 108#8, 101#8] : List (BitVec 8))] : List (List (BitVec 8))).getD (0 + v7.toNat) ([] : List (BitVec 8))), eI (ibits .and .i64 (ishr .i64 a0 (10 : Int)) (4095 : Int))])) rfl rfl rfl rfl rs_nil) (en_d (to_d _) en_nil) ou_nil (by first | exact eok rfl rfl rfl rfl trivial | (refine eok ?_ ?_ ?_ ?_ ?_ <;> first | rfl | exact trivial | simp [retM, Mem.get, PV.renL, PV.ren, Blk.ren, comps, rhoR, rhoM, appN, PV.refsL, PV.refs, keys, nodupB, Blk.refs, allIn, Blk.bor])))

/-- passkey/token.SealWord -/
def tokenSealWordH : Hints := ⟨[(0, [0, 1, 2]), (1, [7]), (2, [6])], []⟩
def tokenSealWordRc : RCode :=
  .seq (.region false [⟨some 6, .mv, [.k (.nil 1)], none, []⟩] [0, 1, 2]) (.seq (.region false [⟨some 10, .mv, [.t 0], none, []⟩, ⟨some 11, .mv, [.t 1], none, []⟩, ⟨some 12, .mv, [.t
  2], none, []⟩, ⟨some 13, .bslice 1 false 1 [.d (.int .u64 0)] [0], [.t 12], none, []⟩, ⟨some 14, .call 36 true, [.t 13], none, []⟩, ⟨some 15, .call 29 true, [.t 10, .t 11, .k
  (.nil 1), .t 14], none, []⟩, ⟨some 9, .mv, [.t 15], none, []⟩, ⟨some 16, .ext 0, [.t 9], none, []⟩, ⟨some 17, .ext 1, [.t 9], none, []⟩, ⟨some 7, .mv, [.t 16], none, []⟩, ⟨some
  8, .mv, [.t 17], none, []⟩] [7]) (.seq (.region false [⟨some 18, .mv, [.t 7], none, []⟩, ⟨some 6, .mv, [.t 18], none, []⟩] [6]) .ret))
def tokenSealWordRr : List RR := [.t 6]
theorem tokenSealWordC : compFn Tryd.prog 26 tokenSealWordH = some (tokenSealWordRc, tokenSealWordRr, 19) := by kernel_rfl
theorem tokenSealWordOK (a0 : BitVec 64) (a1 : BitVec 64) (a2 : BitVec 64) (res : List (BitVec 8)) (h : tokenSealWord a0 a1 a2 = some res) : CallOK Tryd.prog 26 [.d (eU64 a0), .d (eU64 a1), .d (eU64 a2)] [] (.ref 0 res.length 0 res.length) [(0, .row true 1 (res.map eU8))] := by
  unfold tokenSealWord at h
  refine callOK tokenSealWordC fm rfl ?_
  simp only [initE, initM, nbor, List.map_cons, List.map_nil, Nat.reduceAdd]
  unfold tokenSealWordRc
  refine rwp_seq fun K1 hK1 => ?_
  refine rwp_region fun K2 hK2 => ?_
  refine st0 128 rfl (ok (mv (.nil 1))) ?_
  refine hK2 _ _ ?_
  simp only [n0, n1, n2, n3, n4, n5, n6, n7, n8, n9, n10, n11, n12, n13, n14, n15, n16, n17, n18, n19, reduceIte]
  refine hK1 _ _ _ ?_
  refine rwp_seq fun K3 hK3 => ?_
  refine rwp_region fun K4 hK4 => ?_
  refine st0 192 rfl (ok (mv (.d (eU64 a0)))) ?_
  refine st0 256 rfl (ok (mv (.d (eU64 a1)))) ?_
  refine st0 320 rfl (ok (mv (.d (eU64 a2)))) ?_
  refine st1 384 rfl (mem' := [(320, .row true 1 (([a2] : List (BitVec 64)).map eU64))]) (ok (bsl (e := eU64) (ys := ([a2] : List (BitVec 64))) rfl rfl rfl)) rfl ?_
  obtain ⟨y5, h6, h⟩ := bind_inv h
  refine st1 448 rfl (mem' := [(384, .row true 1 (y5.map eU8)), (320, .row false 1 (([a2] : List (BitVec 64)).map eU64))]) (call_ok (v := .ref 384 y5.length 0 y5.length) (u := [(384, .row true 1 (y5.map eU8)), (320, .row false 1 (([a2] : List (BitVec 64)).map eU64))]) (ar_to rfl (to_1 rfl (ds_r (ys := ([a2] : List (BitVec 64))) rfl rfl rfl ds_nil)) ar_nil) rfl (digestWordsOK ([a2] : List (BitVec 64)) y5 h6) rfl) rfl ?_
  obtain ⟨y7, h8, h⟩ := bind_inv h
  refine st1 512 rfl (mem' := [(448, .row true 1 (y7.1.map eU8)), (384, .row false 1 (y5.map eU8)), (320, .row false 1 (([a2] : List (BitVec 64)).map eU64))]) (call_ok (v := .tup [.ref 448 y7.1.length 0 y7.1.length, .d (eI y7.2)]) (u := [(448, .row true 1 (y7.1.map eU8)), (384, .row false 1 (y5.map eU8))]) (ar_d (eU64 a0) (ar_d (eU64 a1) (ar_to rfl (to_1 rfl (ds_n eU8 ds_nil)) (ar_to rfl (to_1 rfl (ds_r (ys := y5) rfl rfl rfl ds_nil)) ar_nil)))) rfl (sealSealOK a0 a1 ([] : List (BitVec 8)) y5 y7 h8) rfl) rfl ?_
  refine st0 576 rfl (ok (mv (.tup [.ref 448 y7.1.length 0 y7.1.length, .d (eI y7.2)]))) ?_
  refine st0 640 rfl (ok (extr (v := .ref 448 y7.1.length 0 y7.1.length) rfl rfl)) ?_
  refine st0 704 rfl (ok (extr (v := .d (eI y7.2)) rfl rfl)) ?_
  refine st0 768 rfl (ok (mv (.ref 448 y7.1.length 0 y7.1.length))) ?_
  refine st0 832 rfl (ok (mv (.d (eI y7.2)))) ?_
  refine hK4 _ _ ?_
  simp only [n0, n1, n2, n3, n4, n5, n6, n7, n8, n9, n10, n11, n12, n13, n14, n15, n16, n17, n18, n19, reduceIte]
  refine hK3 _ _ _ ?_
  refine rwp_seq fun K9 hK9 => ?_
  refine rwp_region fun K10 hK10 => ?_
  refine st0 896 rfl (ok (mv (.ref 448 y7.1.length 0 y7.1.length))) ?_
  refine st0 960 rfl (ok (mv (.ref 448 y7.1.length 0 y7.1.length))) ?_
  refine hK10 _ _ ?_
  simp only [n0, n1, n2, n3, n4, n5, n6, n7, n8, n9, n10, n11, n12, n13, n14, n15, n16, n17, n18, n19, reduceIte]
  refine hK9 _ _ _ ?_
  refine rwp_ret ?_
  obtain rfl := Option.some.inj h
  try simp only [thenK, blockK, reduceIte]
  exact Or.inl (end_ok trivial (rs_t (v := .ref 448 y7.1.length 0 y7.1.length) rfl rs_nil) (en_ref en_nil) ou_nil (by first | exact eok rfl rfl rfl rfl (And.intro (And.intro rfl rfl) trivial) | (refine eok ?_ ?_ ?_ ?_ ?_ <;> first | rfl | exact (And.intro (And.intro rfl rfl) trivial) | simp [retM, Mem.get, PV.renL, PV.ren, Blk.ren, comps, rhoR, rhoM, appN, PV.refsL, PV.refs, keys, nodupB, Blk.refs, allIn, Blk.bor])))

end Go.Proofs.Ty
