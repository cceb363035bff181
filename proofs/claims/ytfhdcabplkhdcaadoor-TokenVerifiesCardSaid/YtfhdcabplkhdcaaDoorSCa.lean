/- Each Go function comes to what its plain function says. PRINTED by a program of this session (ty.py). -/
import Derived.Test.YtfhdcabplkhdcaaDoorS8
set_option linter.unusedVariables false
set_option linter.unusedSimpArgs false
set_option maxHeartbeats 4000000
set_option maxRecDepth 10000
namespace Go.Proofs.Ty
open Go Go.RW Go.Proofs
open Go.RW renaming thenK → n0, blockK → n1, keepE → n2, updM → n3, envE → n4
open Go.RW.Mem renaming get → n5
open List renaming filter_cons → n6, filter_nil → n7, nil_append → n8, cons_append → n9, map_cons → n10, map_nil → n11, length_cons → n12, length_nil → n13
open Option renaming isNone_none → n14, isNone_some → n15
open Bool renaming false_eq_true → n16
open Nat renaming reduceEqDiff → n17, reduceAdd → n18, reduceMul → n19
/-- passkey/passkeyref10.Authorize -/
def passkeyref10AuthorizeH : Hints := ⟨[(0, [0, 1]), (1, [4])], []⟩
def passkeyref10AuthorizeRc : RCode :=
  .seq (.region false [⟨some 4, .mv, [.k (.d (.int .u64 0))], none, []⟩] [0, 1]) (.seq (.region false [⟨some 5, .mv, [.t 0], none, []⟩, ⟨some 6, .mv, [.t 1], none, []⟩, ⟨some 7,
  .bslice 1 false 1 [.d (.int .u64 0)] [0], [.t 6], none, []⟩, ⟨some 8, .call 31 true, [.t 7], none, []⟩, ⟨some 9, .call 34 false, [.t 5, .k (.d (.int .i64 12)), .t 8], none, []⟩,
  ⟨some 4, .mv, [.t 9], none, []⟩] [4]) .ret)
def passkeyref10AuthorizeRr : List RR := [.t 4]
theorem passkeyref10AuthorizeC : compFn Tryd.prog 19 passkeyref10AuthorizeH = some (passkeyref10AuthorizeRc, passkeyref10AuthorizeRr, 10) := by kernel_rfl
theorem passkeyref10AuthorizeOK (a0 : BitVec 64) (a1 : BitVec 64) (res : BitVec 64) (h : passkeyref10Authorize a0 a1 = some res) : CallOK Tryd.prog 19 [.d (eU64 a0), .d (eU64 a1)] [] (.d (eU64 res)) [] := by
  unfold passkeyref10Authorize at h
  refine callOK passkeyref10AuthorizeC fm rfl ?_
  simp only [initE, initM, nbor, List.map_cons, List.map_nil, Nat.reduceAdd]
  unfold passkeyref10AuthorizeRc
  refine rwp_seq fun K1 hK1 => ?_
  refine rwp_region fun K2 hK2 => ?_
  refine st0 128 rfl (ok (mv (.d (eU64 (0#64))))) ?_
  refine hK2 _ _ ?_
  simp only [n0, n1, n2, n3, n4, n5, n6, n7, n8, n9, n10, n11, n12, n13, n14, n15, n16, n17, n18, n19, reduceIte]
  refine hK1 _ _ _ ?_
  refine rwp_seq fun K3 hK3 => ?_
  refine rwp_region fun K4 hK4 => ?_
  refine st0 192 rfl (ok (mv (.d (eU64 a0)))) ?_
  refine st0 256 rfl (ok (mv (.d (eU64 a1)))) ?_
  refine st1 320 rfl (mem' := [(256, .row true 1 (([a1] : List (BitVec 64)).map eU64))]) (ok (bsl (e := eU64) (ys := ([a1] : List (BitVec 64))) rfl rfl rfl)) rfl ?_
  obtain ⟨y5, h6, h⟩ := bind_inv h
  refine st1 384 rfl (mem' := [(320, .row true 1 (y5.map eU8)), (256, .row false 1 (([a1] : List (BitVec 64)).map eU64))]) (call_ok (v := .ref 320 y5.length 0 y5.length) (u := [(320, .row true 1 (y5.map eU8)), (256, .row false 1 (([a1] : List (BitVec 64)).map eU64))]) (ar_to rfl (to_1 rfl (ds_r (ys := ([a1] : List (BitVec 64))) rfl rfl rfl ds_nil)) ar_nil) rfl (passkeyref1WordsOK ([a1] : List (BitVec 64)) y5 h6) rfl) rfl ?_
  obtain ⟨y7, h8, h⟩ := bind_inv h
  refine st0 448 rfl (call_ok (v := .d (eU64 y7)) (u := []) (ar_d (eU64 a0) (ar_d (eI (12 : Int)) (ar_to rfl (to_1 rfl (ds_r (ys := y5) rfl rfl rfl ds_nil)) ar_nil))) rfl (passkeyref1MacOK a0 (12 : Int) y5 y7 h8) rfl) ?_
  refine st0 512 rfl (ok (mv (.d (eU64 y7)))) ?_
  refine hK4 _ _ ?_
  simp only [n0, n1, n2, n3, n4, n5, n6, n7, n8, n9, n10, n11, n12, n13, n14, n15, n16, n17, n18, n19, reduceIte]
  refine hK3 _ _ _ ?_
  refine rwp_ret ?_
  obtain rfl := Option.some.inj h
  try simp only [thenK, blockK, reduceIte]
  exact Or.inl (end_ok trivial (rs_t (v := .d (eU64 y7)) rfl rs_nil) (en_d (to_d _) en_nil) ou_nil (by first | exact eok rfl rfl rfl rfl trivial | (refine eok ?_ ?_ ?_ ?_ ?_ <;> first | rfl | exact trivial | simp [retM, Mem.get, PV.renL, PV.ren, Blk.ren, comps, rhoR, rhoM, appN, PV.refsL, PV.refs, keys, nodupB, Blk.refs, allIn, Blk.bor])))

/-- passkey/passkeyref10.VerifyToken -/
def passkeyref10VerifyTokenH : Hints := ⟨[(0, [1, 2, 3, 4, 5, 6]), (1, [1, 2, 3, 4, 5, 6, 13]), (2, [73]), (3, [12]), (4, [12])], []⟩
def passkeyref10VerifyTokenRc : RCode :=
  .seq (.region false [⟨some 6, .box, [.t 0], none, []⟩, ⟨some 12, .mv, [.k (.d (.int .i64 0))], none, []⟩] [1, 2, 3, 4, 5, 6]) (.seq (.region false [⟨some 14, .mv, [.t 1], none,
  []⟩, ⟨some 15, .fa 5, [.t 6], none, []⟩, ⟨some 16, .load 1 false, [.t 15], none, []⟩, ⟨some 17, .bin .geq, [.t 14, .t 16], none, []⟩, ⟨some 18, .mv, [.t 17], none, []⟩, ⟨some 19,
  .mv, [.t 1], some (18, true), []⟩, ⟨some 20, .cvt .u64, [.t 19], some (18, true), []⟩, ⟨some 21, .fa 5, [.t 6], some (18, true), []⟩, ⟨some 22, .load 1 false, [.t 21], some (18,
  true), []⟩, ⟨some 23, .cvt .u64, [.t 22], some (18, true), []⟩, ⟨some 24, .bin .sub, [.t 20, .t 23], some (18, true), []⟩, ⟨some 25, .bin .gtr, [.t 24, .k (.d (.int .u64 100))],
  some (18, true), []⟩, ⟨some 26, .pick, [.t 18, .t 25, .k (.d (.bool false))], none, []⟩, ⟨some 13, .mv, [.t 26], none, []⟩] [1, 2, 3, 4, 5, 6, 13]) (.seq (.seq (.region false
  [⟨some 27, .fa 1, [.t 6], none, []⟩, ⟨some 28, .load 1 false, [.t 27], none, []⟩, ⟨some 29, .un .not, [.t 28], none, []⟩, ⟨some 30, .mv, [.t 29], none, []⟩, ⟨some 31, .mv, [.t
  1], some (30, false), []⟩, ⟨some 32, .fa 5, [.t 6], some (30, false), []⟩, ⟨some 33, .load 1 false, [.t 32], some (30, false), []⟩, ⟨some 34, .bin .lss, [.t 31, .t 33], some (30,
  false), []⟩, ⟨some 35, .pick, [.t 30, .k (.d (.bool true)), .t 34], none, []⟩, ⟨some 36, .mv, [.t 35], none, []⟩, ⟨some 37, .mv, [.t 13], some (36, false), []⟩, ⟨some 38, .pick,
  [.t 36, .k (.d (.bool true)), .t 37], none, []⟩, ⟨some 39, .mv, [.t 38], none, []⟩, ⟨some 40, .mv, [.t 2], some (39, false), []⟩, ⟨some 41, .bin .lss, [.t 40, .k (.d (.int .i64
  1))], some (39, false), []⟩, ⟨some 42, .pick, [.t 39, .k (.d (.bool true)), .t 41], none, []⟩, ⟨some 43, .mv, [.t 42], none, []⟩, ⟨some 44, .mv, [.t 2], some (43, false), []⟩,
  ⟨some 45, .bin .gtr, [.t 44, .k (.d (.int .i64 7))], some (43, false), []⟩, ⟨some 46, .pick, [.t 43, .k (.d (.bool true)), .t 45], none, []⟩, ⟨some 47, .mv, [.t 46], none, []⟩,
  ⟨some 48, .fa 3, [.t 6], some (47, false), []⟩, ⟨some 49, .load 1 false, [.t 48], some (47, false), []⟩, ⟨some 50, .mv, [.t 2], some (47, false), []⟩, ⟨some 51, .bin .and, [.t
  49, .t 50], some (47, false), []⟩, ⟨some 52, .mv, [.t 2], some (47, false), []⟩, ⟨some 53, .bin .neq, [.t 51, .t 52], some (47, false), []⟩, ⟨some 54, .pick, [.t 47, .k (.d
  (.bool true)), .t 53], none, []⟩, ⟨some 55, .mv, [.t 54], none, []⟩, ⟨some 56, .fa 4, [.t 6], some (55, false), []⟩, ⟨some 57, .load 1 false, [.t 56], some (55, false), []⟩,
  ⟨some 58, .bin .neq, [.t 57, .k (.d (.str ⟨#[]⟩))], some (55, false), []⟩, ⟨some 59, .mv, [.t 58], some (55, false), []⟩, ⟨some 60, .fa 4, [.t 6], some (59, true), []⟩, ⟨some 61,
  .load 1 false, [.t 60], some (59, true), []⟩, ⟨some 62, .mv, [.t 3], some (59, true), []⟩, ⟨some 63, .bin .neq, [.t 61, .t 62], some (59, true), []⟩, ⟨some 64, .pick, [.t 59, .t
  63, .k (.d (.bool false))], some (55, false), []⟩, ⟨some 65, .pick, [.t 55, .k (.d (.bool true)), .t 64], none, []⟩, ⟨some 66, .mv, [.t 65], none, []⟩, ⟨some 67, .mv, [.t 5],
  some (66, false), []⟩, ⟨some 68, .fa 2, [.t 6], some (66, false), []⟩, ⟨some 69, .load 1 false, [.t 68], some (66, false), []⟩, ⟨some 70, .mv, [.t 4], some (66, false), []⟩,
  ⟨some 71, .call 19 false, [.t 69, .t 70], some (66, false), []⟩, ⟨some 72, .bin .neq, [.t 67, .t 71], some (66, false), []⟩, ⟨some 73, .pick, [.t 66, .k (.d (.bool true)), .t
  72], none, []⟩] [73]) (.cond (.t 73) (.seq (.region false [⟨some 12, .mv, [.k (.d (.int .i64 29))], none, []⟩] [12]) .ret) .skip)) (.seq (.region false [⟨some 12, .mv, [.k (.d
  (.int .i64 0))], none, []⟩] [12]) .ret)))
def passkeyref10VerifyTokenRr : List RR := [.t 12]
theorem passkeyref10VerifyTokenC : compFn Tryd.prog 21 passkeyref10VerifyTokenH = some (passkeyref10VerifyTokenRc, passkeyref10VerifyTokenRr, 74) := by kernel_rfl
theorem passkeyref10VerifyTokenOK (a0 : TApiToken) (a1 : Int) (a2 : Int) (a3 : List (BitVec 8)) (a4 : BitVec 64) (a5 : BitVec 64) (res : Int) (h : passkeyref10VerifyToken a0 a1 a2 a3 a4 a5 = some res) : CallOK Tryd.prog 21 [.d (eTApiToken a0), .d (eI a1), .d (eI a2), .d (eS a3), .d (eU64 a4), .d (eU64 a5)] [] (.d (eI res)) [] := by
  unfold passkeyref10VerifyToken at h
  refine callOK passkeyref10VerifyTokenC fm rfl ?_
  simp only [initE, initM, nbor, List.map_cons, List.map_nil, Nat.reduceAdd]
  unfold passkeyref10VerifyTokenRc
  refine rwp_seq fun K1 hK1 => ?_
  refine rwp_region fun K2 hK2 => ?_
  refine st1 128 rfl (mem' := [(64, .var .mine [.d (eU64 a0.Secret), .d (eB a0.Active), .d (eU64 a0.Value), .d (eI a0.Permissions), .d (eS a0.RP), .d (eI a0.Since)])]) (ok (bx (ps := [.d (eU64 a0.Secret), .d (eB a0.Active), .d (eU64 a0.Value), .d (eI a0.Permissions), .d (eS a0.RP), .d (eI a0.Since)]) rfl rfl)) rfl ?_
  refine st0 192 rfl (ok (mv (.d (eI (0 : Int))))) ?_
  refine hK2 _ _ ?_
  simp only [n0, n1, n2, n3, n4, n5, n6, n7, n8, n9, n10, n11, n12, n13, n14, n15, n16, n17, n18, n19, reduceIte]
  refine hK1 _ _ _ ?_
  refine rwp_join ([], []) 1152 (fun env mem => ∃ (v3 : Bool), passkeyref10VerifyTokenJ1 a0 a1 a2 a3 a4 a5 v3 = some res ∧ env = [(1, .d (eI a1)), (2, .d (eI a2)), (3, .d (eS a3)), (4, .d (eU64 a4)), (5, .d (eU64 a5)), (6, .ptr 64 0), (13, .d (eB v3))] ∧ mem = [(64, .var .mine [.d (eU64 a0.Secret), .d (eB a0.Active), .d (eU64 a0.Value), .d (eI a0.Permissions), .d (eS a0.RP), .d (eI a0.Since)])]) (fun _ _ hI => ?_) (fun K4 hK4 => ?_)
  · obtain ⟨v3, h, rfl, rfl⟩ := hI
    unfold passkeyref10VerifyTokenJ1 at h
    refine rwp_seq fun K5 hK5 => ?_
    refine rwp_join ([], []) 4224 (fun env mem => ∃ (v6 : Bool), passkeyref10VerifyTokenJ2 v6 = some res ∧ env = [(73, .d (eB v6))] ∧ mem = []) (fun _ _ hI => ?_) (fun K7 hK7 => ?_)
    · obtain ⟨v6, h, rfl, rfl⟩ := hI
      unfold passkeyref10VerifyTokenJ2 at h
      rcases Bool.eq_false_or_eq_true (v6) with h8 | h8
      · replace h := ite_t h h8
        refine rwp_t (isT h8) ?_
        refine rwp_seq fun K9 hK9 => ?_
        refine rwp_region fun K10 hK10 => ?_
        refine st0 4288 rfl (ok (mv (.d (eI (29 : Int))))) ?_
        refine hK10 _ _ ?_
        simp only [n0, n1, n2, n3, n4, n5, n6, n7, n8, n9, n10, n11, n12, n13, n14, n15, n16, n17, n18, n19, reduceIte]
        refine hK9 _ _ _ ?_
        refine rwp_ret ?_
        obtain rfl := Option.some.inj h
        try simp only [thenK, blockK, reduceIte]
        exact Or.inl (end_ok trivial (rs_t (v := .d (eI (29 : Int))) rfl rs_nil) (en_d (to_d _) en_nil) ou_nil (by first | exact eok rfl rfl rfl rfl trivial | (refine eok ?_ ?_ ?_ ?_ ?_ <;> first | rfl | exact trivial | simp [retM, Mem.get, PV.renL, PV.ren, Blk.ren, comps, rhoR, rhoM, appN, PV.refsL, PV.refs, keys, nodupB, Blk.refs, allIn, Blk.bor])))
      · replace h := ite_f h h8
        refine rwp_f (isF h8) ?_
        refine rwp_skip ?_
        refine hK5 _ _ _ ?_
        refine rwp_seq fun K11 hK11 => ?_
        refine rwp_region fun K12 hK12 => ?_
        refine st0 4288 rfl (ok (mv (.d (eI (0 : Int))))) ?_
        refine hK12 _ _ ?_
        simp only [n0, n1, n2, n3, n4, n5, n6, n7, n8, n9, n10, n11, n12, n13, n14, n15, n16, n17, n18, n19, reduceIte]
        refine hK11 _ _ _ ?_
        refine rwp_ret ?_
        obtain rfl := Option.some.inj h
        try simp only [thenK, blockK, reduceIte]
        exact Or.inl (end_ok trivial (rs_t (v := .d (eI (0 : Int))) rfl rs_nil) (en_d (to_d _) en_nil) ou_nil (by first | exact eok rfl rfl rfl rfl trivial | (refine eok ?_ ?_ ?_ ?_ ?_ <;> first | rfl | exact trivial | simp [retM, Mem.get, PV.renL, PV.ren, Blk.ren, comps, rhoR, rhoM, appN, PV.refsL, PV.refs, keys, nodupB, Blk.refs, allIn, Blk.bor])))
    · refine rwp_region fun K13 hK13 => ?_
      refine st0 1216 rfl (ok (fa_k 1 rfl)) ?_
      refine st0 1280 rfl (ok (ld_v (v := .d (eB a0.Active)) rfl rfl rfl)) ?_
      refine st0 1344 rfl (ok (notB _)) ?_
      refine st0 1408 rfl (ok (mv (.d (eB (!a0.Active))))) ?_
      rcases Bool.eq_false_or_eq_true ((!a0.Active)) with h14 | h14
      · replace h := ite_t h h14
        refine stGN 1472 rfl rfl h14 ?_
        refine stGN 1536 rfl rfl h14 ?_
        refine stGN 1600 rfl rfl h14 ?_
        refine stGN 1664 rfl rfl h14 ?_
        refine st0 1728 rfl (ok (pick_t h14 (.d (eB true)) _)) ?_
        refine st0 1792 rfl (ok (mv (.d (eB true)))) ?_
        refine stGN 1856 rfl rfl rfl ?_
        refine st0 1920 rfl (ok (pick_t rfl (.d (eB true)) _)) ?_
        refine st0 1984 rfl (ok (mv (.d (eB true)))) ?_
        refine stGN 2048 rfl rfl rfl ?_
        refine stGN 2112 rfl rfl rfl ?_
        refine st0 2176 rfl (ok (pick_t rfl (.d (eB true)) _)) ?_
        refine st0 2240 rfl (ok (mv (.d (eB true)))) ?_
        refine stGN 2304 rfl rfl rfl ?_
        refine stGN 2368 rfl rfl rfl ?_
        refine st0 2432 rfl (ok (pick_t rfl (.d (eB true)) _)) ?_
        refine st0 2496 rfl (ok (mv (.d (eB true)))) ?_
        refine stGN 2560 rfl rfl rfl ?_
        refine stGN 2624 rfl rfl rfl ?_
        refine stGN 2688 rfl rfl rfl ?_
        refine stGN 2752 rfl rfl rfl ?_
        refine stGN 2816 rfl rfl rfl ?_
        refine stGN 2880 rfl rfl rfl ?_
        refine st0 2944 rfl (ok (pick_t rfl (.d (eB true)) _)) ?_
        refine st0 3008 rfl (ok (mv (.d (eB true)))) ?_
        refine stGN 3072 rfl rfl rfl ?_
        refine stGN 3136 rfl rfl rfl ?_
        refine stGN 3200 rfl rfl rfl ?_
        refine stGN 3264 rfl rfl rfl ?_
        refine stGS 3328 rfl rfl ?_
        refine stGS 3392 rfl rfl ?_
        refine stGS 3456 rfl rfl ?_
        refine stGS 3520 rfl rfl ?_
        refine stGN 3584 rfl rfl rfl ?_
        refine st0 3648 rfl (ok (pick_t rfl (.d (eB true)) _)) ?_
        refine st0 3712 rfl (ok (mv (.d (eB true)))) ?_
        refine stGN 3776 rfl rfl rfl ?_
        refine stGN 3840 rfl rfl rfl ?_
        refine stGN 3904 rfl rfl rfl ?_
        refine stGN 3968 rfl rfl rfl ?_
        refine stGN 4032 rfl rfl rfl ?_
        refine stGN 4096 rfl rfl rfl ?_
        refine st0 4160 rfl (ok (pick_t rfl (.d (eB true)) _)) ?_
        refine hK13 _ _ ?_
        simp only [n0, n1, n2, n3, n4, n5, n6, n7, n8, n9, n10, n11, n12, n13, n14, n15, n16, n17, n18, n19, reduceIte]
        exact hK7 _ _ _ ⟨_, _, Settled.refl, _, _, ⟨_, h, rfl, rfl⟩, ⟨rfl, ⟨⟨rfl, rfl⟩, trivial⟩, trivial⟩, rfl⟩
      · replace h := ite_f h h14
        refine stG (isF h14) ?_
        refine st0 1472 rfl (ok (mv (.d (eI a1)))) ?_
        refine stG (isF h14) ?_
        refine st0 1536 rfl (ok (fa_k 5 rfl)) ?_
        refine stG (isF h14) ?_
        refine st0 1600 rfl (ok (ld_v (v := .d (eI a0.Since)) rfl rfl rfl)) ?_
        refine stG (isF h14) ?_
        refine st0 1664 rfl (ok (lssI _ _)) ?_
        refine st0 1728 rfl (ok (pick_f h14 _ (.d (eB (decide (a1 < a0.Since)))))) ?_
        refine st0 1792 rfl (ok (mv (.d (eB (decide (a1 < a0.Since)))))) ?_
        rcases Bool.eq_false_or_eq_true ((decide (a1 < a0.Since))) with h15 | h15
        · replace h := ite_t h h15
          refine stGN 1856 rfl rfl h15 ?_
          refine st0 1920 rfl (ok (pick_t h15 (.d (eB true)) _)) ?_
          refine st0 1984 rfl (ok (mv (.d (eB true)))) ?_
          refine stGN 2048 rfl rfl rfl ?_
          refine stGN 2112 rfl rfl rfl ?_
          refine st0 2176 rfl (ok (pick_t rfl (.d (eB true)) _)) ?_
          refine st0 2240 rfl (ok (mv (.d (eB true)))) ?_
          refine stGN 2304 rfl rfl rfl ?_
          refine stGN 2368 rfl rfl rfl ?_
          refine st0 2432 rfl (ok (pick_t rfl (.d (eB true)) _)) ?_
          refine st0 2496 rfl (ok (mv (.d (eB true)))) ?_
          refine stGN 2560 rfl rfl rfl ?_
          refine stGN 2624 rfl rfl rfl ?_
          refine stGN 2688 rfl rfl rfl ?_
          refine stGN 2752 rfl rfl rfl ?_
          refine stGN 2816 rfl rfl rfl ?_
          refine stGN 2880 rfl rfl rfl ?_
          refine st0 2944 rfl (ok (pick_t rfl (.d (eB true)) _)) ?_
          refine st0 3008 rfl (ok (mv (.d (eB true)))) ?_
          refine stGN 3072 rfl rfl rfl ?_
          refine stGN 3136 rfl rfl rfl ?_
          refine stGN 3200 rfl rfl rfl ?_
          refine stGN 3264 rfl rfl rfl ?_
          refine stGS 3328 rfl rfl ?_
          refine stGS 3392 rfl rfl ?_
          refine stGS 3456 rfl rfl ?_
          refine stGS 3520 rfl rfl ?_
          refine stGN 3584 rfl rfl rfl ?_
          refine st0 3648 rfl (ok (pick_t rfl (.d (eB true)) _)) ?_
          refine st0 3712 rfl (ok (mv (.d (eB true)))) ?_
          refine stGN 3776 rfl rfl rfl ?_
          refine stGN 3840 rfl rfl rfl ?_
          refine stGN 3904 rfl rfl rfl ?_
          refine stGN 3968 rfl rfl rfl ?_
          refine stGN 4032 rfl rfl rfl ?_
          refine stGN 4096 rfl rfl rfl ?_
          refine st0 4160 rfl (ok (pick_t rfl (.d (eB true)) _)) ?_
          refine hK13 _ _ ?_
          simp only [n0, n1, n2, n3, n4, n5, n6, n7, n8, n9, n10, n11, n12, n13, n14, n15, n16, n17, n18, n19, reduceIte]
          exact hK7 _ _ _ ⟨_, _, Settled.refl, _, _, ⟨_, h, rfl, rfl⟩, ⟨rfl, ⟨⟨rfl, rfl⟩, trivial⟩, trivial⟩, rfl⟩
        · replace h := ite_f h h15
          refine stG (isF h15) ?_
          refine st0 1856 rfl (ok (mv (.d (eB v3)))) ?_
          refine st0 1920 rfl (ok (pick_f h15 _ (.d (eB v3)))) ?_
          refine st0 1984 rfl (ok (mv (.d (eB v3)))) ?_
          rcases Bool.eq_false_or_eq_true (v3) with h16 | h16
          · replace h := ite_t h h16
            refine stGN 2048 rfl rfl h16 ?_
            refine stGN 2112 rfl rfl h16 ?_
            refine st0 2176 rfl (ok (pick_t h16 (.d (eB true)) _)) ?_
            refine st0 2240 rfl (ok (mv (.d (eB true)))) ?_
            refine stGN 2304 rfl rfl rfl ?_
            refine stGN 2368 rfl rfl rfl ?_
            refine st0 2432 rfl (ok (pick_t rfl (.d (eB true)) _)) ?_
            refine st0 2496 rfl (ok (mv (.d (eB true)))) ?_
            refine stGN 2560 rfl rfl rfl ?_
            refine stGN 2624 rfl rfl rfl ?_
            refine stGN 2688 rfl rfl rfl ?_
            refine stGN 2752 rfl rfl rfl ?_
            refine stGN 2816 rfl rfl rfl ?_
            refine stGN 2880 rfl rfl rfl ?_
            refine st0 2944 rfl (ok (pick_t rfl (.d (eB true)) _)) ?_
            refine st0 3008 rfl (ok (mv (.d (eB true)))) ?_
            refine stGN 3072 rfl rfl rfl ?_
            refine stGN 3136 rfl rfl rfl ?_
            refine stGN 3200 rfl rfl rfl ?_
            refine stGN 3264 rfl rfl rfl ?_
            refine stGS 3328 rfl rfl ?_
            refine stGS 3392 rfl rfl ?_
            refine stGS 3456 rfl rfl ?_
            refine stGS 3520 rfl rfl ?_
            refine stGN 3584 rfl rfl rfl ?_
            refine st0 3648 rfl (ok (pick_t rfl (.d (eB true)) _)) ?_
            refine st0 3712 rfl (ok (mv (.d (eB true)))) ?_
            refine stGN 3776 rfl rfl rfl ?_
            refine stGN 3840 rfl rfl rfl ?_
            refine stGN 3904 rfl rfl rfl ?_
            refine stGN 3968 rfl rfl rfl ?_
            refine stGN 4032 rfl rfl rfl ?_
            refine stGN 4096 rfl rfl rfl ?_
            refine st0 4160 rfl (ok (pick_t rfl (.d (eB true)) _)) ?_
            refine hK13 _ _ ?_
            simp only [n0, n1, n2, n3, n4, n5, n6, n7, n8, n9, n10, n11, n12, n13, n14, n15, n16, n17, n18, n19, reduceIte]
            exact hK7 _ _ _ ⟨_, _, Settled.refl, _, _, ⟨_, h, rfl, rfl⟩, ⟨rfl, ⟨⟨rfl, rfl⟩, trivial⟩, trivial⟩, rfl⟩
          · replace h := ite_f h h16
            refine stG (isF h16) ?_
            refine st0 2048 rfl (ok (mv (.d (eI a2)))) ?_
            refine stG (isF h16) ?_
            refine st0 2112 rfl (ok (lssI _ (1 : Int))) ?_
            refine st0 2176 rfl (ok (pick_f h16 _ (.d (eB (decide (a2 < (1 : Int))))))) ?_
            refine st0 2240 rfl (ok (mv (.d (eB (decide (a2 < (1 : Int))))))) ?_
            rcases Bool.eq_false_or_eq_true ((decide (a2 < (1 : Int)))) with h17 | h17
            · replace h := ite_t h h17
              refine stGN 2304 rfl rfl h17 ?_
              refine stGN 2368 rfl rfl h17 ?_
              refine st0 2432 rfl (ok (pick_t h17 (.d (eB true)) _)) ?_
              refine st0 2496 rfl (ok (mv (.d (eB true)))) ?_
              refine stGN 2560 rfl rfl rfl ?_
              refine stGN 2624 rfl rfl rfl ?_
              refine stGN 2688 rfl rfl rfl ?_
              refine stGN 2752 rfl rfl rfl ?_
              refine stGN 2816 rfl rfl rfl ?_
              refine stGN 2880 rfl rfl rfl ?_
              refine st0 2944 rfl (ok (pick_t rfl (.d (eB true)) _)) ?_
              refine st0 3008 rfl (ok (mv (.d (eB true)))) ?_
              refine stGN 3072 rfl rfl rfl ?_
              refine stGN 3136 rfl rfl rfl ?_
              refine stGN 3200 rfl rfl rfl ?_
              refine stGN 3264 rfl rfl rfl ?_
              refine stGS 3328 rfl rfl ?_
              refine stGS 3392 rfl rfl ?_
              refine stGS 3456 rfl rfl ?_
              refine stGS 3520 rfl rfl ?_
              refine stGN 3584 rfl rfl rfl ?_
              refine st0 3648 rfl (ok (pick_t rfl (.d (eB true)) _)) ?_
              refine st0 3712 rfl (ok (mv (.d (eB true)))) ?_
              refine stGN 3776 rfl rfl rfl ?_
              refine stGN 3840 rfl rfl rfl ?_
              refine stGN 3904 rfl rfl rfl ?_
              refine stGN 3968 rfl rfl rfl ?_
              refine stGN 4032 rfl rfl rfl ?_
              refine stGN 4096 rfl rfl rfl ?_
              refine st0 4160 rfl (ok (pick_t rfl (.d (eB true)) _)) ?_
              refine hK13 _ _ ?_
              simp only [n0, n1, n2, n3, n4, n5, n6, n7, n8, n9, n10, n11, n12, n13, n14, n15, n16, n17, n18, n19, reduceIte]
              exact hK7 _ _ _ ⟨_, _, Settled.refl, _, _, ⟨_, h, rfl, rfl⟩, ⟨rfl, ⟨⟨rfl, rfl⟩, trivial⟩, trivial⟩, rfl⟩
            · replace h := ite_f h h17
              refine stG (isF h17) ?_
              refine st0 2304 rfl (ok (mv (.d (eI a2)))) ?_
              refine stG (isF h17) ?_
              refine st0 2368 rfl (ok (gtrI _ (7 : Int))) ?_
              refine st0 2432 rfl (ok (pick_f h17 _ (.d (eB (decide ((7 : Int) < a2)))))) ?_
              refine st0 2496 rfl (ok (mv (.d (eB (decide ((7 : Int) < a2)))))) ?_
              rcases Bool.eq_false_or_eq_true ((decide ((7 : Int) < a2))) with h18 | h18
              · replace h := ite_t h h18
                refine stGN 2560 rfl rfl h18 ?_
                refine stGN 2624 rfl rfl h18 ?_
                refine stGN 2688 rfl rfl h18 ?_
                refine stGN 2752 rfl rfl h18 ?_
                refine stGN 2816 rfl rfl h18 ?_
                refine stGN 2880 rfl rfl h18 ?_
                refine st0 2944 rfl (ok (pick_t h18 (.d (eB true)) _)) ?_
                refine st0 3008 rfl (ok (mv (.d (eB true)))) ?_
                refine stGN 3072 rfl rfl rfl ?_
                refine stGN 3136 rfl rfl rfl ?_
                refine stGN 3200 rfl rfl rfl ?_
                refine stGN 3264 rfl rfl rfl ?_
                refine stGS 3328 rfl rfl ?_
                refine stGS 3392 rfl rfl ?_
                refine stGS 3456 rfl rfl ?_
                refine stGS 3520 rfl rfl ?_
                refine stGN 3584 rfl rfl rfl ?_
                refine st0 3648 rfl (ok (pick_t rfl (.d (eB true)) _)) ?_
                refine st0 3712 rfl (ok (mv (.d (eB true)))) ?_
                refine stGN 3776 rfl rfl rfl ?_
                refine stGN 3840 rfl rfl rfl ?_
                refine stGN 3904 rfl rfl rfl ?_
                refine stGN 3968 rfl rfl rfl ?_
                refine stGN 4032 rfl rfl rfl ?_
                refine stGN 4096 rfl rfl rfl ?_
                refine st0 4160 rfl (ok (pick_t rfl (.d (eB true)) _)) ?_
                refine hK13 _ _ ?_
                simp only [n0, n1, n2, n3, n4, n5, n6, n7, n8, n9, n10, n11, n12, n13, n14, n15, n16, n17, n18, n19, reduceIte]
                exact hK7 _ _ _ ⟨_, _, Settled.refl, _, _, ⟨_, h, rfl, rfl⟩, ⟨rfl, ⟨⟨rfl, rfl⟩, trivial⟩, trivial⟩, rfl⟩
              · replace h := ite_f h h18
                refine stG (isF h18) ?_
                refine st0 2560 rfl (ok (fa_k 3 rfl)) ?_
                refine stG (isF h18) ?_
                refine st0 2624 rfl (ok (ld_v (v := .d (eI a0.Permissions)) rfl rfl rfl)) ?_
                refine stG (isF h18) ?_
                refine st0 2688 rfl (ok (mv (.d (eI a2)))) ?_
                refine stG (isF h18) ?_
                refine st0 2752 rfl (ok (andI _ _)) ?_
                refine stG (isF h18) ?_
                refine st0 2816 rfl (ok (mv (.d (eI a2)))) ?_
                refine stG (isF h18) ?_
                refine st0 2880 rfl (ok (neqI _ _)) ?_
                refine st0 2944 rfl (ok (pick_f h18 _ (.d (eB ((ibits .and .i64 a0.Permissions a2) != a2))))) ?_
                refine st0 3008 rfl (ok (mv (.d (eB ((ibits .and .i64 a0.Permissions a2) != a2))))) ?_
                rcases Bool.eq_false_or_eq_true (((ibits .and .i64 a0.Permissions a2) != a2)) with h19 | h19
                · replace h := ite_t h h19
                  refine stGN 3072 rfl rfl h19 ?_
                  refine stGN 3136 rfl rfl h19 ?_
                  refine stGN 3200 rfl rfl h19 ?_
                  refine stGN 3264 rfl rfl h19 ?_
                  refine stGS 3328 rfl rfl ?_
                  refine stGS 3392 rfl rfl ?_
                  refine stGS 3456 rfl rfl ?_
                  refine stGS 3520 rfl rfl ?_
                  refine stGN 3584 rfl rfl h19 ?_
                  refine st0 3648 rfl (ok (pick_t h19 (.d (eB true)) _)) ?_
                  refine st0 3712 rfl (ok (mv (.d (eB true)))) ?_
                  refine stGN 3776 rfl rfl rfl ?_
                  refine stGN 3840 rfl rfl rfl ?_
                  refine stGN 3904 rfl rfl rfl ?_
                  refine stGN 3968 rfl rfl rfl ?_
                  refine stGN 4032 rfl rfl rfl ?_
                  refine stGN 4096 rfl rfl rfl ?_
                  refine st0 4160 rfl (ok (pick_t rfl (.d (eB true)) _)) ?_
                  refine hK13 _ _ ?_
                  simp only [n0, n1, n2, n3, n4, n5, n6, n7, n8, n9, n10, n11, n12, n13, n14, n15, n16, n17, n18, n19, reduceIte]
                  exact hK7 _ _ _ ⟨_, _, Settled.refl, _, _, ⟨_, h, rfl, rfl⟩, ⟨rfl, ⟨⟨rfl, rfl⟩, trivial⟩, trivial⟩, rfl⟩
                · replace h := ite_f h h19
                  refine stG (isF h19) ?_
                  refine st0 3072 rfl (ok (fa_k 4 rfl)) ?_
                  refine stG (isF h19) ?_
                  refine st0 3136 rfl (ok (ld_v (v := .d (eS a0.RP)) rfl rfl rfl)) ?_
                  refine stG (isF h19) ?_
                  refine st0 3200 rfl (ok (neqS a0.RP ([] : List (BitVec 8)))) ?_
                  refine stG (isF h19) ?_
                  refine st0 3264 rfl (ok (mv (.d (eB (!(a0.RP == ([] : List (BitVec 8)))))))) ?_
                  rcases Bool.eq_false_or_eq_true ((!(a0.RP == ([] : List (BitVec 8))))) with h20 | h20
                  · replace h := ite_t h h20
                    refine stG (isT h20) ?_
                    refine st0 3328 rfl (ok (fa_k 4 rfl)) ?_
                    refine stG (isT h20) ?_
                    refine st0 3392 rfl (ok (ld_v (v := .d (eS a0.RP)) rfl rfl rfl)) ?_
                    refine stG (isT h20) ?_
                    refine st0 3456 rfl (ok (mv (.d (eS a3)))) ?_
                    refine stG (isT h20) ?_
                    refine st0 3520 rfl (ok (neqS a0.RP a3)) ?_
                    refine stG (isF h19) ?_
                    refine st0 3584 rfl (ok (pick_t h20 (.d (eB (!(a0.RP == a3)))) _)) ?_
                    refine st0 3648 rfl (ok (pick_f h19 _ (.d (eB (!(a0.RP == a3)))))) ?_
                    refine st0 3712 rfl (ok (mv (.d (eB (!(a0.RP == a3)))))) ?_
                    rcases Bool.eq_false_or_eq_true ((!(a0.RP == a3))) with h21 | h21
                    · replace h := ite_t h h21
                      refine stGN 3776 rfl rfl h21 ?_
                      refine stGN 3840 rfl rfl h21 ?_
                      refine stGN 3904 rfl rfl h21 ?_
                      refine stGN 3968 rfl rfl h21 ?_
                      refine stGN 4032 rfl rfl h21 ?_
                      refine stGN 4096 rfl rfl h21 ?_
                      refine st0 4160 rfl (ok (pick_t h21 (.d (eB true)) _)) ?_
                      refine hK13 _ _ ?_
                      simp only [n0, n1, n2, n3, n4, n5, n6, n7, n8, n9, n10, n11, n12, n13, n14, n15, n16, n17, n18, n19, reduceIte]
                      exact hK7 _ _ _ ⟨_, _, Settled.refl, _, _, ⟨_, h, rfl, rfl⟩, ⟨rfl, ⟨⟨rfl, rfl⟩, trivial⟩, trivial⟩, rfl⟩
                    · replace h := ite_f h h21
                      refine stG (isF h21) ?_
                      refine st0 3776 rfl (ok (mv (.d (eU64 a5)))) ?_
                      refine stG (isF h21) ?_
                      refine st0 3840 rfl (ok (fa_k 2 rfl)) ?_
                      refine stG (isF h21) ?_
                      refine st0 3904 rfl (ok (ld_v (v := .d (eU64 a0.Value)) rfl rfl rfl)) ?_
                      refine stG (isF h21) ?_
                      refine st0 3968 rfl (ok (mv (.d (eU64 a4)))) ?_
                      refine stG (isF h21) ?_
                      obtain ⟨y22, h23, h⟩ := bind_inv h
                      refine st0 4032 rfl (call_ok (v := .d (eU64 y22)) (u := []) (ar_d (eU64 a0.Value) (ar_d (eU64 a4) ar_nil)) rfl (passkeyref10AuthorizeOK a0.Value a4 y22 h23) rfl) ?_
                      refine stG (isF h21) ?_
                      refine st0 4096 rfl (ok (neq64 _ _)) ?_
                      refine st0 4160 rfl (ok (pick_f h21 _ (.d (eB (a5 != y22))))) ?_
                      refine hK13 _ _ ?_
                      simp only [n0, n1, n2, n3, n4, n5, n6, n7, n8, n9, n10, n11, n12, n13, n14, n15, n16, n17, n18, n19, reduceIte]
                      exact hK7 _ _ _ ⟨_, _, Settled.refl, _, _, ⟨_, h, rfl, rfl⟩, ⟨rfl, ⟨⟨rfl, rfl⟩, trivial⟩, trivial⟩, rfl⟩
                  · replace h := ite_f h h20
                    refine stGN 3328 rfl rfl h20 ?_
                    refine stGN 3392 rfl rfl h20 ?_
                    refine stGN 3456 rfl rfl h20 ?_
                    refine stGN 3520 rfl rfl h20 ?_
                    refine stG (isF h19) ?_
                    refine st0 3584 rfl (ok (pick_f h20 _ (.d (eB false)))) ?_
                    refine st0 3648 rfl (ok (pick_f h19 _ (.d (eB false)))) ?_
                    refine st0 3712 rfl (ok (mv (.d (eB false)))) ?_
                    refine stG rfl ?_
                    refine st0 3776 rfl (ok (mv (.d (eU64 a5)))) ?_
                    refine stG rfl ?_
                    refine st0 3840 rfl (ok (fa_k 2 rfl)) ?_
                    refine stG rfl ?_
                    refine st0 3904 rfl (ok (ld_v (v := .d (eU64 a0.Value)) rfl rfl rfl)) ?_
                    refine stG rfl ?_
                    refine st0 3968 rfl (ok (mv (.d (eU64 a4)))) ?_
                    refine stG rfl ?_
                    obtain ⟨y24, h25, h⟩ := bind_inv h
                    refine st0 4032 rfl (call_ok (v := .d (eU64 y24)) (u := []) (ar_d (eU64 a0.Value) (ar_d (eU64 a4) ar_nil)) rfl (passkeyref10AuthorizeOK a0.Value a4 y24 h25) rfl) ?_
                    refine stG rfl ?_
                    refine st0 4096 rfl (ok (neq64 _ _)) ?_
                    refine st0 4160 rfl (ok (pick_f rfl _ (.d (eB (a5 != y24))))) ?_
                    refine hK13 _ _ ?_
                    simp only [n0, n1, n2, n3, n4, n5, n6, n7, n8, n9, n10, n11, n12, n13, n14, n15, n16, n17, n18, n19, reduceIte]
                    exact hK7 _ _ _ ⟨_, _, Settled.refl, _, _, ⟨_, h, rfl, rfl⟩, ⟨rfl, ⟨⟨rfl, rfl⟩, trivial⟩, trivial⟩, rfl⟩
  · refine rwp_region fun K26 hK26 => ?_
    refine st0 256 rfl (ok (mv (.d (eI a1)))) ?_
    refine st0 320 rfl (ok (fa_k 5 rfl)) ?_
    refine st0 384 rfl (ok (ld_v (v := .d (eI a0.Since)) rfl rfl rfl)) ?_
    refine st0 448 rfl (ok (geqI _ _)) ?_
    refine st0 512 rfl (ok (mv (.d (eB (decide (a0.Since ≤ a1)))))) ?_
    rcases Bool.eq_false_or_eq_true ((decide (a0.Since ≤ a1))) with h27 | h27
    · replace h := ite_t h h27
      refine stG (isT h27) ?_
      refine st0 576 rfl (ok (mv (.d (eI a1)))) ?_
      refine stG (isT h27) ?_
      refine st0 640 rfl (ok (ofI64 _ a1)) ?_
      refine stG (isT h27) ?_
      refine st0 704 rfl (ok (fa_k 5 rfl)) ?_
      refine stG (isT h27) ?_
      refine st0 768 rfl (ok (ld_v (v := .d (eI a0.Since)) rfl rfl rfl)) ?_
      refine stG (isT h27) ?_
      refine st0 832 rfl (ok (ofI64 _ a0.Since)) ?_
      refine stG (isT h27) ?_
      refine st0 896 rfl (ok (sub64 _ _)) ?_
      refine stG (isT h27) ?_
      refine st0 960 rfl (ok (gtr64 _ (100#64))) ?_
      refine st0 1024 rfl (ok (pick_t h27 (.d (eB (decide ((100#64).toNat < ((BitVec.ofInt 64 a1) - (BitVec.ofInt 64 a0.Since)).toNat)))) _)) ?_
      refine st0 1088 rfl (ok (mv (.d (eB (decide ((100#64).toNat < ((BitVec.ofInt 64 a1) - (BitVec.ofInt 64 a0.Since)).toNat)))))) ?_
      refine hK26 _ _ ?_
      simp only [n0, n1, n2, n3, n4, n5, n6, n7, n8, n9, n10, n11, n12, n13, n14, n15, n16, n17, n18, n19, reduceIte]
      exact hK4 _ _ _ ⟨_, _, Settled.refl, _, _, ⟨_, h, rfl, rfl⟩, ⟨rfl, ⟨⟨rfl, rfl⟩, ⟨⟨rfl, rfl⟩, ⟨⟨rfl, rfl⟩, ⟨⟨rfl, rfl⟩, ⟨⟨rfl, rfl⟩, ⟨⟨rfl, rfl⟩, ⟨⟨rfl, rfl⟩, trivial⟩⟩⟩⟩⟩⟩⟩, ⟨⟨rfl, rfl⟩, trivial⟩⟩, rfl⟩
    · replace h := ite_f h h27
      refine stGN 576 rfl rfl h27 ?_
      refine stGN 640 rfl rfl h27 ?_
      refine stGN 704 rfl rfl h27 ?_
      refine stGN 768 rfl rfl h27 ?_
      refine stGN 832 rfl rfl h27 ?_
      refine stGN 896 rfl rfl h27 ?_
      refine stGN 960 rfl rfl h27 ?_
      refine st0 1024 rfl (ok (pick_f h27 _ (.d (eB false)))) ?_
      refine st0 1088 rfl (ok (mv (.d (eB false)))) ?_
      refine hK26 _ _ ?_
      simp only [n0, n1, n2, n3, n4, n5, n6, n7, n8, n9, n10, n11, n12, n13, n14, n15, n16, n17, n18, n19, reduceIte]
      exact hK4 _ _ _ ⟨_, _, Settled.refl, _, _, ⟨_, h, rfl, rfl⟩, ⟨rfl, ⟨⟨rfl, rfl⟩, ⟨⟨rfl, rfl⟩, ⟨⟨rfl, rfl⟩, ⟨⟨rfl, rfl⟩, ⟨⟨rfl, rfl⟩, ⟨⟨rfl, rfl⟩, ⟨⟨rfl, rfl⟩, trivial⟩⟩⟩⟩⟩⟩⟩, ⟨⟨rfl, rfl⟩, trivial⟩⟩, rfl⟩

end Go.Proofs.Ty
