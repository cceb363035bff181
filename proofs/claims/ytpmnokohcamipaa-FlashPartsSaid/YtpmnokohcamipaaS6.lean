/- Each Go function comes to what its plain function says. PRINTED by a program of this session (ty.py). -/
import Derived.Test.YtpmnokohcamipaaS5
set_option linter.unusedVariables false
set_option linter.unusedSimpArgs false
set_option maxHeartbeats 4000000
set_option maxRecDepth 10000
namespace Go.Proofs.Ty
open Go Go.RW Go.Proofs
/-- passkey/passkeyref7.area -/
def passkeyref7areaH : Hints := ⟨[(0, [1, 2, 3, 4]), (1, [1, 2, 3, 4, 9]), (2, [1, 2, 3, 4, 9, 13]), (3, [8]), (4, [48]), (5, [8]), (6, [8])], []⟩
def passkeyref7areaRc : RCode :=
  .seq (.region false [⟨some 4, .box, [.t 0], none, []⟩, ⟨some 8, .mv, [.k (.d (.int .i64 0))], none, []⟩] [1, 2, 3, 4]) (.seq (.seq (.region false [⟨some 10, .load 2 true, [.t 4],
  none, []⟩, ⟨some 11, .call 14 false, [.t 10], none, []⟩, ⟨some 9, .mv, [.t 11], none, []⟩] [1, 2, 3, 4, 9]) (.seq (.region false [⟨some 12, .mv, [.t 9], none, []⟩, ⟨some 13, .bin
  .neq, [.t 12, .k (.d (.int .i64 0))], none, []⟩] [1, 2, 3, 4, 9, 13]) (.cond (.t 13) (.seq (.region false [⟨some 14, .mv, [.t 9], none, []⟩, ⟨some 8, .mv, [.t 14], none, []⟩]
  [8]) .ret) .skip))) (.seq (.seq (.region false [⟨some 15, .mv, [.t 1], none, []⟩, ⟨some 16, .bin .lss, [.t 15, .k (.d (.int .i64 0))], none, []⟩, ⟨some 17, .mv, [.t 16], none,
  []⟩, ⟨some 18, .mv, [.t 1], some (17, false), []⟩, ⟨some 19, .fa 1, [.t 4], some (17, false), []⟩, ⟨some 20, .load 1 false, [.t 19], some (17, false), []⟩, ⟨some 21, .len, [.t
  20], some (17, false), []⟩, ⟨some 22, .fa 0, [.t 4], some (17, false), []⟩, ⟨some 23, .load 1 false, [.t 22], some (17, false), []⟩, ⟨some 24, .bin .quo, [.t 21, .t 23], some
  (17, false), []⟩, ⟨some 25, .bin .geq, [.t 18, .t 24], some (17, false), []⟩, ⟨some 26, .pick, [.t 17, .k (.d (.bool true)), .t 25], none, []⟩, ⟨some 27, .mv, [.t 26], none, []⟩,
  ⟨some 28, .mv, [.t 2], some (27, false), []⟩, ⟨some 29, .bin .lss, [.t 28, .k (.d (.int .i64 0))], some (27, false), []⟩, ⟨some 30, .pick, [.t 27, .k (.d (.bool true)), .t 29],
  none, []⟩, ⟨some 31, .mv, [.t 30], none, []⟩, ⟨some 32, .mv, [.t 3], some (31, false), []⟩, ⟨some 33, .bin .lss, [.t 32, .k (.d (.int .i64 0))], some (31, false), []⟩, ⟨some 34,
  .pick, [.t 31, .k (.d (.bool true)), .t 33], none, []⟩, ⟨some 35, .mv, [.t 34], none, []⟩, ⟨some 36, .mv, [.t 2], some (35, false), []⟩, ⟨some 37, .fa 0, [.t 4], some (35,
  false), []⟩, ⟨some 38, .load 1 false, [.t 37], some (35, false), []⟩, ⟨some 39, .bin .gtr, [.t 36, .t 38], some (35, false), []⟩, ⟨some 40, .pick, [.t 35, .k (.d (.bool true)),
  .t 39], none, []⟩, ⟨some 41, .mv, [.t 40], none, []⟩, ⟨some 42, .mv, [.t 3], some (41, false), []⟩, ⟨some 43, .fa 0, [.t 4], some (41, false), []⟩, ⟨some 44, .load 1 false, [.t
  43], some (41, false), []⟩, ⟨some 45, .mv, [.t 2], some (41, false), []⟩, ⟨some 46, .bin .sub, [.t 44, .t 45], some (41, false), []⟩, ⟨some 47, .bin .gtr, [.t 42, .t 46], some
  (41, false), []⟩, ⟨some 48, .pick, [.t 41, .k (.d (.bool true)), .t 47], none, []⟩] [48]) (.cond (.t 48) (.seq (.region false [⟨some 8, .mv, [.k (.d (.int .i64 9))], none, []⟩]
  [8]) .ret) .skip)) (.seq (.region false [⟨some 8, .mv, [.k (.d (.int .i64 0))], none, []⟩] [8]) .ret)))
def passkeyref7areaRr : List RR := [.t 8]
theorem passkeyref7areaC : compFn Try.prog 25 passkeyref7areaH = some (passkeyref7areaRc, passkeyref7areaRr, 49) := by kernel_rfl
theorem passkeyref7areaOK (a0 : TApiFlash) (a1 : Int) (a2 : Int) (a3 : Int) (res : Int) (h : passkeyref7area a0 a1 a2 a3 = some res) : CallOK Try.prog 25 [.d (eTApiFlash a0), .d (eI a1), .d (eI a2), .d (eI a3)] [] (.d (eI res)) [] := by
  unfold passkeyref7area at h
  refine callOK passkeyref7areaC fm rfl ?_
  simp only [initE, initM, nbor, List.map_cons, List.map_nil, Nat.reduceAdd]
  unfold passkeyref7areaRc
  refine rwp_seq fun K1 hK1 => ?_
  refine rwp_region fun K2 hK2 => ?_
  refine st1 128 rfl (mem' := [(64, .var .mine [.d (eI a0.PageSize), .d ((eL 1 eU8) a0.Bytes)])]) (ok (bx (ps := [.d (eI a0.PageSize), .d ((eL 1 eU8) a0.Bytes)]) rfl rfl)) rfl ?_
  refine st0 192 rfl (ok (mv (.d (eI (0 : Int))))) ?_
  refine hK2 _ _ ?_
  simp only [thenK, blockK, keepE, updM, List.filter_cons, List.filter_nil, List.nil_append, List.cons_append, List.map_cons, List.map_nil, envE, Mem.get, Nat.reduceEqDiff, reduceIte, Option.isNone_none, Option.isNone_some, Bool.false_eq_true, List.length_cons, List.length_nil, Nat.reduceAdd, Nat.reduceMul]
  refine hK1 _ _ _ ?_
  refine rwp_seq fun K3 hK3 => ?_
  refine rwp_seq fun K4 hK4 => ?_
  refine rwp_region fun K5 hK5 => ?_
  refine st0 256 rfl (ok (ld_v (v := .d (.agg [eI a0.PageSize, (eL 1 eU8) a0.Bytes])) rfl rfl rfl)) ?_
  obtain ⟨y6, h7, h⟩ := bind_inv h
  refine st0 320 rfl (call_ok (v := .d (eI y6)) (u := []) (ar_d (eTApiFlash (TApiFlash.mk a0.PageSize a0.Bytes)) ar_nil) rfl (passkeyref7ValidateFlashOK (TApiFlash.mk a0.PageSize a0.Bytes) y6 h7) rfl) ?_
  refine st0 384 rfl (ok (mv (.d (eI y6)))) ?_
  refine hK5 _ _ ?_
  simp only [thenK, blockK, keepE, updM, List.filter_cons, List.filter_nil, List.nil_append, List.cons_append, List.map_cons, List.map_nil, envE, Mem.get, Nat.reduceEqDiff, reduceIte, Option.isNone_none, Option.isNone_some, Bool.false_eq_true, List.length_cons, List.length_nil, Nat.reduceAdd, Nat.reduceMul]
  refine hK4 _ _ _ ?_
  refine rwp_seq fun K8 hK8 => ?_
  refine rwp_region fun K9 hK9 => ?_
  refine st0 448 rfl (ok (mv (.d (eI y6)))) ?_
  refine st0 512 rfl (ok (neqI _ (0 : Int))) ?_
  refine hK9 _ _ ?_
  simp only [thenK, blockK, keepE, updM, List.filter_cons, List.filter_nil, List.nil_append, List.cons_append, List.map_cons, List.map_nil, envE, Mem.get, Nat.reduceEqDiff, reduceIte, Option.isNone_none, Option.isNone_some, Bool.false_eq_true, List.length_cons, List.length_nil, Nat.reduceAdd, Nat.reduceMul]
  refine hK8 _ _ _ ?_
  rcases Bool.eq_false_or_eq_true ((y6 != (0 : Int))) with h10 | h10
  · replace h := ite_t h h10
    refine rwp_t (isT h10) ?_
    refine rwp_seq fun K11 hK11 => ?_
    refine rwp_region fun K12 hK12 => ?_
    refine st0 576 rfl (ok (mv (.d (eI y6)))) ?_
    refine st0 640 rfl (ok (mv (.d (eI y6)))) ?_
    refine hK12 _ _ ?_
    simp only [thenK, blockK, keepE, updM, List.filter_cons, List.filter_nil, List.nil_append, List.cons_append, List.map_cons, List.map_nil, envE, Mem.get, Nat.reduceEqDiff, reduceIte, Option.isNone_none, Option.isNone_some, Bool.false_eq_true, List.length_cons, List.length_nil, Nat.reduceAdd, Nat.reduceMul]
    refine hK11 _ _ _ ?_
    refine rwp_ret ?_
    obtain rfl := Option.some.inj h
    try simp only [thenK, blockK, reduceIte]
    exact end_ok trivial (rs_t (v := .d (eI y6)) rfl rs_nil) (en_d (to_d _) en_nil) ou_nil (by first | exact eok rfl rfl rfl rfl trivial | (refine eok ?_ ?_ ?_ ?_ ?_ <;> first | rfl | exact trivial | simp [retM, Mem.get, PV.renL, PV.ren, Blk.ren, comps, rhoR, rhoM, appN, PV.refsL, PV.refs, keys, nodupB, Blk.refs, allIn, Blk.bor]))
  · replace h := ite_f h h10
    refine rwp_f (isF h10) ?_
    refine rwp_skip ?_
    refine hK3 _ _ _ ?_
    refine rwp_seq fun K13 hK13 => ?_
    refine rwp_join ([], []) 2752 (fun env mem => ∃ (v14 : Bool), passkeyref7areaJ1 v14 = some res ∧ env = [(48, .d (eB v14))] ∧ mem = []) (fun _ _ hI => ?_) (fun K15 hK15 => ?_)
    · obtain ⟨v14, h, rfl, rfl⟩ := hI
      unfold passkeyref7areaJ1 at h
      rcases Bool.eq_false_or_eq_true (v14) with h16 | h16
      · replace h := ite_t h h16
        refine rwp_t (isT h16) ?_
        refine rwp_seq fun K17 hK17 => ?_
        refine rwp_region fun K18 hK18 => ?_
        refine st0 2816 rfl (ok (mv (.d (eI (9 : Int))))) ?_
        refine hK18 _ _ ?_
        simp only [thenK, blockK, keepE, updM, List.filter_cons, List.filter_nil, List.nil_append, List.cons_append, List.map_cons, List.map_nil, envE, Mem.get, Nat.reduceEqDiff, reduceIte, Option.isNone_none, Option.isNone_some, Bool.false_eq_true, List.length_cons, List.length_nil, Nat.reduceAdd, Nat.reduceMul]
        refine hK17 _ _ _ ?_
        refine rwp_ret ?_
        obtain rfl := Option.some.inj h
        try simp only [thenK, blockK, reduceIte]
        exact end_ok trivial (rs_t (v := .d (eI (9 : Int))) rfl rs_nil) (en_d (to_d _) en_nil) ou_nil (by first | exact eok rfl rfl rfl rfl trivial | (refine eok ?_ ?_ ?_ ?_ ?_ <;> first | rfl | exact trivial | simp [retM, Mem.get, PV.renL, PV.ren, Blk.ren, comps, rhoR, rhoM, appN, PV.refsL, PV.refs, keys, nodupB, Blk.refs, allIn, Blk.bor]))
      · replace h := ite_f h h16
        refine rwp_f (isF h16) ?_
        refine rwp_skip ?_
        refine hK13 _ _ _ ?_
        refine rwp_seq fun K19 hK19 => ?_
        refine rwp_region fun K20 hK20 => ?_
        refine st0 2816 rfl (ok (mv (.d (eI (0 : Int))))) ?_
        refine hK20 _ _ ?_
        simp only [thenK, blockK, keepE, updM, List.filter_cons, List.filter_nil, List.nil_append, List.cons_append, List.map_cons, List.map_nil, envE, Mem.get, Nat.reduceEqDiff, reduceIte, Option.isNone_none, Option.isNone_some, Bool.false_eq_true, List.length_cons, List.length_nil, Nat.reduceAdd, Nat.reduceMul]
        refine hK19 _ _ _ ?_
        refine rwp_ret ?_
        obtain rfl := Option.some.inj h
        try simp only [thenK, blockK, reduceIte]
        exact end_ok trivial (rs_t (v := .d (eI (0 : Int))) rfl rs_nil) (en_d (to_d _) en_nil) ou_nil (by first | exact eok rfl rfl rfl rfl trivial | (refine eok ?_ ?_ ?_ ?_ ?_ <;> first | rfl | exact trivial | simp [retM, Mem.get, PV.renL, PV.ren, Blk.ren, comps, rhoR, rhoM, appN, PV.refsL, PV.refs, keys, nodupB, Blk.refs, allIn, Blk.bor]))
    · refine rwp_region fun K21 hK21 => ?_
      refine st0 576 rfl (ok (mv (.d (eI a1)))) ?_
      refine st0 640 rfl (ok (lssI _ (0 : Int))) ?_
      refine st0 704 rfl (ok (mv (.d (eB (decide (a1 < (0 : Int))))))) ?_
      rcases Bool.eq_false_or_eq_true ((decide (a1 < (0 : Int)))) with h22 | h22
      · replace h := ite_t h h22
        refine stGN 768 rfl rfl h22 ?_
        refine stGN 832 rfl rfl h22 ?_
        refine stGN 896 rfl rfl h22 ?_
        refine stGN 960 rfl rfl h22 ?_
        refine stGN 1024 rfl rfl h22 ?_
        refine stGN 1088 rfl rfl h22 ?_
        refine stGN 1152 rfl rfl h22 ?_
        refine stGN 1216 rfl rfl h22 ?_
        refine st0 1280 rfl (ok (pick_t h22 (.d (eB true)) _)) ?_
        refine st0 1344 rfl (ok (mv (.d (eB true)))) ?_
        refine stGN 1408 rfl rfl rfl ?_
        refine stGN 1472 rfl rfl rfl ?_
        refine st0 1536 rfl (ok (pick_t rfl (.d (eB true)) _)) ?_
        refine st0 1600 rfl (ok (mv (.d (eB true)))) ?_
        refine stGN 1664 rfl rfl rfl ?_
        refine stGN 1728 rfl rfl rfl ?_
        refine st0 1792 rfl (ok (pick_t rfl (.d (eB true)) _)) ?_
        refine st0 1856 rfl (ok (mv (.d (eB true)))) ?_
        refine stGN 1920 rfl rfl rfl ?_
        refine stGN 1984 rfl rfl rfl ?_
        refine stGN 2048 rfl rfl rfl ?_
        refine stGN 2112 rfl rfl rfl ?_
        refine st0 2176 rfl (ok (pick_t rfl (.d (eB true)) _)) ?_
        refine st0 2240 rfl (ok (mv (.d (eB true)))) ?_
        refine stGN 2304 rfl rfl rfl ?_
        refine stGN 2368 rfl rfl rfl ?_
        refine stGN 2432 rfl rfl rfl ?_
        refine stGN 2496 rfl rfl rfl ?_
        refine stGN 2560 rfl rfl rfl ?_
        refine stGN 2624 rfl rfl rfl ?_
        refine st0 2688 rfl (ok (pick_t rfl (.d (eB true)) _)) ?_
        refine hK21 _ _ ?_
        simp only [thenK, blockK, keepE, updM, List.filter_cons, List.filter_nil, List.nil_append, List.cons_append, List.map_cons, List.map_nil, envE, Mem.get, Nat.reduceEqDiff, reduceIte, Option.isNone_none, Option.isNone_some, Bool.false_eq_true, List.length_cons, List.length_nil, Nat.reduceAdd, Nat.reduceMul]
        exact hK15 _ _ _ ⟨_, _, Settled.refl, _, _, ⟨_, h, rfl, rfl⟩, ⟨rfl, ⟨⟨rfl, rfl⟩, trivial⟩, trivial⟩, rfl⟩
      · replace h := ite_f h h22
        refine stG (isF h22) ?_
        refine st0 768 rfl (ok (mv (.d (eI a1)))) ?_
        refine stG (isF h22) ?_
        refine st0 832 rfl (ok (fa_k 1 rfl)) ?_
        refine stG (isF h22) ?_
        refine st0 896 rfl (ok (ld_v (v := .d ((eL 1 eU8) a0.Bytes)) rfl rfl rfl)) ?_
        refine stG (isF h22) ?_
        refine st0 960 rfl (ok (lenL _ _)) ?_
        refine stG (isF h22) ?_
        refine st0 1024 rfl (ok (fa_k 0 rfl)) ?_
        refine stG (isF h22) ?_
        refine st0 1088 rfl (ok (ld_v (v := .d (eI a0.PageSize)) rfl rfl rfl)) ?_
        refine stG (isF h22) ?_
        obtain ⟨h23, h⟩ := asq_inv h
        refine st0 1152 rfl (ok (quoI _ _ h23)) ?_
        refine stG (isF h22) ?_
        refine st0 1216 rfl (ok (geqI _ _)) ?_
        refine st0 1280 rfl (ok (pick_f h22 _ (.d (eB (decide ((w64 ((a0.Bytes.length : Int).tdiv a0.PageSize)) ≤ a1)))))) ?_
        refine st0 1344 rfl (ok (mv (.d (eB (decide ((w64 ((a0.Bytes.length : Int).tdiv a0.PageSize)) ≤ a1)))))) ?_
        rcases Bool.eq_false_or_eq_true ((decide ((w64 ((a0.Bytes.length : Int).tdiv a0.PageSize)) ≤ a1))) with h24 | h24
        · replace h := ite_t h h24
          refine stGN 1408 rfl rfl h24 ?_
          refine stGN 1472 rfl rfl h24 ?_
          refine st0 1536 rfl (ok (pick_t h24 (.d (eB true)) _)) ?_
          refine st0 1600 rfl (ok (mv (.d (eB true)))) ?_
          refine stGN 1664 rfl rfl rfl ?_
          refine stGN 1728 rfl rfl rfl ?_
          refine st0 1792 rfl (ok (pick_t rfl (.d (eB true)) _)) ?_
          refine st0 1856 rfl (ok (mv (.d (eB true)))) ?_
          refine stGN 1920 rfl rfl rfl ?_
          refine stGN 1984 rfl rfl rfl ?_
          refine stGN 2048 rfl rfl rfl ?_
          refine stGN 2112 rfl rfl rfl ?_
          refine st0 2176 rfl (ok (pick_t rfl (.d (eB true)) _)) ?_
          refine st0 2240 rfl (ok (mv (.d (eB true)))) ?_
          refine stGN 2304 rfl rfl rfl ?_
          refine stGN 2368 rfl rfl rfl ?_
          refine stGN 2432 rfl rfl rfl ?_
          refine stGN 2496 rfl rfl rfl ?_
          refine stGN 2560 rfl rfl rfl ?_
          refine stGN 2624 rfl rfl rfl ?_
          refine st0 2688 rfl (ok (pick_t rfl (.d (eB true)) _)) ?_
          refine hK21 _ _ ?_
          simp only [thenK, blockK, keepE, updM, List.filter_cons, List.filter_nil, List.nil_append, List.cons_append, List.map_cons, List.map_nil, envE, Mem.get, Nat.reduceEqDiff, reduceIte, Option.isNone_none, Option.isNone_some, Bool.false_eq_true, List.length_cons, List.length_nil, Nat.reduceAdd, Nat.reduceMul]
          exact hK15 _ _ _ ⟨_, _, Settled.refl, _, _, ⟨_, h, rfl, rfl⟩, ⟨rfl, ⟨⟨rfl, rfl⟩, trivial⟩, trivial⟩, rfl⟩
        · replace h := ite_f h h24
          refine stG (isF h24) ?_
          refine st0 1408 rfl (ok (mv (.d (eI a2)))) ?_
          refine stG (isF h24) ?_
          refine st0 1472 rfl (ok (lssI _ (0 : Int))) ?_
          refine st0 1536 rfl (ok (pick_f h24 _ (.d (eB (decide (a2 < (0 : Int))))))) ?_
          refine st0 1600 rfl (ok (mv (.d (eB (decide (a2 < (0 : Int))))))) ?_
          rcases Bool.eq_false_or_eq_true ((decide (a2 < (0 : Int)))) with h25 | h25
          · replace h := ite_t h h25
            refine stGN 1664 rfl rfl h25 ?_
            refine stGN 1728 rfl rfl h25 ?_
            refine st0 1792 rfl (ok (pick_t h25 (.d (eB true)) _)) ?_
            refine st0 1856 rfl (ok (mv (.d (eB true)))) ?_
            refine stGN 1920 rfl rfl rfl ?_
            refine stGN 1984 rfl rfl rfl ?_
            refine stGN 2048 rfl rfl rfl ?_
            refine stGN 2112 rfl rfl rfl ?_
            refine st0 2176 rfl (ok (pick_t rfl (.d (eB true)) _)) ?_
            refine st0 2240 rfl (ok (mv (.d (eB true)))) ?_
            refine stGN 2304 rfl rfl rfl ?_
            refine stGN 2368 rfl rfl rfl ?_
            refine stGN 2432 rfl rfl rfl ?_
            refine stGN 2496 rfl rfl rfl ?_
            refine stGN 2560 rfl rfl rfl ?_
            refine stGN 2624 rfl rfl rfl ?_
            refine st0 2688 rfl (ok (pick_t rfl (.d (eB true)) _)) ?_
            refine hK21 _ _ ?_
            simp only [thenK, blockK, keepE, updM, List.filter_cons, List.filter_nil, List.nil_append, List.cons_append, List.map_cons, List.map_nil, envE, Mem.get, Nat.reduceEqDiff, reduceIte, Option.isNone_none, Option.isNone_some, Bool.false_eq_true, List.length_cons, List.length_nil, Nat.reduceAdd, Nat.reduceMul]
            exact hK15 _ _ _ ⟨_, _, Settled.refl, _, _, ⟨_, h, rfl, rfl⟩, ⟨rfl, ⟨⟨rfl, rfl⟩, trivial⟩, trivial⟩, rfl⟩
          · replace h := ite_f h h25
            refine stG (isF h25) ?_
            refine st0 1664 rfl (ok (mv (.d (eI a3)))) ?_
            refine stG (isF h25) ?_
            refine st0 1728 rfl (ok (lssI _ (0 : Int))) ?_
            refine st0 1792 rfl (ok (pick_f h25 _ (.d (eB (decide (a3 < (0 : Int))))))) ?_
            refine st0 1856 rfl (ok (mv (.d (eB (decide (a3 < (0 : Int))))))) ?_
            rcases Bool.eq_false_or_eq_true ((decide (a3 < (0 : Int)))) with h26 | h26
            · replace h := ite_t h h26
              refine stGN 1920 rfl rfl h26 ?_
              refine stGN 1984 rfl rfl h26 ?_
              refine stGN 2048 rfl rfl h26 ?_
              refine stGN 2112 rfl rfl h26 ?_
              refine st0 2176 rfl (ok (pick_t h26 (.d (eB true)) _)) ?_
              refine st0 2240 rfl (ok (mv (.d (eB true)))) ?_
              refine stGN 2304 rfl rfl rfl ?_
              refine stGN 2368 rfl rfl rfl ?_
              refine stGN 2432 rfl rfl rfl ?_
              refine stGN 2496 rfl rfl rfl ?_
              refine stGN 2560 rfl rfl rfl ?_
              refine stGN 2624 rfl rfl rfl ?_
              refine st0 2688 rfl (ok (pick_t rfl (.d (eB true)) _)) ?_
              refine hK21 _ _ ?_
              simp only [thenK, blockK, keepE, updM, List.filter_cons, List.filter_nil, List.nil_append, List.cons_append, List.map_cons, List.map_nil, envE, Mem.get, Nat.reduceEqDiff, reduceIte, Option.isNone_none, Option.isNone_some, Bool.false_eq_true, List.length_cons, List.length_nil, Nat.reduceAdd, Nat.reduceMul]
              exact hK15 _ _ _ ⟨_, _, Settled.refl, _, _, ⟨_, h, rfl, rfl⟩, ⟨rfl, ⟨⟨rfl, rfl⟩, trivial⟩, trivial⟩, rfl⟩
            · replace h := ite_f h h26
              refine stG (isF h26) ?_
              refine st0 1920 rfl (ok (mv (.d (eI a2)))) ?_
              refine stG (isF h26) ?_
              refine st0 1984 rfl (ok (fa_k 0 rfl)) ?_
              refine stG (isF h26) ?_
              refine st0 2048 rfl (ok (ld_v (v := .d (eI a0.PageSize)) rfl rfl rfl)) ?_
              refine stG (isF h26) ?_
              refine st0 2112 rfl (ok (gtrI _ _)) ?_
              refine st0 2176 rfl (ok (pick_f h26 _ (.d (eB (decide (a0.PageSize < a2)))))) ?_
              refine st0 2240 rfl (ok (mv (.d (eB (decide (a0.PageSize < a2)))))) ?_
              rcases Bool.eq_false_or_eq_true ((decide (a0.PageSize < a2))) with h27 | h27
              · replace h := ite_t h h27
                refine stGN 2304 rfl rfl h27 ?_
                refine stGN 2368 rfl rfl h27 ?_
                refine stGN 2432 rfl rfl h27 ?_
                refine stGN 2496 rfl rfl h27 ?_
                refine stGN 2560 rfl rfl h27 ?_
                refine stGN 2624 rfl rfl h27 ?_
                refine st0 2688 rfl (ok (pick_t h27 (.d (eB true)) _)) ?_
                refine hK21 _ _ ?_
                simp only [thenK, blockK, keepE, updM, List.filter_cons, List.filter_nil, List.nil_append, List.cons_append, List.map_cons, List.map_nil, envE, Mem.get, Nat.reduceEqDiff, reduceIte, Option.isNone_none, Option.isNone_some, Bool.false_eq_true, List.length_cons, List.length_nil, Nat.reduceAdd, Nat.reduceMul]
                exact hK15 _ _ _ ⟨_, _, Settled.refl, _, _, ⟨_, h, rfl, rfl⟩, ⟨rfl, ⟨⟨rfl, rfl⟩, trivial⟩, trivial⟩, rfl⟩
              · replace h := ite_f h h27
                refine stG (isF h27) ?_
                refine st0 2304 rfl (ok (mv (.d (eI a3)))) ?_
                refine stG (isF h27) ?_
                refine st0 2368 rfl (ok (fa_k 0 rfl)) ?_
                refine stG (isF h27) ?_
                refine st0 2432 rfl (ok (ld_v (v := .d (eI a0.PageSize)) rfl rfl rfl)) ?_
                refine stG (isF h27) ?_
                refine st0 2496 rfl (ok (mv (.d (eI a2)))) ?_
                refine stG (isF h27) ?_
                refine st0 2560 rfl (ok (subI _ _)) ?_
                refine stG (isF h27) ?_
                refine st0 2624 rfl (ok (gtrI _ _)) ?_
                refine st0 2688 rfl (ok (pick_f h27 _ (.d (eB (decide ((w64 (a0.PageSize - a2)) < a3)))))) ?_
                refine hK21 _ _ ?_
                simp only [thenK, blockK, keepE, updM, List.filter_cons, List.filter_nil, List.nil_append, List.cons_append, List.map_cons, List.map_nil, envE, Mem.get, Nat.reduceEqDiff, reduceIte, Option.isNone_none, Option.isNone_some, Bool.false_eq_true, List.length_cons, List.length_nil, Nat.reduceAdd, Nat.reduceMul]
                exact hK15 _ _ _ ⟨_, _, Settled.refl, _, _, ⟨_, h, rfl, rfl⟩, ⟨rfl, ⟨⟨rfl, rfl⟩, trivial⟩, trivial⟩, rfl⟩

/-- passkey/passkeyref7.Read -/
def passkeyref7ReadH : Hints := ⟨[(0, [1, 2, 3, 4]), (1, [1, 2, 3, 4, 10]), (2, [1, 2, 3, 4, 10, 18]), (3, [8, 9]), (4, [3, 4, 11]), (5, [8, 9])], []⟩
def passkeyref7ReadRc : RCode :=
  .seq (.region false [⟨some 4, .box, [.t 0], none, []⟩, ⟨some 8, .mv, [.k (.nil 1)], none, []⟩, ⟨some 9, .mv, [.k (.d (.int .i64 0))], none, []⟩] [1, 2, 3, 4]) (.seq (.seq (.region
  false [⟨some 12, .load 2 true, [.t 4], none, []⟩, ⟨some 13, .mv, [.t 1], none, []⟩, ⟨some 14, .mv, [.t 2], none, []⟩, ⟨some 15, .mv, [.t 3], none, []⟩, ⟨some 16, .call 25 false,
  [.t 12, .t 13, .t 14, .t 15], none, []⟩, ⟨some 10, .mv, [.t 16], none, []⟩] [1, 2, 3, 4, 10]) (.seq (.region false [⟨some 17, .mv, [.t 10], none, []⟩, ⟨some 18, .bin .neq, [.t
  17, .k (.d (.int .i64 0))], none, []⟩] [1, 2, 3, 4, 10, 18]) (.cond (.t 18) (.seq (.region false [⟨some 19, .mv, [.t 10], none, []⟩, ⟨some 8, .mv, [.k (.nil 1)], none, []⟩, ⟨some
  9, .mv, [.t 19], none, []⟩] [8, 9]) .ret) .skip))) (.seq (.region false [⟨some 20, .mv, [.t 1], none, []⟩, ⟨some 21, .fa 0, [.t 4], none, []⟩, ⟨some 22, .load 1 false, [.t 21],
  none, []⟩, ⟨some 23, .bin .mul, [.t 20, .t 22], none, []⟩, ⟨some 24, .mv, [.t 2], none, []⟩, ⟨some 25, .bin .add, [.t 23, .t 24], none, []⟩, ⟨some 11, .mv, [.t 25], none, []⟩]
  [3, 4, 11]) (.seq (.region false [⟨some 26, .fa 1, [.t 4], none, []⟩, ⟨some 27, .load 1 false, [.t 26], none, []⟩, ⟨some 28, .mv, [.t 11], none, []⟩, ⟨some 29, .mv, [.t 11],
  none, []⟩, ⟨some 30, .mv, [.t 3], none, []⟩, ⟨some 31, .bin .add, [.t 29, .t 30], none, []⟩, ⟨some 32, .slice 1 true true false, [.t 27, .t 28, .t 31], none, []⟩, ⟨some 33, .app
  1 140737488355328, [.k (.nil 1), .t 32], none, []⟩, ⟨some 8, .mv, [.t 33], none, []⟩, ⟨some 9, .mv, [.k (.d (.int .i64 0))], none, []⟩] [8, 9]) .ret)))
def passkeyref7ReadRr : List RR := [.t 8, .t 9]
theorem passkeyref7ReadC : compFn Try.prog 18 passkeyref7ReadH = some (passkeyref7ReadRc, passkeyref7ReadRr, 34) := by kernel_rfl
theorem passkeyref7ReadOK (a0 : TApiFlash) (a1 : Int) (a2 : Int) (a3 : Int) (res : (List (BitVec 8)) × Int) (h : passkeyref7Read a0 a1 a2 a3 = some res) : CallOK Try.prog 18 [.d (eTApiFlash a0), .d (eI a1), .d (eI a2), .d (eI a3)] [] (.tup [.ref 0 res.1.length 0 res.1.length, .d (eI res.2)]) [(0, .row true 1 (res.1.map eU8))] := by
  unfold passkeyref7Read at h
  refine callOK passkeyref7ReadC fm rfl ?_
  simp only [initE, initM, nbor, List.map_cons, List.map_nil, Nat.reduceAdd]
  unfold passkeyref7ReadRc
  refine rwp_seq fun K1 hK1 => ?_
  refine rwp_region fun K2 hK2 => ?_
  refine st1 128 rfl (mem' := [(64, .var .mine [.d (eI a0.PageSize), .d ((eL 1 eU8) a0.Bytes)])]) (ok (bx (ps := [.d (eI a0.PageSize), .d ((eL 1 eU8) a0.Bytes)]) rfl rfl)) rfl ?_
  refine st0 192 rfl (ok (mv (.nil 1))) ?_
  refine st0 256 rfl (ok (mv (.d (eI (0 : Int))))) ?_
  refine hK2 _ _ ?_
  simp only [thenK, blockK, keepE, updM, List.filter_cons, List.filter_nil, List.nil_append, List.cons_append, List.map_cons, List.map_nil, envE, Mem.get, Nat.reduceEqDiff, reduceIte, Option.isNone_none, Option.isNone_some, Bool.false_eq_true, List.length_cons, List.length_nil, Nat.reduceAdd, Nat.reduceMul]
  refine hK1 _ _ _ ?_
  refine rwp_seq fun K3 hK3 => ?_
  refine rwp_seq fun K4 hK4 => ?_
  refine rwp_region fun K5 hK5 => ?_
  refine st0 320 rfl (ok (ld_v (v := .d (.agg [eI a0.PageSize, (eL 1 eU8) a0.Bytes])) rfl rfl rfl)) ?_
  refine st0 384 rfl (ok (mv (.d (eI a1)))) ?_
  refine st0 448 rfl (ok (mv (.d (eI a2)))) ?_
  refine st0 512 rfl (ok (mv (.d (eI a3)))) ?_
  obtain ⟨y6, h7, h⟩ := bind_inv h
  refine st0 576 rfl (call_ok (v := .d (eI y6)) (u := []) (ar_d (eTApiFlash (TApiFlash.mk a0.PageSize a0.Bytes)) (ar_d (eI a1) (ar_d (eI a2) (ar_d (eI a3) ar_nil)))) rfl (passkeyref7areaOK (TApiFlash.mk a0.PageSize a0.Bytes) a1 a2 a3 y6 h7) rfl) ?_
  refine st0 640 rfl (ok (mv (.d (eI y6)))) ?_
  refine hK5 _ _ ?_
  simp only [thenK, blockK, keepE, updM, List.filter_cons, List.filter_nil, List.nil_append, List.cons_append, List.map_cons, List.map_nil, envE, Mem.get, Nat.reduceEqDiff, reduceIte, Option.isNone_none, Option.isNone_some, Bool.false_eq_true, List.length_cons, List.length_nil, Nat.reduceAdd, Nat.reduceMul]
  refine hK4 _ _ _ ?_
  refine rwp_seq fun K8 hK8 => ?_
  refine rwp_region fun K9 hK9 => ?_
  refine st0 704 rfl (ok (mv (.d (eI y6)))) ?_
  refine st0 768 rfl (ok (neqI _ (0 : Int))) ?_
  refine hK9 _ _ ?_
  simp only [thenK, blockK, keepE, updM, List.filter_cons, List.filter_nil, List.nil_append, List.cons_append, List.map_cons, List.map_nil, envE, Mem.get, Nat.reduceEqDiff, reduceIte, Option.isNone_none, Option.isNone_some, Bool.false_eq_true, List.length_cons, List.length_nil, Nat.reduceAdd, Nat.reduceMul]
  refine hK8 _ _ _ ?_
  rcases Bool.eq_false_or_eq_true ((y6 != (0 : Int))) with h10 | h10
  · replace h := ite_t h h10
    refine rwp_t (isT h10) ?_
    refine rwp_seq fun K11 hK11 => ?_
    refine rwp_region fun K12 hK12 => ?_
    refine st0 832 rfl (ok (mv (.d (eI y6)))) ?_
    refine st0 896 rfl (ok (mv (.nil 1))) ?_
    refine st0 960 rfl (ok (mv (.d (eI y6)))) ?_
    refine hK12 _ _ ?_
    simp only [thenK, blockK, keepE, updM, List.filter_cons, List.filter_nil, List.nil_append, List.cons_append, List.map_cons, List.map_nil, envE, Mem.get, Nat.reduceEqDiff, reduceIte, Option.isNone_none, Option.isNone_some, Bool.false_eq_true, List.length_cons, List.length_nil, Nat.reduceAdd, Nat.reduceMul]
    refine hK11 _ _ _ ?_
    refine rwp_ret ?_
    obtain rfl := Option.some.inj h
    try simp only [thenK, blockK, reduceIte]
    exact end_ok trivial (rs_t (v := .nil 1) rfl (rs_t (v := .d (eI y6)) rfl rs_nil)) (en_nilr (en_d (to_d _) en_nil)) ou_nil (by first | exact eok rfl rfl rfl rfl (And.intro (And.intro rfl rfl) trivial) | (refine eok ?_ ?_ ?_ ?_ ?_ <;> first | rfl | exact (And.intro (And.intro rfl rfl) trivial) | simp [retM, Mem.get, PV.renL, PV.ren, Blk.ren, comps, rhoR, rhoM, appN, PV.refsL, PV.refs, keys, nodupB, Blk.refs, allIn, Blk.bor]))
  · replace h := ite_f h h10
    refine rwp_f (isF h10) ?_
    refine rwp_skip ?_
    refine hK3 _ _ _ ?_
    refine rwp_seq fun K13 hK13 => ?_
    refine rwp_region fun K14 hK14 => ?_
    refine st0 832 rfl (ok (mv (.d (eI a1)))) ?_
    refine st0 896 rfl (ok (fa_k 0 rfl)) ?_
    refine st0 960 rfl (ok (ld_v (v := .d (eI a0.PageSize)) rfl rfl rfl)) ?_
    refine st0 1024 rfl (ok (mulI _ _)) ?_
    refine st0 1088 rfl (ok (mv (.d (eI a2)))) ?_
    refine st0 1152 rfl (ok (addI _ _)) ?_
    refine st0 1216 rfl (ok (mv (.d (eI (w64 ((w64 (a1 * a0.PageSize)) + a2)))))) ?_
    refine hK14 _ _ ?_
    simp only [thenK, blockK, keepE, updM, List.filter_cons, List.filter_nil, List.nil_append, List.cons_append, List.map_cons, List.map_nil, envE, Mem.get, Nat.reduceEqDiff, reduceIte, Option.isNone_none, Option.isNone_some, Bool.false_eq_true, List.length_cons, List.length_nil, Nat.reduceAdd, Nat.reduceMul]
    refine hK13 _ _ _ ?_
    refine rwp_seq fun K15 hK15 => ?_
    refine rwp_region fun K16 hK16 => ?_
    refine st0 1280 rfl (ok (fa_k 1 rfl)) ?_
    refine st0 1344 rfl (ok (ld_v (v := .d ((eL 1 eU8) a0.Bytes)) rfl rfl rfl)) ?_
    refine st0 1408 rfl (ok (mv (.d (eI (w64 ((w64 (a1 * a0.PageSize)) + a2)))))) ?_
    refine st0 1472 rfl (ok (mv (.d (eI (w64 ((w64 (a1 * a0.PageSize)) + a2)))))) ?_
    refine st0 1536 rfl (ok (mv (.d (eI a3)))) ?_
    refine st0 1600 rfl (ok (addI _ _)) ?_
    obtain ⟨h17, h⟩ := asq_inv h
    obtain ⟨v18, h19, h⟩ := lett_inv h
    refine st0e 1664 rfl (ok (slL_lh (xs := a0.Bytes) (e := eU8) h17)) (congrArg (fun z => PV.d ((eL 1 eU8) z)) h19) ?_
    obtain ⟨h20, h⟩ := asq_inv h
    refine st1 1728 rfl (mem' := [(1664, .row true 1 (v18.map eU8)), (64, .var .mine [.d (eI a0.PageSize), .d ((eL 1 eU8) a0.Bytes)])]) (ok (appN0 (e := eU8) (ys := v18) contL h20)) rfl ?_
    refine st0 1792 rfl (ok (mv (.ref 1664 v18.length 0 v18.length))) ?_
    refine st0 1856 rfl (ok (mv (.d (eI (0 : Int))))) ?_
    refine hK16 _ _ ?_
    simp only [thenK, blockK, keepE, updM, List.filter_cons, List.filter_nil, List.nil_append, List.cons_append, List.map_cons, List.map_nil, envE, Mem.get, Nat.reduceEqDiff, reduceIte, Option.isNone_none, Option.isNone_some, Bool.false_eq_true, List.length_cons, List.length_nil, Nat.reduceAdd, Nat.reduceMul]
    refine hK15 _ _ _ ?_
    refine rwp_ret ?_
    obtain rfl := Option.some.inj h
    try simp only [thenK, blockK, reduceIte]
    exact end_ok trivial (rs_t (v := .ref 1664 v18.length 0 v18.length) rfl (rs_t (v := .d (eI (0 : Int))) rfl rs_nil)) (en_ref (en_d (to_d _) en_nil)) ou_nil (by first | exact eok rfl rfl rfl rfl (And.intro (And.intro rfl rfl) trivial) | (refine eok ?_ ?_ ?_ ?_ ?_ <;> first | rfl | exact (And.intro (And.intro rfl rfl) trivial) | simp [retM, Mem.get, PV.renL, PV.ren, Blk.ren, comps, rhoR, rhoM, appN, PV.refsL, PV.refs, keys, nodupB, Blk.refs, allIn, Blk.bor]))

/-- passkey/passkeylaw7.FlashReads -/
def passkeylaw7FlashReadsH : Hints := ⟨[(0, [0, 1, 2, 3, 4, 5]), (1, [2, 3, 4, 13]), (2, [2, 3, 4, 13, 14, 15]), (3, [2, 3, 4, 13, 14, 15, 16, 17]), (4, [2, 3, 4, 13, 14, 15, 16, 17, 19]), (5, [14, 15, 16, 17, 19, 21]), (6, [12])], []⟩
def passkeylaw7FlashReadsRc : RCode :=
  .seq (.region false [⟨some 12, .mv, [.k (.d (.bool false))], none, []⟩] [0, 1, 2, 3, 4, 5]) (.seq (.region false [⟨some 22, .mv, [.t 0], none, []⟩, ⟨some 23, .mv, [.t 1], none,
  []⟩, ⟨some 24, .call 16 true, [.t 22, .t 23], none, []⟩, ⟨some 25, .mv, [.t 5], none, []⟩, ⟨some 26, .call 15 true, [.t 24, .t 25], none, []⟩, ⟨some 13, .alloc [.d (.int .i64 0),
  .nil 1], [], none, []⟩, ⟨none, .store 2, [.t 13, .t 26], none, []⟩] [2, 3, 4, 13]) (.seq (.region false [⟨some 28, .load 2 true, [.t 13], none, []⟩, ⟨some 29, .mv, [.t 2], none,
  []⟩, ⟨some 30, .bin .and, [.t 29, .k (.d (.int .i64 7))], none, []⟩, ⟨some 31, .bin .sub, [.t 30, .k (.d (.int .i64 1))], none, []⟩, ⟨some 32, .mv, [.t 3], none, []⟩, ⟨some 33,
  .bin .and, [.t 32, .k (.d (.int .i64 1023))], none, []⟩, ⟨some 34, .bin .sub, [.t 33, .k (.d (.int .i64 5))], none, []⟩, ⟨some 35, .mv, [.t 4], none, []⟩, ⟨some 36, .bin .and,
  [.t 35, .k (.d (.int .i64 1023))], none, []⟩, ⟨some 37, .bin .sub, [.t 36, .k (.d (.int .i64 5))], none, []⟩, ⟨some 38, .call 17 true, [.t 28, .t 31, .t 34, .t 37], none, []⟩,
  ⟨some 27, .mv, [.t 38], none, []⟩, ⟨some 39, .ext 0, [.t 27], none, []⟩, ⟨some 40, .ext 1, [.t 27], none, []⟩, ⟨some 14, .mv, [.t 39], none, []⟩, ⟨some 15, .mv, [.t 40], none,
  []⟩] [2, 3, 4, 13, 14, 15]) (.seq (.region false [⟨some 42, .load 2 true, [.t 13], none, []⟩, ⟨some 43, .mv, [.t 2], none, []⟩, ⟨some 44, .bin .and, [.t 43, .k (.d (.int .i64
  7))], none, []⟩, ⟨some 45, .bin .sub, [.t 44, .k (.d (.int .i64 1))], none, []⟩, ⟨some 46, .mv, [.t 3], none, []⟩, ⟨some 47, .bin .and, [.t 46, .k (.d (.int .i64 1023))], none,
  []⟩, ⟨some 48, .bin .sub, [.t 47, .k (.d (.int .i64 5))], none, []⟩, ⟨some 49, .mv, [.t 4], none, []⟩, ⟨some 50, .bin .and, [.t 49, .k (.d (.int .i64 1023))], none, []⟩, ⟨some
  51, .bin .sub, [.t 50, .k (.d (.int .i64 5))], none, []⟩, ⟨some 52, .call 18 true, [.t 42, .t 45, .t 48, .t 51], none, []⟩, ⟨some 41, .mv, [.t 52], none, []⟩, ⟨some 53, .ext 0,
  [.t 41], none, []⟩, ⟨some 54, .ext 1, [.t 41], none, []⟩, ⟨some 16, .mv, [.t 53], none, []⟩, ⟨some 17, .mv, [.t 54], none, []⟩] [2, 3, 4, 13, 14, 15, 16, 17]) (.seq (.region
  false [⟨some 56, .load 2 true, [.t 13], none, []⟩, ⟨some 57, .mv, [.t 2], none, []⟩, ⟨some 58, .mv, [.t 3], none, []⟩, ⟨some 59, .mv, [.t 4], none, []⟩, ⟨some 60, .call 17 true,
  [.t 56, .t 57, .t 58, .t 59], none, []⟩, ⟨some 55, .mv, [.t 60], none, []⟩, ⟨some 61, .ext 0, [.t 55], none, []⟩, ⟨some 62, .ext 1, [.t 55], none, []⟩, ⟨some 18, .mv, [.t 61],
  none, []⟩, ⟨some 19, .mv, [.t 62], none, []⟩] [2, 3, 4, 13, 14, 15, 16, 17, 19]) (.seq (.region false [⟨some 64, .load 2 true, [.t 13], none, []⟩, ⟨some 65, .mv, [.t 2], none,
  []⟩, ⟨some 66, .mv, [.t 3], none, []⟩, ⟨some 67, .mv, [.t 4], none, []⟩, ⟨some 68, .call 18 true, [.t 64, .t 65, .t 66, .t 67], none, []⟩, ⟨some 63, .mv, [.t 68], none, []⟩,
  ⟨some 69, .ext 0, [.t 63], none, []⟩, ⟨some 70, .ext 1, [.t 63], none, []⟩, ⟨some 20, .mv, [.t 69], none, []⟩, ⟨some 21, .mv, [.t 70], none, []⟩] [14, 15, 16, 17, 19, 21]) (.seq
  (.region false [⟨some 71, .mv, [.t 15], none, []⟩, ⟨some 72, .mv, [.t 17], none, []⟩, ⟨some 73, .bin .eql, [.t 71, .t 72], none, []⟩, ⟨some 74, .mv, [.t 73], none, []⟩, ⟨some 75,
  .mv, [.t 14], some (74, true), []⟩, ⟨some 76, .b2s, [.t 75], some (74, true), []⟩, ⟨some 77, .mv, [.t 16], some (74, true), []⟩, ⟨some 78, .b2s, [.t 77], some (74, true), []⟩,
  ⟨some 79, .bin .eql, [.t 76, .t 78], some (74, true), []⟩, ⟨some 80, .pick, [.t 74, .t 79, .k (.d (.bool false))], none, []⟩, ⟨some 81, .mv, [.t 80], none, []⟩, ⟨some 82, .mv,
  [.t 19], some (81, true), []⟩, ⟨some 83, .mv, [.t 21], some (81, true), []⟩, ⟨some 84, .bin .eql, [.t 82, .t 83], some (81, true), []⟩, ⟨some 85, .pick, [.t 81, .t 84, .k (.d
  (.bool false))], none, []⟩, ⟨some 86, .mv, [.t 85], none, []⟩, ⟨some 87, .call 9 false, [], some (86, true), []⟩, ⟨some 88, .pick, [.t 86, .t 87, .k (.d (.bool false))], none,
  []⟩, ⟨some 12, .mv, [.t 88], none, []⟩] [12]) .ret))))))
def passkeylaw7FlashReadsRr : List RR := [.t 12]
theorem passkeylaw7FlashReadsC : compFn Try.prog 4 passkeylaw7FlashReadsH = some (passkeylaw7FlashReadsRc, passkeylaw7FlashReadsRr, 89) := by kernel_rfl
theorem passkeylaw7FlashReadsOK (a0 : Int) (a1 : List (Int)) (a2 : Int) (a3 : Int) (a4 : Int) (a5 : Int) (res : Bool) (h : passkeylaw7FlashReads a0 a1 a2 a3 a4 a5 = some res) : CallOK Try.prog 4 [.d (eI a0), .d ((eL 1 eI) a1), .d (eI a2), .d (eI a3), .d (eI a4), .d (eI a5)] [] (.d (eB res)) [] := by
  unfold passkeylaw7FlashReads at h
  refine callOK passkeylaw7FlashReadsC fm rfl ?_
  simp only [initE, initM, nbor, List.map_cons, List.map_nil, Nat.reduceAdd]
  unfold passkeylaw7FlashReadsRc
  refine rwp_seq fun K1 hK1 => ?_
  refine rwp_region fun K2 hK2 => ?_
  refine st0 128 rfl (ok (mv (.d (eB false)))) ?_
  refine hK2 _ _ ?_
  simp only [thenK, blockK, keepE, updM, List.filter_cons, List.filter_nil, List.nil_append, List.cons_append, List.map_cons, List.map_nil, envE, Mem.get, Nat.reduceEqDiff, reduceIte, Option.isNone_none, Option.isNone_some, Bool.false_eq_true, List.length_cons, List.length_nil, Nat.reduceAdd, Nat.reduceMul]
  refine hK1 _ _ _ ?_
  refine rwp_seq fun K3 hK3 => ?_
  refine rwp_region fun K4 hK4 => ?_
  refine st0 192 rfl (ok (mv (.d (eI a0)))) ?_
  refine st0 256 rfl (ok (mv (.d ((eL 1 eI) a1)))) ?_
  obtain ⟨y5, h6, h⟩ := bind_inv h
  refine st0 320 rfl (call_ok (v := .d (eTApiFlash y5)) (u := []) (ar_d (eI a0) (ar_d ((eL 1 eI) a1) ar_nil)) rfl (passkeylaw7madeOK a0 a1 y5 h6) rfl) ?_
  refine st0 384 rfl (ok (mv (.d (eI a5)))) ?_
  obtain ⟨y7, h8, h⟩ := bind_inv h
  refine st0 448 rfl (call_ok (v := .d (eTApiFlash y7)) (u := []) (ar_d (eTApiFlash y5) (ar_d (eI a5) ar_nil)) rfl (passkeylaw7spoilOK y5 a5 y7 h8) rfl) ?_
  refine st1 512 rfl (mem' := [(448, .var .mine [.d (eI (0 : Int)), .nil 1])]) (ok (alc (zs := [.d (eI (0 : Int)), .nil 1]))) rfl ?_
  refine stn 576 rfl (mem' := [(448, .var .mine [.d (eI y7.PageSize), .d ((eL 1 eU8) y7.Bytes)])]) (ok (sto_v (ps' := [.d (eI y7.PageSize), .d ((eL 1 eU8) y7.Bytes)]) rfl rfl rfl rfl)) rfl ?_
  refine hK4 _ _ ?_
  simp only [thenK, blockK, keepE, updM, List.filter_cons, List.filter_nil, List.nil_append, List.cons_append, List.map_cons, List.map_nil, envE, Mem.get, Nat.reduceEqDiff, reduceIte, Option.isNone_none, Option.isNone_some, Bool.false_eq_true, List.length_cons, List.length_nil, Nat.reduceAdd, Nat.reduceMul]
  refine hK3 _ _ _ ?_
  refine rwp_seq fun K9 hK9 => ?_
  refine rwp_region fun K10 hK10 => ?_
  refine st0 640 rfl (ok (ld_v (v := .d (.agg [eI y7.PageSize, (eL 1 eU8) y7.Bytes])) rfl rfl rfl)) ?_
  refine st0 704 rfl (ok (mv (.d (eI a2)))) ?_
  refine st0 768 rfl (ok (andI _ (7 : Int))) ?_
  refine st0 832 rfl (ok (subI _ (1 : Int))) ?_
  refine st0 896 rfl (ok (mv (.d (eI a3)))) ?_
  refine st0 960 rfl (ok (andI _ (1023 : Int))) ?_
  refine st0 1024 rfl (ok (subI _ (5 : Int))) ?_
  refine st0 1088 rfl (ok (mv (.d (eI a4)))) ?_
  refine st0 1152 rfl (ok (andI _ (1023 : Int))) ?_
  refine st0 1216 rfl (ok (subI _ (5 : Int))) ?_
  obtain ⟨y11, h12, h⟩ := bind_inv h
  refine st0 1280 rfl (call_ok (v := .tup [.d ((eL 1 eU8) y11.1), .d (eI y11.2)]) (u := []) (ar_d (eTApiFlash (TApiFlash.mk y7.PageSize y7.Bytes)) (ar_d (eI (w64 ((ibits .and .i64 a2 (7 : Int)) - (1 : Int)))) (ar_d (eI (w64 ((ibits .and .i64 a3 (1023 : Int)) - (5 : Int)))) (ar_d (eI (w64 ((ibits .and .i64 a4 (1023 : Int)) - (5 : Int)))) ar_nil)))) rfl (flashReadOK (TApiFlash.mk y7.PageSize y7.Bytes) (w64 ((ibits .and .i64 a2 (7 : Int)) - (1 : Int))) (w64 ((ibits .and .i64 a3 (1023 : Int)) - (5 : Int))) (w64 ((ibits .and .i64 a4 (1023 : Int)) - (5 : Int))) y11 h12) rfl) ?_
  refine st0 1344 rfl (ok (mv (.tup [.d ((eL 1 eU8) y11.1), .d (eI y11.2)]))) ?_
  refine st0 1408 rfl (ok (extr (v := .d ((eL 1 eU8) y11.1)) rfl rfl)) ?_
  refine st0 1472 rfl (ok (extr (v := .d (eI y11.2)) rfl rfl)) ?_
  refine st0 1536 rfl (ok (mv (.d ((eL 1 eU8) y11.1)))) ?_
  refine st0 1600 rfl (ok (mv (.d (eI y11.2)))) ?_
  refine hK10 _ _ ?_
  simp only [thenK, blockK, keepE, updM, List.filter_cons, List.filter_nil, List.nil_append, List.cons_append, List.map_cons, List.map_nil, envE, Mem.get, Nat.reduceEqDiff, reduceIte, Option.isNone_none, Option.isNone_some, Bool.false_eq_true, List.length_cons, List.length_nil, Nat.reduceAdd, Nat.reduceMul]
  refine hK9 _ _ _ ?_
  refine rwp_seq fun K13 hK13 => ?_
  refine rwp_region fun K14 hK14 => ?_
  refine st0 1664 rfl (ok (ld_v (v := .d (.agg [eI y7.PageSize, (eL 1 eU8) y7.Bytes])) rfl rfl rfl)) ?_
  refine st0 1728 rfl (ok (mv (.d (eI a2)))) ?_
  refine st0 1792 rfl (ok (andI _ (7 : Int))) ?_
  refine st0 1856 rfl (ok (subI _ (1 : Int))) ?_
  refine st0 1920 rfl (ok (mv (.d (eI a3)))) ?_
  refine st0 1984 rfl (ok (andI _ (1023 : Int))) ?_
  refine st0 2048 rfl (ok (subI _ (5 : Int))) ?_
  refine st0 2112 rfl (ok (mv (.d (eI a4)))) ?_
  refine st0 2176 rfl (ok (andI _ (1023 : Int))) ?_
  refine st0 2240 rfl (ok (subI _ (5 : Int))) ?_
  obtain ⟨y15, h16, h⟩ := bind_inv h
  refine st1 2304 rfl (mem' := [(2240, .row true 1 (y15.1.map eU8)), (448, .var .mine [.d (eI y7.PageSize), .d ((eL 1 eU8) y7.Bytes)])]) (call_ok (v := .tup [.ref 2240 y15.1.length 0 y15.1.length, .d (eI y15.2)]) (u := [(2240, .row true 1 (y15.1.map eU8))]) (ar_d (eTApiFlash (TApiFlash.mk y7.PageSize y7.Bytes)) (ar_d (eI (w64 ((ibits .and .i64 a2 (7 : Int)) - (1 : Int)))) (ar_d (eI (w64 ((ibits .and .i64 a3 (1023 : Int)) - (5 : Int)))) (ar_d (eI (w64 ((ibits .and .i64 a4 (1023 : Int)) - (5 : Int)))) ar_nil)))) rfl (passkeyref7ReadOK (TApiFlash.mk y7.PageSize y7.Bytes) (w64 ((ibits .and .i64 a2 (7 : Int)) - (1 : Int))) (w64 ((ibits .and .i64 a3 (1023 : Int)) - (5 : Int))) (w64 ((ibits .and .i64 a4 (1023 : Int)) - (5 : Int))) y15 h16) rfl) rfl ?_
  refine st0 2368 rfl (ok (mv (.tup [.ref 2240 y15.1.length 0 y15.1.length, .d (eI y15.2)]))) ?_
  refine st0 2432 rfl (ok (extr (v := .ref 2240 y15.1.length 0 y15.1.length) rfl rfl)) ?_
  refine st0 2496 rfl (ok (extr (v := .d (eI y15.2)) rfl rfl)) ?_
  refine st0 2560 rfl (ok (mv (.ref 2240 y15.1.length 0 y15.1.length))) ?_
  refine st0 2624 rfl (ok (mv (.d (eI y15.2)))) ?_
  refine hK14 _ _ ?_
  simp only [thenK, blockK, keepE, updM, List.filter_cons, List.filter_nil, List.nil_append, List.cons_append, List.map_cons, List.map_nil, envE, Mem.get, Nat.reduceEqDiff, reduceIte, Option.isNone_none, Option.isNone_some, Bool.false_eq_true, List.length_cons, List.length_nil, Nat.reduceAdd, Nat.reduceMul]
  refine hK13 _ _ _ ?_
  refine rwp_seq fun K17 hK17 => ?_
  refine rwp_region fun K18 hK18 => ?_
  refine st0 2688 rfl (ok (ld_v (v := .d (.agg [eI y7.PageSize, (eL 1 eU8) y7.Bytes])) rfl rfl rfl)) ?_
  refine st0 2752 rfl (ok (mv (.d (eI a2)))) ?_
  refine st0 2816 rfl (ok (mv (.d (eI a3)))) ?_
  refine st0 2880 rfl (ok (mv (.d (eI a4)))) ?_
  obtain ⟨y19, h20, h⟩ := bind_inv h
  refine st0 2944 rfl (call_ok (v := .tup [.d ((eL 1 eU8) y19.1), .d (eI y19.2)]) (u := []) (ar_d (eTApiFlash (TApiFlash.mk y7.PageSize y7.Bytes)) (ar_d (eI a2) (ar_d (eI a3) (ar_d (eI a4) ar_nil)))) rfl (flashReadOK (TApiFlash.mk y7.PageSize y7.Bytes) a2 a3 a4 y19 h20) rfl) ?_
  refine st0 3008 rfl (ok (mv (.tup [.d ((eL 1 eU8) y19.1), .d (eI y19.2)]))) ?_
  refine st0 3072 rfl (ok (extr (v := .d ((eL 1 eU8) y19.1)) rfl rfl)) ?_
  refine st0 3136 rfl (ok (extr (v := .d (eI y19.2)) rfl rfl)) ?_
  refine st0 3200 rfl (ok (mv (.d ((eL 1 eU8) y19.1)))) ?_
  refine st0 3264 rfl (ok (mv (.d (eI y19.2)))) ?_
  refine hK18 _ _ ?_
  simp only [thenK, blockK, keepE, updM, List.filter_cons, List.filter_nil, List.nil_append, List.cons_append, List.map_cons, List.map_nil, envE, Mem.get, Nat.reduceEqDiff, reduceIte, Option.isNone_none, Option.isNone_some, Bool.false_eq_true, List.length_cons, List.length_nil, Nat.reduceAdd, Nat.reduceMul]
  refine hK17 _ _ _ ?_
  refine rwp_seq fun K21 hK21 => ?_
  refine rwp_region fun K22 hK22 => ?_
  refine st0 3328 rfl (ok (ld_v (v := .d (.agg [eI y7.PageSize, (eL 1 eU8) y7.Bytes])) rfl rfl rfl)) ?_
  refine st0 3392 rfl (ok (mv (.d (eI a2)))) ?_
  refine st0 3456 rfl (ok (mv (.d (eI a3)))) ?_
  refine st0 3520 rfl (ok (mv (.d (eI a4)))) ?_
  obtain ⟨y23, h24, h⟩ := bind_inv h
  refine st1 3584 rfl (mem' := [(3520, .row true 1 (y23.1.map eU8)), (2240, .row true 1 (y15.1.map eU8)), (448, .var .mine [.d (eI y7.PageSize), .d ((eL 1 eU8) y7.Bytes)])]) (call_ok (v := .tup [.ref 3520 y23.1.length 0 y23.1.length, .d (eI y23.2)]) (u := [(3520, .row true 1 (y23.1.map eU8))]) (ar_d (eTApiFlash (TApiFlash.mk y7.PageSize y7.Bytes)) (ar_d (eI a2) (ar_d (eI a3) (ar_d (eI a4) ar_nil)))) rfl (passkeyref7ReadOK (TApiFlash.mk y7.PageSize y7.Bytes) a2 a3 a4 y23 h24) rfl) rfl ?_
  refine st0 3648 rfl (ok (mv (.tup [.ref 3520 y23.1.length 0 y23.1.length, .d (eI y23.2)]))) ?_
  refine st0 3712 rfl (ok (extr (v := .ref 3520 y23.1.length 0 y23.1.length) rfl rfl)) ?_
  refine st0 3776 rfl (ok (extr (v := .d (eI y23.2)) rfl rfl)) ?_
  refine st0 3840 rfl (ok (mv (.ref 3520 y23.1.length 0 y23.1.length))) ?_
  refine st0 3904 rfl (ok (mv (.d (eI y23.2)))) ?_
  refine hK22 _ _ ?_
  simp only [thenK, blockK, keepE, updM, List.filter_cons, List.filter_nil, List.nil_append, List.cons_append, List.map_cons, List.map_nil, envE, Mem.get, Nat.reduceEqDiff, reduceIte, Option.isNone_none, Option.isNone_some, Bool.false_eq_true, List.length_cons, List.length_nil, Nat.reduceAdd, Nat.reduceMul]
  refine hK21 _ _ _ ?_
  refine rwp_seq fun K25 hK25 => ?_
  refine rwp_region fun K26 hK26 => ?_
  refine st0 3968 rfl (ok (mv (.d (eI y11.2)))) ?_
  refine st0 4032 rfl (ok (mv (.d (eI y15.2)))) ?_
  refine st0 4096 rfl (ok (eqlI _ _)) ?_
  refine st0 4160 rfl (ok (mv (.d (eB (y11.2 == y15.2))))) ?_
  rcases Bool.eq_false_or_eq_true ((y11.2 == y15.2)) with h27 | h27
  · replace h := ite_t h h27
    refine stG (isT h27) ?_
    refine st0 4224 rfl (ok (mv (.d ((eL 1 eU8) y11.1)))) ?_
    refine stG (isT h27) ?_
    refine st0 4288 rfl (ok (b2s contL)) ?_
    refine stG (isT h27) ?_
    refine st0 4352 rfl (ok (mv (.ref 2240 y15.1.length 0 y15.1.length))) ?_
    refine stG (isT h27) ?_
    refine st0 4416 rfl (ok (b2s (contR (xs := y15.1) rfl rfl rfl))) ?_
    refine stG (isT h27) ?_
    refine st0 4480 rfl (ok (eqlS y11.1 y15.1)) ?_
    refine st0 4544 rfl (ok (pick_t h27 (.d (eB (y11.1 == y15.1))) _)) ?_
    refine st0 4608 rfl (ok (mv (.d (eB (y11.1 == y15.1))))) ?_
    rcases Bool.eq_false_or_eq_true ((y11.1 == y15.1)) with h28 | h28
    · replace h := ite_t h h28
      refine stG (isT h28) ?_
      refine st0 4672 rfl (ok (mv (.d (eI y19.2)))) ?_
      refine stG (isT h28) ?_
      refine st0 4736 rfl (ok (mv (.d (eI y23.2)))) ?_
      refine stG (isT h28) ?_
      refine st0 4800 rfl (ok (eqlI _ _)) ?_
      refine st0 4864 rfl (ok (pick_t h28 (.d (eB (y19.2 == y23.2))) _)) ?_
      refine st0 4928 rfl (ok (mv (.d (eB (y19.2 == y23.2))))) ?_
      rcases Bool.eq_false_or_eq_true ((y19.2 == y23.2)) with h29 | h29
      · replace h := ite_t h h29
        refine stG (isT h29) ?_
        obtain ⟨y30, h31, h⟩ := bind_inv h
        refine st0 4992 rfl (call_ok (v := .d (eB y30)) (u := []) ar_nil rfl (passkeylaw7awakeOK  y30 h31) rfl) ?_
        refine st0 5056 rfl (ok (pick_t h29 (.d (eB y30)) _)) ?_
        refine st0 5120 rfl (ok (mv (.d (eB y30)))) ?_
        refine hK26 _ _ ?_
        simp only [thenK, blockK, keepE, updM, List.filter_cons, List.filter_nil, List.nil_append, List.cons_append, List.map_cons, List.map_nil, envE, Mem.get, Nat.reduceEqDiff, reduceIte, Option.isNone_none, Option.isNone_some, Bool.false_eq_true, List.length_cons, List.length_nil, Nat.reduceAdd, Nat.reduceMul]
        refine hK25 _ _ _ ?_
        refine rwp_ret ?_
        obtain rfl := Option.some.inj h
        try simp only [thenK, blockK, reduceIte]
        exact end_ok trivial (rs_t (v := .d (eB y30)) rfl rs_nil) (en_d (to_d _) en_nil) ou_nil (by first | exact eok rfl rfl rfl rfl trivial | (refine eok ?_ ?_ ?_ ?_ ?_ <;> first | rfl | exact trivial | simp [retM, Mem.get, PV.renL, PV.ren, Blk.ren, comps, rhoR, rhoM, appN, PV.refsL, PV.refs, keys, nodupB, Blk.refs, allIn, Blk.bor]))
      · replace h := ite_f h h29
        refine stGN 4992 rfl rfl h29 ?_
        refine st0 5056 rfl (ok (pick_f h29 _ (.d (eB false)))) ?_
        refine st0 5120 rfl (ok (mv (.d (eB false)))) ?_
        refine hK26 _ _ ?_
        simp only [thenK, blockK, keepE, updM, List.filter_cons, List.filter_nil, List.nil_append, List.cons_append, List.map_cons, List.map_nil, envE, Mem.get, Nat.reduceEqDiff, reduceIte, Option.isNone_none, Option.isNone_some, Bool.false_eq_true, List.length_cons, List.length_nil, Nat.reduceAdd, Nat.reduceMul]
        refine hK25 _ _ _ ?_
        refine rwp_ret ?_
        obtain rfl := Option.some.inj h
        try simp only [thenK, blockK, reduceIte]
        exact end_ok trivial (rs_t (v := .d (eB false)) rfl rs_nil) (en_d (to_d _) en_nil) ou_nil (by first | exact eok rfl rfl rfl rfl trivial | (refine eok ?_ ?_ ?_ ?_ ?_ <;> first | rfl | exact trivial | simp [retM, Mem.get, PV.renL, PV.ren, Blk.ren, comps, rhoR, rhoM, appN, PV.refsL, PV.refs, keys, nodupB, Blk.refs, allIn, Blk.bor]))
    · replace h := ite_f h h28
      refine stGN 4672 rfl rfl h28 ?_
      refine stGN 4736 rfl rfl h28 ?_
      refine stGN 4800 rfl rfl h28 ?_
      refine st0 4864 rfl (ok (pick_f h28 _ (.d (eB false)))) ?_
      refine st0 4928 rfl (ok (mv (.d (eB false)))) ?_
      refine stGN 4992 rfl rfl rfl ?_
      refine st0 5056 rfl (ok (pick_f rfl _ (.d (eB false)))) ?_
      refine st0 5120 rfl (ok (mv (.d (eB false)))) ?_
      refine hK26 _ _ ?_
      simp only [thenK, blockK, keepE, updM, List.filter_cons, List.filter_nil, List.nil_append, List.cons_append, List.map_cons, List.map_nil, envE, Mem.get, Nat.reduceEqDiff, reduceIte, Option.isNone_none, Option.isNone_some, Bool.false_eq_true, List.length_cons, List.length_nil, Nat.reduceAdd, Nat.reduceMul]
      refine hK25 _ _ _ ?_
      refine rwp_ret ?_
      obtain rfl := Option.some.inj h
      try simp only [thenK, blockK, reduceIte]
      exact end_ok trivial (rs_t (v := .d (eB false)) rfl rs_nil) (en_d (to_d _) en_nil) ou_nil (by first | exact eok rfl rfl rfl rfl trivial | (refine eok ?_ ?_ ?_ ?_ ?_ <;> first | rfl | exact trivial | simp [retM, Mem.get, PV.renL, PV.ren, Blk.ren, comps, rhoR, rhoM, appN, PV.refsL, PV.refs, keys, nodupB, Blk.refs, allIn, Blk.bor]))
  · replace h := ite_f h h27
    refine stGN 4224 rfl rfl h27 ?_
    refine stGN 4288 rfl rfl h27 ?_
    refine stGN 4352 rfl rfl h27 ?_
    refine stGN 4416 rfl rfl h27 ?_
    refine stGN 4480 rfl rfl h27 ?_
    refine st0 4544 rfl (ok (pick_f h27 _ (.d (eB false)))) ?_
    refine st0 4608 rfl (ok (mv (.d (eB false)))) ?_
    refine stGN 4672 rfl rfl rfl ?_
    refine stGN 4736 rfl rfl rfl ?_
    refine stGN 4800 rfl rfl rfl ?_
    refine st0 4864 rfl (ok (pick_f rfl _ (.d (eB false)))) ?_
    refine st0 4928 rfl (ok (mv (.d (eB false)))) ?_
    refine stGN 4992 rfl rfl rfl ?_
    refine st0 5056 rfl (ok (pick_f rfl _ (.d (eB false)))) ?_
    refine st0 5120 rfl (ok (mv (.d (eB false)))) ?_
    refine hK26 _ _ ?_
    simp only [thenK, blockK, keepE, updM, List.filter_cons, List.filter_nil, List.nil_append, List.cons_append, List.map_cons, List.map_nil, envE, Mem.get, Nat.reduceEqDiff, reduceIte, Option.isNone_none, Option.isNone_some, Bool.false_eq_true, List.length_cons, List.length_nil, Nat.reduceAdd, Nat.reduceMul]
    refine hK25 _ _ _ ?_
    refine rwp_ret ?_
    obtain rfl := Option.some.inj h
    try simp only [thenK, blockK, reduceIte]
    exact end_ok trivial (rs_t (v := .d (eB false)) rfl rs_nil) (en_d (to_d _) en_nil) ou_nil (by first | exact eok rfl rfl rfl rfl trivial | (refine eok ?_ ?_ ?_ ?_ ?_ <;> first | rfl | exact trivial | simp [retM, Mem.get, PV.renL, PV.ren, Blk.ren, comps, rhoR, rhoM, appN, PV.refsL, PV.refs, keys, nodupB, Blk.refs, allIn, Blk.bor]))

end Go.Proofs.Ty
