/- Each Go function comes to what its plain function says. PRINTED by a program of this session (ty.py). -/
import Derived.Test.YtpmnokohcamipaaS2
set_option linter.unusedVariables false
set_option linter.unusedSimpArgs false
set_option maxHeartbeats 4000000
set_option maxRecDepth 10000
namespace Go.Proofs.Ty
open Go Go.RW Go.Proofs
/-- passkey/passkeyref7.ValidateFlash -/
def passkeyref7ValidateFlashH : Hints := ⟨[(0, [1]), (1, [1, 10]), (2, [2]), (3, [32]), (4, [2]), (5, [2])], []⟩
def passkeyref7ValidateFlashRc : RCode :=
  .seq (.region false [⟨some 1, .box, [.t 0], none, []⟩, ⟨some 2, .mv, [.k (.d (.int .i64 0))], none, []⟩] [1]) (.seq (.seq (.region false [⟨some 3, .fa 0, [.t 1], none, []⟩, ⟨some
  4, .load 1 false, [.t 3], none, []⟩, ⟨some 5, .bin .lss, [.t 4, .k (.d (.int .i64 512))], none, []⟩, ⟨some 6, .mv, [.t 5], none, []⟩, ⟨some 7, .fa 0, [.t 1], some (6, false),
  []⟩, ⟨some 8, .load 1 false, [.t 7], some (6, false), []⟩, ⟨some 9, .bin .gtr, [.t 8, .k (.d (.int .i64 8192))], some (6, false), []⟩, ⟨some 10, .pick, [.t 6, .k (.d (.bool
  true)), .t 9], none, []⟩] [1, 10]) (.cond (.t 10) (.seq (.region false [⟨some 2, .mv, [.k (.d (.int .i64 9))], none, []⟩] [2]) .ret) .skip)) (.seq (.seq (.region false [⟨some 11,
  .fa 1, [.t 1], none, []⟩, ⟨some 12, .load 1 false, [.t 11], none, []⟩, ⟨some 13, .len, [.t 12], none, []⟩, ⟨some 14, .bin .eql, [.t 13, .k (.d (.int .i64 0))], none, []⟩, ⟨some
  15, .mv, [.t 14], none, []⟩, ⟨some 16, .fa 1, [.t 1], some (15, false), []⟩, ⟨some 17, .load 1 false, [.t 16], some (15, false), []⟩, ⟨some 18, .len, [.t 17], some (15, false),
  []⟩, ⟨some 19, .fa 0, [.t 1], some (15, false), []⟩, ⟨some 20, .load 1 false, [.t 19], some (15, false), []⟩, ⟨some 21, .bin .rem, [.t 18, .t 20], some (15, false), []⟩, ⟨some
  22, .bin .neq, [.t 21, .k (.d (.int .i64 0))], some (15, false), []⟩, ⟨some 23, .pick, [.t 15, .k (.d (.bool true)), .t 22], none, []⟩, ⟨some 24, .mv, [.t 23], none, []⟩, ⟨some
  25, .fa 1, [.t 1], some (24, false), []⟩, ⟨some 26, .load 1 false, [.t 25], some (24, false), []⟩, ⟨some 27, .len, [.t 26], some (24, false), []⟩, ⟨some 28, .fa 0, [.t 1], some
  (24, false), []⟩, ⟨some 29, .load 1 false, [.t 28], some (24, false), []⟩, ⟨some 30, .bin .quo, [.t 27, .t 29], some (24, false), []⟩, ⟨some 31, .bin .gtr, [.t 30, .k (.d (.int
  .i64 8))], some (24, false), []⟩, ⟨some 32, .pick, [.t 24, .k (.d (.bool true)), .t 31], none, []⟩] [32]) (.cond (.t 32) (.seq (.region false [⟨some 2, .mv, [.k (.d (.int .i64
  4))], none, []⟩] [2]) .ret) .skip)) (.seq (.region false [⟨some 2, .mv, [.k (.d (.int .i64 0))], none, []⟩] [2]) .ret)))
def passkeyref7ValidateFlashRr : List RR := [.t 2]
theorem passkeyref7ValidateFlashC : compFn Try.prog 14 passkeyref7ValidateFlashH = some (passkeyref7ValidateFlashRc, passkeyref7ValidateFlashRr, 33) := by kernel_rfl
theorem passkeyref7ValidateFlashOK (a0 : TApiFlash) (res : Int) (h : passkeyref7ValidateFlash a0 = some res) : CallOK Try.prog 14 [.d (eTApiFlash a0)] [] (.d (eI res)) [] := by
  unfold passkeyref7ValidateFlash at h
  refine callOK passkeyref7ValidateFlashC fm rfl ?_
  simp only [initE, initM, nbor, List.map_cons, List.map_nil, Nat.reduceAdd]
  unfold passkeyref7ValidateFlashRc
  refine rwp_seq fun K1 hK1 => ?_
  refine rwp_region fun K2 hK2 => ?_
  refine st1 128 rfl (mem' := [(64, .var .mine [.d (eI a0.PageSize), .d ((eL 1 eU8) a0.Bytes)])]) (ok (bx (ps := [.d (eI a0.PageSize), .d ((eL 1 eU8) a0.Bytes)]) rfl rfl)) rfl ?_
  refine st0 192 rfl (ok (mv (.d (eI (0 : Int))))) ?_
  refine hK2 _ _ ?_
  simp only [thenK, blockK, keepE, updM, List.filter_cons, List.filter_nil, List.nil_append, List.cons_append, List.map_cons, List.map_nil, envE, Mem.get, Nat.reduceEqDiff, reduceIte, Option.isNone_none, Option.isNone_some, Bool.false_eq_true, List.length_cons, List.length_nil, Nat.reduceAdd, Nat.reduceMul]
  refine hK1 _ _ _ ?_
  refine rwp_seq fun K3 hK3 => ?_
  refine rwp_join ([], []) 768 (fun env mem => ∃ (v4 : Bool), passkeyref7ValidateFlashJ1 a0 v4 = some res ∧ env = [(1, .ptr 64 0), (10, .d (eB v4))] ∧ mem = [(64, .var .mine [.d (eI a0.PageSize), .d ((eL 1 eU8) a0.Bytes)])]) (fun _ _ hI => ?_) (fun K5 hK5 => ?_)
  · obtain ⟨v4, h, rfl, rfl⟩ := hI
    unfold passkeyref7ValidateFlashJ1 at h
    rcases Bool.eq_false_or_eq_true (v4) with h6 | h6
    · replace h := ite_t h h6
      refine rwp_t (isT h6) ?_
      refine rwp_seq fun K7 hK7 => ?_
      refine rwp_region fun K8 hK8 => ?_
      refine st0 832 rfl (ok (mv (.d (eI (9 : Int))))) ?_
      refine hK8 _ _ ?_
      simp only [thenK, blockK, keepE, updM, List.filter_cons, List.filter_nil, List.nil_append, List.cons_append, List.map_cons, List.map_nil, envE, Mem.get, Nat.reduceEqDiff, reduceIte, Option.isNone_none, Option.isNone_some, Bool.false_eq_true, List.length_cons, List.length_nil, Nat.reduceAdd, Nat.reduceMul]
      refine hK7 _ _ _ ?_
      refine rwp_ret ?_
      obtain rfl := Option.some.inj h
      try simp only [thenK, blockK, reduceIte]
      exact Or.inl (end_ok trivial (rs_t (v := .d (eI (9 : Int))) rfl rs_nil) (en_d (to_d _) en_nil) ou_nil (by first | exact eok rfl rfl rfl rfl trivial | (refine eok ?_ ?_ ?_ ?_ ?_ <;> first | rfl | exact trivial | simp [retM, Mem.get, PV.renL, PV.ren, Blk.ren, comps, rhoR, rhoM, appN, PV.refsL, PV.refs, keys, nodupB, Blk.refs, allIn, Blk.bor])))
    · replace h := ite_f h h6
      refine rwp_f (isF h6) ?_
      refine rwp_skip ?_
      refine hK3 _ _ _ ?_
      refine rwp_seq fun K9 hK9 => ?_
      refine rwp_join ([], []) 2240 (fun env mem => ∃ (v10 : Bool), passkeyref7ValidateFlashJ2 v10 = some res ∧ env = [(32, .d (eB v10))] ∧ mem = []) (fun _ _ hI => ?_) (fun K11 hK11 => ?_)
      · obtain ⟨v10, h, rfl, rfl⟩ := hI
        unfold passkeyref7ValidateFlashJ2 at h
        rcases Bool.eq_false_or_eq_true (v10) with h12 | h12
        · replace h := ite_t h h12
          refine rwp_t (isT h12) ?_
          refine rwp_seq fun K13 hK13 => ?_
          refine rwp_region fun K14 hK14 => ?_
          refine st0 2304 rfl (ok (mv (.d (eI (4 : Int))))) ?_
          refine hK14 _ _ ?_
          simp only [thenK, blockK, keepE, updM, List.filter_cons, List.filter_nil, List.nil_append, List.cons_append, List.map_cons, List.map_nil, envE, Mem.get, Nat.reduceEqDiff, reduceIte, Option.isNone_none, Option.isNone_some, Bool.false_eq_true, List.length_cons, List.length_nil, Nat.reduceAdd, Nat.reduceMul]
          refine hK13 _ _ _ ?_
          refine rwp_ret ?_
          obtain rfl := Option.some.inj h
          try simp only [thenK, blockK, reduceIte]
          exact Or.inl (end_ok trivial (rs_t (v := .d (eI (4 : Int))) rfl rs_nil) (en_d (to_d _) en_nil) ou_nil (by first | exact eok rfl rfl rfl rfl trivial | (refine eok ?_ ?_ ?_ ?_ ?_ <;> first | rfl | exact trivial | simp [retM, Mem.get, PV.renL, PV.ren, Blk.ren, comps, rhoR, rhoM, appN, PV.refsL, PV.refs, keys, nodupB, Blk.refs, allIn, Blk.bor])))
        · replace h := ite_f h h12
          refine rwp_f (isF h12) ?_
          refine rwp_skip ?_
          refine hK9 _ _ _ ?_
          refine rwp_seq fun K15 hK15 => ?_
          refine rwp_region fun K16 hK16 => ?_
          refine st0 2304 rfl (ok (mv (.d (eI (0 : Int))))) ?_
          refine hK16 _ _ ?_
          simp only [thenK, blockK, keepE, updM, List.filter_cons, List.filter_nil, List.nil_append, List.cons_append, List.map_cons, List.map_nil, envE, Mem.get, Nat.reduceEqDiff, reduceIte, Option.isNone_none, Option.isNone_some, Bool.false_eq_true, List.length_cons, List.length_nil, Nat.reduceAdd, Nat.reduceMul]
          refine hK15 _ _ _ ?_
          refine rwp_ret ?_
          obtain rfl := Option.some.inj h
          try simp only [thenK, blockK, reduceIte]
          exact Or.inl (end_ok trivial (rs_t (v := .d (eI (0 : Int))) rfl rs_nil) (en_d (to_d _) en_nil) ou_nil (by first | exact eok rfl rfl rfl rfl trivial | (refine eok ?_ ?_ ?_ ?_ ?_ <;> first | rfl | exact trivial | simp [retM, Mem.get, PV.renL, PV.ren, Blk.ren, comps, rhoR, rhoM, appN, PV.refsL, PV.refs, keys, nodupB, Blk.refs, allIn, Blk.bor])))
      · refine rwp_region fun K17 hK17 => ?_
        refine st0 832 rfl (ok (fa_k 1 rfl)) ?_
        refine st0 896 rfl (ok (ld_v (v := .d ((eL 1 eU8) a0.Bytes)) rfl rfl rfl)) ?_
        refine st0 960 rfl (ok (lenL _ _)) ?_
        refine st0 1024 rfl (ok (eqlI _ (0 : Int))) ?_
        refine st0 1088 rfl (ok (mv (.d (eB ((a0.Bytes.length : Int) == (0 : Int)))))) ?_
        rcases Bool.eq_false_or_eq_true (((a0.Bytes.length : Int) == (0 : Int))) with h18 | h18
        · replace h := ite_t h h18
          refine stGN 1152 rfl rfl h18 ?_
          refine stGN 1216 rfl rfl h18 ?_
          refine stGN 1280 rfl rfl h18 ?_
          refine stGN 1344 rfl rfl h18 ?_
          refine stGN 1408 rfl rfl h18 ?_
          refine stGN 1472 rfl rfl h18 ?_
          refine stGN 1536 rfl rfl h18 ?_
          refine st0 1600 rfl (ok (pick_t h18 (.d (eB true)) _)) ?_
          refine st0 1664 rfl (ok (mv (.d (eB true)))) ?_
          refine stGN 1728 rfl rfl rfl ?_
          refine stGN 1792 rfl rfl rfl ?_
          refine stGN 1856 rfl rfl rfl ?_
          refine stGN 1920 rfl rfl rfl ?_
          refine stGN 1984 rfl rfl rfl ?_
          refine stGN 2048 rfl rfl rfl ?_
          refine stGN 2112 rfl rfl rfl ?_
          refine st0 2176 rfl (ok (pick_t rfl (.d (eB true)) _)) ?_
          refine hK17 _ _ ?_
          simp only [thenK, blockK, keepE, updM, List.filter_cons, List.filter_nil, List.nil_append, List.cons_append, List.map_cons, List.map_nil, envE, Mem.get, Nat.reduceEqDiff, reduceIte, Option.isNone_none, Option.isNone_some, Bool.false_eq_true, List.length_cons, List.length_nil, Nat.reduceAdd, Nat.reduceMul]
          exact hK11 _ _ _ ⟨_, _, Settled.refl, _, _, ⟨_, h, rfl, rfl⟩, ⟨rfl, ⟨⟨rfl, rfl⟩, trivial⟩, trivial⟩, rfl⟩
        · replace h := ite_f h h18
          refine stG (isF h18) ?_
          refine st0 1152 rfl (ok (fa_k 1 rfl)) ?_
          refine stG (isF h18) ?_
          refine st0 1216 rfl (ok (ld_v (v := .d ((eL 1 eU8) a0.Bytes)) rfl rfl rfl)) ?_
          refine stG (isF h18) ?_
          refine st0 1280 rfl (ok (lenL _ _)) ?_
          refine stG (isF h18) ?_
          refine st0 1344 rfl (ok (fa_k 0 rfl)) ?_
          refine stG (isF h18) ?_
          refine st0 1408 rfl (ok (ld_v (v := .d (eI a0.PageSize)) rfl rfl rfl)) ?_
          refine stG (isF h18) ?_
          obtain ⟨h19, h⟩ := asq_inv h
          refine st0 1472 rfl (ok (remI _ _ h19)) ?_
          refine stG (isF h18) ?_
          refine st0 1536 rfl (ok (neqI _ (0 : Int))) ?_
          refine st0 1600 rfl (ok (pick_f h18 _ (.d (eB (((a0.Bytes.length : Int).tmod a0.PageSize) != (0 : Int)))))) ?_
          refine st0 1664 rfl (ok (mv (.d (eB (((a0.Bytes.length : Int).tmod a0.PageSize) != (0 : Int)))))) ?_
          rcases Bool.eq_false_or_eq_true ((((a0.Bytes.length : Int).tmod a0.PageSize) != (0 : Int))) with h20 | h20
          · replace h := ite_t h h20
            refine stGN 1728 rfl rfl h20 ?_
            refine stGN 1792 rfl rfl h20 ?_
            refine stGN 1856 rfl rfl h20 ?_
            refine stGN 1920 rfl rfl h20 ?_
            refine stGN 1984 rfl rfl h20 ?_
            refine stGN 2048 rfl rfl h20 ?_
            refine stGN 2112 rfl rfl h20 ?_
            refine st0 2176 rfl (ok (pick_t h20 (.d (eB true)) _)) ?_
            refine hK17 _ _ ?_
            simp only [thenK, blockK, keepE, updM, List.filter_cons, List.filter_nil, List.nil_append, List.cons_append, List.map_cons, List.map_nil, envE, Mem.get, Nat.reduceEqDiff, reduceIte, Option.isNone_none, Option.isNone_some, Bool.false_eq_true, List.length_cons, List.length_nil, Nat.reduceAdd, Nat.reduceMul]
            exact hK11 _ _ _ ⟨_, _, Settled.refl, _, _, ⟨_, h, rfl, rfl⟩, ⟨rfl, ⟨⟨rfl, rfl⟩, trivial⟩, trivial⟩, rfl⟩
          · replace h := ite_f h h20
            refine stG (isF h20) ?_
            refine st0 1728 rfl (ok (fa_k 1 rfl)) ?_
            refine stG (isF h20) ?_
            refine st0 1792 rfl (ok (ld_v (v := .d ((eL 1 eU8) a0.Bytes)) rfl rfl rfl)) ?_
            refine stG (isF h20) ?_
            refine st0 1856 rfl (ok (lenL _ _)) ?_
            refine stG (isF h20) ?_
            refine st0 1920 rfl (ok (fa_k 0 rfl)) ?_
            refine stG (isF h20) ?_
            refine st0 1984 rfl (ok (ld_v (v := .d (eI a0.PageSize)) rfl rfl rfl)) ?_
            refine stG (isF h20) ?_
            obtain ⟨h21, h⟩ := asq_inv h
            refine st0 2048 rfl (ok (quoI _ _ h21)) ?_
            refine stG (isF h20) ?_
            refine st0 2112 rfl (ok (gtrI _ (8 : Int))) ?_
            refine st0 2176 rfl (ok (pick_f h20 _ (.d (eB (decide ((8 : Int) < (w64 ((a0.Bytes.length : Int).tdiv a0.PageSize)))))))) ?_
            refine hK17 _ _ ?_
            simp only [thenK, blockK, keepE, updM, List.filter_cons, List.filter_nil, List.nil_append, List.cons_append, List.map_cons, List.map_nil, envE, Mem.get, Nat.reduceEqDiff, reduceIte, Option.isNone_none, Option.isNone_some, Bool.false_eq_true, List.length_cons, List.length_nil, Nat.reduceAdd, Nat.reduceMul]
            exact hK11 _ _ _ ⟨_, _, Settled.refl, _, _, ⟨_, h, rfl, rfl⟩, ⟨rfl, ⟨⟨rfl, rfl⟩, trivial⟩, trivial⟩, rfl⟩
  · refine rwp_region fun K22 hK22 => ?_
    refine st0 256 rfl (ok (fa_k 0 rfl)) ?_
    refine st0 320 rfl (ok (ld_v (v := .d (eI a0.PageSize)) rfl rfl rfl)) ?_
    refine st0 384 rfl (ok (lssI _ (512 : Int))) ?_
    refine st0 448 rfl (ok (mv (.d (eB (decide (a0.PageSize < (512 : Int))))))) ?_
    rcases Bool.eq_false_or_eq_true ((decide (a0.PageSize < (512 : Int)))) with h23 | h23
    · replace h := ite_t h h23
      refine stGN 512 rfl rfl h23 ?_
      refine stGN 576 rfl rfl h23 ?_
      refine stGN 640 rfl rfl h23 ?_
      refine st0 704 rfl (ok (pick_t h23 (.d (eB true)) _)) ?_
      refine hK22 _ _ ?_
      simp only [thenK, blockK, keepE, updM, List.filter_cons, List.filter_nil, List.nil_append, List.cons_append, List.map_cons, List.map_nil, envE, Mem.get, Nat.reduceEqDiff, reduceIte, Option.isNone_none, Option.isNone_some, Bool.false_eq_true, List.length_cons, List.length_nil, Nat.reduceAdd, Nat.reduceMul]
      exact hK5 _ _ _ ⟨_, _, Settled.refl, _, _, ⟨_, h, rfl, rfl⟩, ⟨rfl, ⟨⟨rfl, rfl⟩, ⟨⟨rfl, rfl⟩, trivial⟩⟩, ⟨⟨rfl, rfl⟩, trivial⟩⟩, rfl⟩
    · replace h := ite_f h h23
      refine stG (isF h23) ?_
      refine st0 512 rfl (ok (fa_k 0 rfl)) ?_
      refine stG (isF h23) ?_
      refine st0 576 rfl (ok (ld_v (v := .d (eI a0.PageSize)) rfl rfl rfl)) ?_
      refine stG (isF h23) ?_
      refine st0 640 rfl (ok (gtrI _ (8192 : Int))) ?_
      refine st0 704 rfl (ok (pick_f h23 _ (.d (eB (decide ((8192 : Int) < a0.PageSize)))))) ?_
      refine hK22 _ _ ?_
      simp only [thenK, blockK, keepE, updM, List.filter_cons, List.filter_nil, List.nil_append, List.cons_append, List.map_cons, List.map_nil, envE, Mem.get, Nat.reduceEqDiff, reduceIte, Option.isNone_none, Option.isNone_some, Bool.false_eq_true, List.length_cons, List.length_nil, Nat.reduceAdd, Nat.reduceMul]
      exact hK5 _ _ _ ⟨_, _, Settled.refl, _, _, ⟨_, h, rfl, rfl⟩, ⟨rfl, ⟨⟨rfl, rfl⟩, ⟨⟨rfl, rfl⟩, trivial⟩⟩, ⟨⟨rfl, rfl⟩, trivial⟩⟩, rfl⟩

end Go.Proofs.Ty
