/- Each Go function comes to what its plain function says. PRINTED by a program of this session (ty.py). -/
import Derived.Test.YtkiffaadahpbkaaS7
set_option linter.unusedVariables false
set_option linter.unusedSimpArgs false
set_option maxHeartbeats 4000000
set_option maxRecDepth 10000
namespace Go.Proofs.Ty
open Go Go.RW Go.Proofs
/-- passkey/passkeycast.New -/
def passkeycastNewH : Hints := ⟨[(0, [0]), (1, [2])], []⟩
def passkeycastNewRc : RCode :=
  .seq (.region false [⟨some 2, .mv, [.k (.d .nilp)], none, []⟩] [0]) (.seq (.region false [⟨some 3, .mv, [.t 0], none, []⟩, ⟨some 4, .build [.nil 1, .d (.int .i64 0)] [(0, 1)], [.t
  3], none, []⟩, ⟨some 5, .box, [.t 4], none, []⟩, ⟨some 2, .mv, [.t 5], none, []⟩] [2]) .ret)
def passkeycastNewRr : List RR := [.t 2]
theorem passkeycastNewC : compFn Try.prog 19 passkeycastNewH = some (passkeycastNewRc, passkeycastNewRr, 6) := by kernel_rfl
theorem passkeycastNewOK (a0 : List (Int)) (res : TPasskeycastDeck) (h : passkeycastNew a0 = some res) : CallOK Try.prog 19 [.d ((eL 1 eI) a0)] [] (.ptr 0 0) [(0, .var .mine [.d ((eL 1 eI) res.l), .d (eI res.atX)])] := by
  unfold passkeycastNew at h
  refine callOK passkeycastNewC fm rfl ?_
  simp only [initE, initM, nbor, List.map_cons, List.map_nil, Nat.reduceAdd]
  unfold passkeycastNewRc
  refine rwp_seq fun K1 hK1 => ?_
  refine rwp_region fun K2 hK2 => ?_
  refine st0 128 rfl (ok (mv (.d .nilp))) ?_
  refine hK2 _ _ ?_
  simp only [thenK, blockK, keepE, updM, List.filter_cons, List.filter_nil, List.nil_append, List.cons_append, List.map_cons, List.map_nil, envE, Mem.get, Nat.reduceEqDiff, reduceIte, Option.isNone_none, Option.isNone_some, Bool.false_eq_true, List.length_cons, List.length_nil, Nat.reduceAdd, Nat.reduceMul]
  refine hK1 _ _ _ ?_
  refine rwp_seq fun K3 hK3 => ?_
  refine rwp_region fun K4 hK4 => ?_
  refine st0 192 rfl (ok (mv (.d ((eL 1 eI) a0)))) ?_
  refine st0 256 rfl (ok (bld (v := .d (.agg [(eL 1 eI) a0, eI (0 : Int)])) rfl rfl)) ?_
  refine st1 320 rfl (mem' := [(256, .var .mine [.d ((eL 1 eI) a0), .d (eI (0 : Int))])]) (ok (bx (ps := [.d ((eL 1 eI) a0), .d (eI (0 : Int))]) rfl rfl)) rfl ?_
  refine st0 384 rfl (ok (mv (.ptr 256 0))) ?_
  refine hK4 _ _ ?_
  simp only [thenK, blockK, keepE, updM, List.filter_cons, List.filter_nil, List.nil_append, List.cons_append, List.map_cons, List.map_nil, envE, Mem.get, Nat.reduceEqDiff, reduceIte, Option.isNone_none, Option.isNone_some, Bool.false_eq_true, List.length_cons, List.length_nil, Nat.reduceAdd, Nat.reduceMul]
  refine hK3 _ _ _ ?_
  refine rwp_ret ?_
  obtain rfl := Option.some.inj h
  try simp only [thenK, blockK, reduceIte]
  exact Or.inl (end_ok trivial (rs_t (v := .ptr 256 0) rfl rs_nil) (en_ptr en_nil) ou_nil (by first | exact eok rfl rfl rfl rfl (And.intro (And.intro rfl rfl) trivial) | (refine eok ?_ ?_ ?_ ?_ ?_ <;> first | rfl | exact (And.intro (And.intro rfl rfl) trivial) | simp [retM, Mem.get, PV.renL, PV.ren, Blk.ren, comps, rhoR, rhoM, appN, PV.refsL, PV.refs, keys, nodupB, Blk.refs, allIn, Blk.bor])))

/-- (*passkey/passkeycast.Deck).Next -/
def passkeycastDeckNextH : Hints := ⟨[(0, [0, 1]), (1, [0, 1, 14]), (2, [4]), (3, [0, 1]), (4, [4])], []⟩
def passkeycastDeckNextRc : RCode :=
  .seq (.region false [⟨some 4, .mv, [.k (.d (.int .i64 0))], none, []⟩] [0, 1]) (.seq (.seq (.region true [⟨some 5, .mv, [.t 0], none, []⟩, ⟨some 6, .chk, [.t 5], none, [0]⟩, ⟨some
  7, .fa 1, [.t 6], none, [0, 1]⟩, ⟨some 8, .load 1 false, [.t 7], none, [0, 1, 2]⟩, ⟨some 9, .mv, [.t 0], none, []⟩, ⟨some 10, .chk, [.t 9], none, [4]⟩, ⟨some 11, .fa 0, [.t 10],
  none, [4, 5]⟩, ⟨some 12, .load 1 false, [.t 11], none, [4, 5, 6]⟩, ⟨some 13, .len, [.t 12], none, [4, 5, 6, 7]⟩, ⟨some 14, .bin .geq, [.t 8, .t 13], none, [0, 1, 2, 3, 4, 5, 6,
  7, 8]⟩] [0, 1, 14]) (.cond (.t 14) (.seq (.region false [⟨some 4, .mv, [.k (.d (.int .i64 0))], none, []⟩] [4]) .ret) .skip)) (.seq (.region false [⟨some 15, .mv, [.t 0], none,
  []⟩, ⟨some 16, .chk, [.t 15], none, []⟩, ⟨some 17, .fa 1, [.t 16], none, []⟩, ⟨some 18, .load 1 false, [.t 17], none, []⟩, ⟨some 19, .bin .add, [.t 18, .k (.d (.int .i64 1))],
  none, []⟩, ⟨some 20, .chk, [.t 15], none, []⟩, ⟨some 21, .fa 1, [.t 20], none, []⟩, ⟨none, .store 1, [.t 21, .t 19], none, []⟩] [0, 1]) (.seq (.region true [⟨some 22, .mv, [.t
  0], none, []⟩, ⟨some 23, .chk, [.t 22], none, [0]⟩, ⟨some 24, .fa 0, [.t 23], none, [0, 1]⟩, ⟨some 25, .load 1 false, [.t 24], none, [0, 1, 2]⟩, ⟨some 26, .mv, [.t 0], none, []⟩,
  ⟨some 27, .chk, [.t 26], none, [4]⟩, ⟨some 28, .fa 1, [.t 27], none, [4, 5]⟩, ⟨some 29, .load 1 false, [.t 28], none, [4, 5, 6]⟩, ⟨some 30, .bin .sub, [.t 29, .k (.d (.int .i64
  1))], none, [4, 5, 6, 7]⟩, ⟨some 31, .ia 1, [.t 25, .t 30], none, [0, 1, 2, 3, 4, 5, 6, 7, 8]⟩, ⟨some 32, .load 1 false, [.t 31], none, [0, 1, 2, 3, 4, 5, 6, 7, 8, 9]⟩, ⟨some 33,
  .mv, [.t 1], none, []⟩, ⟨some 34, .call 14 false, [.t 32, .t 33], none, [0, 1, 2, 3, 4, 5, 6, 7, 8, 9, 10, 11]⟩, ⟨some 4, .mv, [.t 34], none, [0, 1, 2, 3, 4, 5, 6, 7, 8, 9, 10,
  11, 12]⟩] [4]) .ret)))
def passkeycastDeckNextRr : List RR := [.t 4]
theorem passkeycastDeckNextC : compFn Try.prog 20 passkeycastDeckNextH = some (passkeycastDeckNextRc, passkeycastDeckNextRr, 35) := by kernel_rfl
theorem passkeycastDeckNextOK (a0 : TPasskeycastDeck) (a1 : Int) (res : Int × TPasskeycastDeck) (h : passkeycastDeckNext a0 a1 = some res) : CallOK Try.prog 20 [.p [(eL 1 eI) a0.l, eI a0.atX], .d (eI a1)] [[(eL 1 eI) res.2.l, eI res.2.atX]] (.d (eI res.1)) [] := by
  unfold passkeycastDeckNext at h
  refine callOK passkeycastDeckNextC fm rfl ?_
  simp only [initE, initM, nbor, List.map_cons, List.map_nil, Nat.reduceAdd]
  unfold passkeycastDeckNextRc
  refine rwp_seq fun K1 hK1 => ?_
  refine rwp_region fun K2 hK2 => ?_
  refine st0 128 rfl (ok (mv (.d (eI (0 : Int))))) ?_
  refine hK2 _ _ ?_
  simp only [thenK, blockK, keepE, updM, List.filter_cons, List.filter_nil, List.nil_append, List.cons_append, List.map_cons, List.map_nil, envE, Mem.get, Nat.reduceEqDiff, reduceIte, Option.isNone_none, Option.isNone_some, Bool.false_eq_true, List.length_cons, List.length_nil, Nat.reduceAdd, Nat.reduceMul]
  refine hK1 _ _ _ ?_
  refine rwp_seq fun K3 hK3 => ?_
  refine rwp_seq fun K4 hK4 => ?_
  refine rwp_draw fun K5 hK5 => ?_
  refine dr0 192 rfl (ok (mv (.ptr 0 0))) (by kernel_rfl) ?_
  refine dr0 256 rfl (ok (chk_ptr _ _)) (by kernel_rfl) ?_
  refine dr0 320 rfl (ok (fa_k 1 rfl)) (by kernel_rfl) ?_
  refine dr0 384 rfl (ok (ld_v (v := .d (eI a0.atX)) rfl rfl rfl)) (by kernel_rfl) ?_
  refine dr0 448 rfl (ok (mv (.ptr 0 0))) (by kernel_rfl) ?_
  refine dr0 512 rfl (ok (chk_ptr _ _)) (by kernel_rfl) ?_
  refine dr0 576 rfl (ok (fa_k 0 rfl)) (by kernel_rfl) ?_
  refine dr0 640 rfl (ok (ld_v (v := .d ((eL 1 eI) a0.l)) rfl rfl rfl)) (by kernel_rfl) ?_
  refine dr0 704 rfl (ok (lenL _ _)) (by kernel_rfl) ?_
  refine dr0 768 rfl (ok (geqI _ _)) (by kernel_rfl) ?_
  refine hK5 _ _ ?_
  simp only [thenK, blockK, keepE, updM, List.filter_cons, List.filter_nil, List.nil_append, List.cons_append, List.map_cons, List.map_nil, envE, Mem.get, Nat.reduceEqDiff, reduceIte, Option.isNone_none, Option.isNone_some, Bool.false_eq_true, List.length_cons, List.length_nil, Nat.reduceAdd, Nat.reduceMul]
  refine hK4 _ _ _ ?_
  rcases Bool.eq_false_or_eq_true ((decide ((a0.l.length : Int) ≤ a0.atX))) with h6 | h6
  · replace h := ite_t h h6
    refine rwp_t (isT h6) ?_
    refine rwp_seq fun K7 hK7 => ?_
    refine rwp_region fun K8 hK8 => ?_
    refine st0 832 rfl (ok (mv (.d (eI (0 : Int))))) ?_
    refine hK8 _ _ ?_
    simp only [thenK, blockK, keepE, updM, List.filter_cons, List.filter_nil, List.nil_append, List.cons_append, List.map_cons, List.map_nil, envE, Mem.get, Nat.reduceEqDiff, reduceIte, Option.isNone_none, Option.isNone_some, Bool.false_eq_true, List.length_cons, List.length_nil, Nat.reduceAdd, Nat.reduceMul]
    refine hK7 _ _ _ ?_
    refine rwp_ret ?_
    obtain rfl := Option.some.inj h
    try simp only [thenK, blockK, reduceIte]
    exact Or.inl (end_ok trivial (rs_t (v := .d (eI (0 : Int))) rfl rs_nil) (en_d (to_d _) en_nil) (ou_1 rfl (ds_d _ (ds_d _ ds_nil)) ou_nil) (by first | exact eok rfl rfl rfl rfl trivial | (refine eok ?_ ?_ ?_ ?_ ?_ <;> first | rfl | exact trivial | simp [retM, Mem.get, PV.renL, PV.ren, Blk.ren, comps, rhoR, rhoM, appN, PV.refsL, PV.refs, keys, nodupB, Blk.refs, allIn, Blk.bor])))
  · replace h := ite_f h h6
    refine rwp_f (isF h6) ?_
    refine rwp_skip ?_
    refine hK3 _ _ _ ?_
    refine rwp_seq fun K9 hK9 => ?_
    refine rwp_region fun K10 hK10 => ?_
    refine st0 832 rfl (ok (mv (.ptr 0 0))) ?_
    refine st0 896 rfl (ok (chk_ptr _ _)) ?_
    refine st0 960 rfl (ok (fa_k 1 rfl)) ?_
    refine st0 1024 rfl (ok (ld_v (v := .d (eI a0.atX)) rfl rfl rfl)) ?_
    refine st0 1088 rfl (ok (addI _ (1 : Int))) ?_
    refine st0 1152 rfl (ok (chk_ptr _ _)) ?_
    refine st0 1216 rfl (ok (fa_k 1 rfl)) ?_
    refine stn 1280 rfl (mem' := [(0, .var .bor [.d ((eL 1 eI) a0.l), .d (eI (w64 (a0.atX + (1 : Int))))])]) (ok (sto_v (ps' := [.d ((eL 1 eI) a0.l), .d (eI (w64 (a0.atX + (1 : Int))))]) rfl rfl rfl rfl)) rfl ?_
    refine hK10 _ _ ?_
    simp only [thenK, blockK, keepE, updM, List.filter_cons, List.filter_nil, List.nil_append, List.cons_append, List.map_cons, List.map_nil, envE, Mem.get, Nat.reduceEqDiff, reduceIte, Option.isNone_none, Option.isNone_some, Bool.false_eq_true, List.length_cons, List.length_nil, Nat.reduceAdd, Nat.reduceMul]
    refine hK9 _ _ _ ?_
    refine rwp_seq fun K11 hK11 => ?_
    refine rwp_draw fun K12 hK12 => ?_
    refine dr0 1344 rfl (ok (mv (.ptr 0 0))) (by kernel_rfl) ?_
    refine dr0 1408 rfl (ok (chk_ptr _ _)) (by kernel_rfl) ?_
    refine dr0 1472 rfl (ok (fa_k 0 rfl)) (by kernel_rfl) ?_
    refine dr0 1536 rfl (ok (ld_v (v := .d ((eL 1 eI) a0.l)) rfl rfl rfl)) (by kernel_rfl) ?_
    refine dr0 1600 rfl (ok (mv (.ptr 0 0))) (by kernel_rfl) ?_
    refine dr0 1664 rfl (ok (chk_ptr _ _)) (by kernel_rfl) ?_
    refine dr0 1728 rfl (ok (fa_k 1 rfl)) (by kernel_rfl) ?_
    refine dr0 1792 rfl (ok (ld_v (v := .d (eI (w64 (a0.atX + (1 : Int))))) rfl rfl rfl)) (by kernel_rfl) ?_
    refine dr0 1856 rfl (ok (subI _ (1 : Int))) (by kernel_rfl) ?_
    obtain ⟨h13, h⟩ := asq_inv h
    refine dr0 1920 rfl (ok (iaL (e := eI) (xs := a0.l) (0 : Int) h13)) (by kernel_rfl) ?_
    refine dr0 1984 rfl (ok (ld_i (v := eI (a0.l.getD (w64 ((w64 (a0.atX + (1 : Int))) - (1 : Int))).toNat (0 : Int))) rfl rfl)) (by kernel_rfl) ?_
    refine dr0 2048 rfl (ok (mv (.d (eI a1)))) (by kernel_rfl) ?_
    obtain ⟨y14, h15, h⟩ := bind_inv h
    refine dr0 2112 rfl (call_ok (v := .d (eI y14)) (u := []) (ar_d (eI (a0.l.getD (w64 ((w64 (a0.atX + (1 : Int))) - (1 : Int))).toNat (0 : Int))) (ar_d (eI a1) ar_nil)) rfl (passkeycastModOK (a0.l.getD (w64 ((w64 (a0.atX + (1 : Int))) - (1 : Int))).toNat (0 : Int)) a1 y14 h15) rfl) (by kernel_rfl) ?_
    refine dr0 2176 rfl (ok (mv (.d (eI y14)))) (by kernel_rfl) ?_
    refine hK12 _ _ ?_
    simp only [thenK, blockK, keepE, updM, List.filter_cons, List.filter_nil, List.nil_append, List.cons_append, List.map_cons, List.map_nil, envE, Mem.get, Nat.reduceEqDiff, reduceIte, Option.isNone_none, Option.isNone_some, Bool.false_eq_true, List.length_cons, List.length_nil, Nat.reduceAdd, Nat.reduceMul]
    refine hK11 _ _ _ ?_
    refine rwp_ret ?_
    obtain rfl := Option.some.inj h
    try simp only [thenK, blockK, reduceIte]
    exact Or.inl (end_ok trivial (rs_t (v := .d (eI y14)) rfl rs_nil) (en_d (to_d _) en_nil) (ou_1 rfl (ds_d _ (ds_d _ ds_nil)) ou_nil) (by first | exact eok rfl rfl rfl rfl trivial | (refine eok ?_ ?_ ?_ ?_ ?_ <;> first | rfl | exact trivial | simp [retM, Mem.get, PV.renL, PV.ren, Blk.ren, comps, rhoR, rhoM, appN, PV.refsL, PV.refs, keys, nodupB, Blk.refs, allIn, Blk.bor])))

/-- passkey/passkeyref37.share -/
def passkeyref37shareH : Hints := ⟨[(0, [0, 1]), (1, [0, 1, 19]), (2, [4]), (3, [0, 1, 5]), (4, [0, 1, 5, 22]), (6, [0, 1, 5, 35]), (7, [4]), (5, [0, 1, 5]), (8, [0, 1, 47]), (9, [4]), (10, [54]), (11, [4]), (12, [4])], []⟩
def passkeyref37shareRc : RCode :=
  .seq (.region false [⟨some 4, .mv, [.k (.d (.int .i64 0))], none, []⟩] [0, 1]) (.seq (.seq (.region false [⟨some 6, .mv, [.t 0], none, []⟩, ⟨some 7, .mv, [.t 1], none, []⟩, ⟨some
  8, .ia 2, [.t 6, .t 7], none, []⟩, ⟨some 9, .fa 0, [.t 8], none, []⟩, ⟨some 10, .load 1 false, [.t 9], none, []⟩, ⟨some 11, .bin .lss, [.t 10, .k (.d (.int .i64 1))], none, []⟩,
  ⟨some 12, .mv, [.t 11], none, []⟩, ⟨some 13, .mv, [.t 0], some (12, false), []⟩, ⟨some 14, .mv, [.t 1], some (12, false), []⟩, ⟨some 15, .ia 2, [.t 13, .t 14], some (12, false),
  []⟩, ⟨some 16, .fa 0, [.t 15], some (12, false), []⟩, ⟨some 17, .load 1 false, [.t 16], some (12, false), []⟩, ⟨some 18, .bin .gtr, [.t 17, .k (.d (.int .i64 255))], some (12,
  false), []⟩, ⟨some 19, .pick, [.t 12, .k (.d (.bool true)), .t 18], none, []⟩] [0, 1, 19]) (.cond (.t 19) (.seq (.region false [⟨some 4, .mv, [.k (.d (.int .i64 9))], none, []⟩]
  [4]) .ret) .skip)) (.seq (.seq (.region false [⟨some 5, .mv, [.k (.d (.int .i64 0))], none, []⟩] [0, 1, 5]) (.block 0 (.loop [] (.seq (.seq (.region false [⟨some 20, .mv, [.t 5],
  none, []⟩, ⟨some 21, .mv, [.t 1], none, []⟩, ⟨some 22, .bin .lss, [.t 20, .t 21], none, []⟩] [0, 1, 5, 22]) (.cond (.t 22) .skip (.exit 0))) (.seq (.block 1 (.seq (.region true
  [⟨some 25, .mv, [.t 0], none, []⟩, ⟨some 26, .mv, [.t 5], none, []⟩, ⟨some 27, .ia 2, [.t 25, .t 26], none, [0, 1]⟩, ⟨some 28, .fa 0, [.t 27], none, [0, 1, 2]⟩, ⟨some 29, .load 1
  false, [.t 28], none, [0, 1, 2, 3]⟩, ⟨some 30, .mv, [.t 0], none, []⟩, ⟨some 31, .mv, [.t 1], none, []⟩, ⟨some 32, .ia 2, [.t 30, .t 31], none, [5, 6]⟩, ⟨some 33, .fa 0, [.t 32],
  none, [5, 6, 7]⟩, ⟨some 34, .load 1 false, [.t 33], none, [5, 6, 7, 8]⟩, ⟨some 35, .bin .eql, [.t 29, .t 34], none, [0, 1, 2, 3, 4, 5, 6, 7, 8, 9]⟩] [0, 1, 5, 35]) (.cond (.t 35)
  (.seq (.region false [⟨some 4, .mv, [.k (.d (.int .i64 10))], none, []⟩] [4]) .ret) .skip))) (.region false [⟨some 23, .mv, [.t 5], none, []⟩, ⟨some 24, .bin .add, [.t 23, .k (.d
  (.int .i64 1))], none, []⟩, ⟨some 5, .mv, [.t 24], none, []⟩] [0, 1, 5])))))) (.seq (.seq (.region true [⟨some 36, .mv, [.t 0], none, []⟩, ⟨some 37, .mv, [.t 1], none, []⟩, ⟨some
  38, .ia 2, [.t 36, .t 37], none, [0, 1]⟩, ⟨some 39, .fa 1, [.t 38], none, [0, 1, 2]⟩, ⟨some 40, .load 1 false, [.t 39], none, [0, 1, 2, 3]⟩, ⟨some 41, .len, [.t 40], none, [0, 1,
  2, 3, 4]⟩, ⟨some 42, .mv, [.t 0], none, []⟩, ⟨some 43, .ia 2, [.t 42, .k (.d (.int .i64 0))], none, [6]⟩, ⟨some 44, .fa 1, [.t 43], none, [6, 7]⟩, ⟨some 45, .load 1 false, [.t
  44], none, [6, 7, 8]⟩, ⟨some 46, .len, [.t 45], none, [6, 7, 8, 9]⟩, ⟨some 47, .bin .neq, [.t 41, .t 46], none, [0, 1, 2, 3, 4, 5, 6, 7, 8, 9, 10]⟩] [0, 1, 47]) (.cond (.t 47)
  (.seq (.region false [⟨some 4, .mv, [.k (.d (.int .i64 4))], none, []⟩] [4]) .ret) .skip)) (.seq (.seq (.region false [⟨some 48, .mv, [.t 0], none, []⟩, ⟨some 49, .mv, [.t 1],
  none, []⟩, ⟨some 50, .ia 2, [.t 48, .t 49], none, []⟩, ⟨some 51, .fa 1, [.t 50], none, []⟩, ⟨some 52, .load 1 false, [.t 51], none, []⟩, ⟨some 53, .len, [.t 52], none, []⟩, ⟨some
  54, .bin .gtr, [.t 53, .k (.d (.int .i64 64))], none, []⟩] [54]) (.cond (.t 54) (.seq (.region false [⟨some 4, .mv, [.k (.d (.int .i64 8))], none, []⟩] [4]) .ret) .skip)) (.seq
  (.region false [⟨some 4, .mv, [.k (.d (.int .i64 0))], none, []⟩] [4]) .ret)))))
def passkeyref37shareRr : List RR := [.t 4]
theorem passkeyref37shareC : compFn Try.prog 33 passkeyref37shareH = some (passkeyref37shareRc, passkeyref37shareRr, 55) := by kernel_rfl
theorem passkeyref37shareOK (a0 : List (TApiShare)) (a1 : Int) (res : Int) (h : passkeyref37share a0 a1 = some res) : CallOK Try.prog 33 [.d ((eL 2 eTApiShare) a0), .d (eI a1)] [] (.d (eI res)) [] := by
  unfold passkeyref37share at h
  refine callOK passkeyref37shareC fm rfl ?_
  simp only [initE, initM, nbor, List.map_cons, List.map_nil, Nat.reduceAdd]
  unfold passkeyref37shareRc
  refine rwp_seq fun K1 hK1 => ?_
  refine rwp_region fun K2 hK2 => ?_
  refine st0 128 rfl (ok (mv (.d (eI (0 : Int))))) ?_
  refine hK2 _ _ ?_
  simp only [thenK, blockK, keepE, updM, List.filter_cons, List.filter_nil, List.nil_append, List.cons_append, List.map_cons, List.map_nil, envE, Mem.get, Nat.reduceEqDiff, reduceIte, Option.isNone_none, Option.isNone_some, Bool.false_eq_true, List.length_cons, List.length_nil, Nat.reduceAdd, Nat.reduceMul]
  refine hK1 _ _ _ ?_
  refine rwp_seq fun K3 hK3 => ?_
  refine rwp_join ([], []) 1088 (fun env mem => ∃ (v4 : Bool), passkeyref37shareJ1 a0 a1 v4 = some res ∧ env = [(0, .d ((eL 2 eTApiShare) a0)), (1, .d (eI a1)), (19, .d (eB v4))] ∧ mem = []) (fun _ _ hI => ?_) (fun K5 hK5 => ?_)
  · obtain ⟨v4, h, rfl, rfl⟩ := hI
    unfold passkeyref37shareJ1 at h
    rcases Bool.eq_false_or_eq_true (v4) with h6 | h6
    · replace h := ite_t h h6
      refine rwp_t (isT h6) ?_
      refine rwp_seq fun K7 hK7 => ?_
      refine rwp_region fun K8 hK8 => ?_
      refine st0 1152 rfl (ok (mv (.d (eI (9 : Int))))) ?_
      refine hK8 _ _ ?_
      simp only [thenK, blockK, keepE, updM, List.filter_cons, List.filter_nil, List.nil_append, List.cons_append, List.map_cons, List.map_nil, envE, Mem.get, Nat.reduceEqDiff, reduceIte, Option.isNone_none, Option.isNone_some, Bool.false_eq_true, List.length_cons, List.length_nil, Nat.reduceAdd, Nat.reduceMul]
      refine hK7 _ _ _ ?_
      refine rwp_ret ?_
      obtain rfl := Option.some.inj h
      try simp only [thenK, blockK, reduceIte]
      exact Or.inl (end_ok trivial (rs_t (v := .d (eI (9 : Int))) rfl rs_nil) (en_d (to_d _) en_nil) ou_nil (by first | exact eok rfl rfl rfl rfl trivial | (refine eok ?_ ?_ ?_ ?_ ?_ <;> first | rfl | exact trivial | simp [retM, Mem.get, PV.renL, PV.ren, Blk.ren, comps, rhoR, rhoM, appN, PV.refsL, PV.refs, keys, nodupB, Blk.refs, allIn, Blk.bor])))
    · replace h := ite_f h h6
      refine rwp_f (isF h6) ?_
      refine rwp_skip ?_
      refine hK3 _ _ _ ?_
      refine rwp_join ([], []) 2624 (fun env mem => passkeyref37shareJ2 a0 a1 = some res ∧ env = [(0, .d ((eL 2 eTApiShare) a0)), (1, .d (eI a1))] ∧ mem = []) (fun _ _ hI => ?_) (fun K9 hK9 => ?_)
      · obtain ⟨h, rfl, rfl⟩ := hI
        unfold passkeyref37shareJ2 at h
        refine rwp_seq fun K10 hK10 => ?_
        refine rwp_seq fun K11 hK11 => ?_
        refine rwp_draw fun K12 hK12 => ?_
        refine dr0 2688 rfl (ok (mv (.d ((eL 2 eTApiShare) a0)))) (by kernel_rfl) ?_
        refine dr0 2752 rfl (ok (mv (.d (eI a1)))) (by kernel_rfl) ?_
        obtain ⟨h13, h⟩ := asq_inv h
        refine dr0 2816 rfl (ok (iaL (e := eTApiShare) (xs := a0) (TApiShare.mk (0 : Int) ([] : List (BitVec 8))) h13)) (by kernel_rfl) ?_
        refine dr0 2880 rfl (ok fa_iptr) (by kernel_rfl) ?_
        refine dr0 2944 rfl (ok (ld_i (v := (eL 1 eU8) ((a0.getD a1.toNat (TApiShare.mk (0 : Int) ([] : List (BitVec 8)))).Data)) rfl rfl)) (by kernel_rfl) ?_
        refine dr0 3008 rfl (ok (lenL _ _)) (by kernel_rfl) ?_
        refine dr0 3072 rfl (ok (mv (.d ((eL 2 eTApiShare) a0)))) (by kernel_rfl) ?_
        obtain ⟨h14, h⟩ := asq_inv h
        refine dr0 3136 rfl (ok (iaL (e := eTApiShare) (xs := a0) (TApiShare.mk (0 : Int) ([] : List (BitVec 8))) h14)) (by kernel_rfl) ?_
        refine dr0 3200 rfl (ok fa_iptr) (by kernel_rfl) ?_
        refine dr0 3264 rfl (ok (ld_i (v := (eL 1 eU8) ((a0.getD (0 : Int).toNat (TApiShare.mk (0 : Int) ([] : List (BitVec 8)))).Data)) rfl rfl)) (by kernel_rfl) ?_
        refine dr0 3328 rfl (ok (lenL _ _)) (by kernel_rfl) ?_
        refine dr0 3392 rfl (ok (neqI _ _)) (by kernel_rfl) ?_
        refine hK12 _ _ ?_
        simp only [thenK, blockK, keepE, updM, List.filter_cons, List.filter_nil, List.nil_append, List.cons_append, List.map_cons, List.map_nil, envE, Mem.get, Nat.reduceEqDiff, reduceIte, Option.isNone_none, Option.isNone_some, Bool.false_eq_true, List.length_cons, List.length_nil, Nat.reduceAdd, Nat.reduceMul]
        refine hK11 _ _ _ ?_
        rcases Bool.eq_false_or_eq_true ((((((a0.getD a1.toNat (TApiShare.mk (0 : Int) ([] : List (BitVec 8)))).Data)).length : Int) != ((((a0.getD (0 : Int).toNat (TApiShare.mk (0 : Int) ([] : List (BitVec 8)))).Data)).length : Int))) with h15 | h15
        · replace h := ite_t h h15
          refine rwp_t (isT h15) ?_
          refine rwp_seq fun K16 hK16 => ?_
          refine rwp_region fun K17 hK17 => ?_
          refine st0 3456 rfl (ok (mv (.d (eI (4 : Int))))) ?_
          refine hK17 _ _ ?_
          simp only [thenK, blockK, keepE, updM, List.filter_cons, List.filter_nil, List.nil_append, List.cons_append, List.map_cons, List.map_nil, envE, Mem.get, Nat.reduceEqDiff, reduceIte, Option.isNone_none, Option.isNone_some, Bool.false_eq_true, List.length_cons, List.length_nil, Nat.reduceAdd, Nat.reduceMul]
          refine hK16 _ _ _ ?_
          refine rwp_ret ?_
          obtain rfl := Option.some.inj h
          try simp only [thenK, blockK, reduceIte]
          exact Or.inl (end_ok trivial (rs_t (v := .d (eI (4 : Int))) rfl rs_nil) (en_d (to_d _) en_nil) ou_nil (by first | exact eok rfl rfl rfl rfl trivial | (refine eok ?_ ?_ ?_ ?_ ?_ <;> first | rfl | exact trivial | simp [retM, Mem.get, PV.renL, PV.ren, Blk.ren, comps, rhoR, rhoM, appN, PV.refsL, PV.refs, keys, nodupB, Blk.refs, allIn, Blk.bor])))
        · replace h := ite_f h h15
          refine rwp_f (isF h15) ?_
          refine rwp_skip ?_
          refine hK10 _ _ _ ?_
          refine rwp_seq fun K18 hK18 => ?_
          refine rwp_seq fun K19 hK19 => ?_
          refine rwp_region fun K20 hK20 => ?_
          refine st0 3456 rfl (ok (mv (.d ((eL 2 eTApiShare) a0)))) ?_
          refine st0 3520 rfl (ok (mv (.d (eI a1)))) ?_
          obtain ⟨h21, h⟩ := asq_inv h
          refine st0 3584 rfl (ok (iaL (e := eTApiShare) (xs := a0) (TApiShare.mk (0 : Int) ([] : List (BitVec 8))) h21)) ?_
          refine st0 3648 rfl (ok fa_iptr) ?_
          refine st0 3712 rfl (ok (ld_i (v := (eL 1 eU8) ((a0.getD a1.toNat (TApiShare.mk (0 : Int) ([] : List (BitVec 8)))).Data)) rfl rfl)) ?_
          refine st0 3776 rfl (ok (lenL _ _)) ?_
          refine st0 3840 rfl (ok (gtrI _ (64 : Int))) ?_
          refine hK20 _ _ ?_
          simp only [thenK, blockK, keepE, updM, List.filter_cons, List.filter_nil, List.nil_append, List.cons_append, List.map_cons, List.map_nil, envE, Mem.get, Nat.reduceEqDiff, reduceIte, Option.isNone_none, Option.isNone_some, Bool.false_eq_true, List.length_cons, List.length_nil, Nat.reduceAdd, Nat.reduceMul]
          refine hK19 _ _ _ ?_
          rcases Bool.eq_false_or_eq_true ((decide ((64 : Int) < ((((a0.getD a1.toNat (TApiShare.mk (0 : Int) ([] : List (BitVec 8)))).Data)).length : Int)))) with h22 | h22
          · replace h := ite_t h h22
            refine rwp_t (isT h22) ?_
            refine rwp_seq fun K23 hK23 => ?_
            refine rwp_region fun K24 hK24 => ?_
            refine st0 3904 rfl (ok (mv (.d (eI (8 : Int))))) ?_
            refine hK24 _ _ ?_
            simp only [thenK, blockK, keepE, updM, List.filter_cons, List.filter_nil, List.nil_append, List.cons_append, List.map_cons, List.map_nil, envE, Mem.get, Nat.reduceEqDiff, reduceIte, Option.isNone_none, Option.isNone_some, Bool.false_eq_true, List.length_cons, List.length_nil, Nat.reduceAdd, Nat.reduceMul]
            refine hK23 _ _ _ ?_
            refine rwp_ret ?_
            obtain rfl := Option.some.inj h
            try simp only [thenK, blockK, reduceIte]
            exact Or.inl (end_ok trivial (rs_t (v := .d (eI (8 : Int))) rfl rs_nil) (en_d (to_d _) en_nil) ou_nil (by first | exact eok rfl rfl rfl rfl trivial | (refine eok ?_ ?_ ?_ ?_ ?_ <;> first | rfl | exact trivial | simp [retM, Mem.get, PV.renL, PV.ren, Blk.ren, comps, rhoR, rhoM, appN, PV.refsL, PV.refs, keys, nodupB, Blk.refs, allIn, Blk.bor])))
          · replace h := ite_f h h22
            refine rwp_f (isF h22) ?_
            refine rwp_skip ?_
            refine hK18 _ _ _ ?_
            refine rwp_seq fun K25 hK25 => ?_
            refine rwp_region fun K26 hK26 => ?_
            refine st0 3904 rfl (ok (mv (.d (eI (0 : Int))))) ?_
            refine hK26 _ _ ?_
            simp only [thenK, blockK, keepE, updM, List.filter_cons, List.filter_nil, List.nil_append, List.cons_append, List.map_cons, List.map_nil, envE, Mem.get, Nat.reduceEqDiff, reduceIte, Option.isNone_none, Option.isNone_some, Bool.false_eq_true, List.length_cons, List.length_nil, Nat.reduceAdd, Nat.reduceMul]
            refine hK25 _ _ _ ?_
            refine rwp_ret ?_
            obtain rfl := Option.some.inj h
            try simp only [thenK, blockK, reduceIte]
            exact Or.inl (end_ok trivial (rs_t (v := .d (eI (0 : Int))) rfl rs_nil) (en_d (to_d _) en_nil) ou_nil (by first | exact eok rfl rfl rfl rfl trivial | (refine eok ?_ ?_ ?_ ?_ ?_ <;> first | rfl | exact trivial | simp [retM, Mem.get, PV.renL, PV.ren, Blk.ren, comps, rhoR, rhoM, appN, PV.refsL, PV.refs, keys, nodupB, Blk.refs, allIn, Blk.bor])))
      · refine rwp_seq fun K27 hK27 => ?_
        refine rwp_region fun K28 hK28 => ?_
        refine st0 1152 rfl (ok (mv (.d (eI (0 : Int))))) ?_
        refine hK28 _ _ ?_
        simp only [thenK, blockK, keepE, updM, List.filter_cons, List.filter_nil, List.nil_append, List.cons_append, List.map_cons, List.map_nil, envE, Mem.get, Nat.reduceEqDiff, reduceIte, Option.isNone_none, Option.isNone_some, Bool.false_eq_true, List.length_cons, List.length_nil, Nat.reduceAdd, Nat.reduceMul]
        refine hK27 _ _ _ ?_
        refine rwp_block fun K29 hK29 => ?_
        refine rwp_loop ([], []) 2368 (fun k env mem => ∃ (v30 : Int), passkeyref37shareL3 a0 a1 k v30 = some res ∧ env = [(0, .d ((eL 2 eTApiShare) a0)), (1, .d (eI a1)), (5, .d (eI v30))] ∧ mem = []) FUEL ⟨_, _, Settled.refl, _, _, ⟨_, h, rfl, rfl⟩, ⟨rfl, ⟨⟨rfl, rfl⟩, ⟨⟨rfl, rfl⟩, ⟨⟨rfl, rfl⟩, trivial⟩⟩⟩, trivial⟩, rfl⟩ (fun k3 env1 mem1 hI K31 hK31 => ?_)
        obtain ⟨v30, h, rfl, rfl⟩ := hI
        cases k3 with
        | zero => simp [passkeyref37shareL3] at h
        | succ k3 =>
          rw [passkeyref37shareL3] at h
          refine rwp_seq fun K32 hK32 => ?_
          refine rwp_seq fun K33 hK33 => ?_
          refine rwp_region fun K34 hK34 => ?_
          refine st0 2432 rfl (ok (mv (.d (eI v30)))) ?_
          refine st0 2496 rfl (ok (mv (.d (eI a1)))) ?_
          refine st0 2560 rfl (ok (lssI _ _)) ?_
          refine hK34 _ _ ?_
          simp only [thenK, blockK, keepE, updM, List.filter_cons, List.filter_nil, List.nil_append, List.cons_append, List.map_cons, List.map_nil, envE, Mem.get, Nat.reduceEqDiff, reduceIte, Option.isNone_none, Option.isNone_some, Bool.false_eq_true, List.length_cons, List.length_nil, Nat.reduceAdd, Nat.reduceMul]
          refine hK33 _ _ _ ?_
          rcases Bool.eq_false_or_eq_true ((decide (v30 < a1))) with h35 | h35
          · replace h := ite_t h h35
            refine rwp_t (isT h35) ?_
            refine rwp_skip ?_
            refine hK32 _ _ _ ?_
            refine rwp_seq fun K36 hK36 => ?_
            refine rwp_block fun K37 hK37 => ?_
            refine rwp_seq fun K38 hK38 => ?_
            refine rwp_draw fun K39 hK39 => ?_
            refine dr0 2624 rfl (ok (mv (.d ((eL 2 eTApiShare) a0)))) (by kernel_rfl) ?_
            refine dr0 2688 rfl (ok (mv (.d (eI v30)))) (by kernel_rfl) ?_
            obtain ⟨h40, h⟩ := asq_inv h
            refine dr0 2752 rfl (ok (iaL (e := eTApiShare) (xs := a0) (TApiShare.mk (0 : Int) ([] : List (BitVec 8))) h40)) (by kernel_rfl) ?_
            refine dr0 2816 rfl (ok fa_iptr) (by kernel_rfl) ?_
            refine dr0 2880 rfl (ok (ld_i (v := eI ((a0.getD v30.toNat (TApiShare.mk (0 : Int) ([] : List (BitVec 8)))).X)) rfl rfl)) (by kernel_rfl) ?_
            refine dr0 2944 rfl (ok (mv (.d ((eL 2 eTApiShare) a0)))) (by kernel_rfl) ?_
            refine dr0 3008 rfl (ok (mv (.d (eI a1)))) (by kernel_rfl) ?_
            obtain ⟨h41, h⟩ := asq_inv h
            refine dr0 3072 rfl (ok (iaL (e := eTApiShare) (xs := a0) (TApiShare.mk (0 : Int) ([] : List (BitVec 8))) h41)) (by kernel_rfl) ?_
            refine dr0 3136 rfl (ok fa_iptr) (by kernel_rfl) ?_
            refine dr0 3200 rfl (ok (ld_i (v := eI ((a0.getD a1.toNat (TApiShare.mk (0 : Int) ([] : List (BitVec 8)))).X)) rfl rfl)) (by kernel_rfl) ?_
            refine dr0 3264 rfl (ok (eqlI _ _)) (by kernel_rfl) ?_
            refine hK39 _ _ ?_
            simp only [thenK, blockK, keepE, updM, List.filter_cons, List.filter_nil, List.nil_append, List.cons_append, List.map_cons, List.map_nil, envE, Mem.get, Nat.reduceEqDiff, reduceIte, Option.isNone_none, Option.isNone_some, Bool.false_eq_true, List.length_cons, List.length_nil, Nat.reduceAdd, Nat.reduceMul]
            refine hK38 _ _ _ ?_
            rcases Bool.eq_false_or_eq_true ((((a0.getD v30.toNat (TApiShare.mk (0 : Int) ([] : List (BitVec 8)))).X) == ((a0.getD a1.toNat (TApiShare.mk (0 : Int) ([] : List (BitVec 8)))).X))) with h42 | h42
            · replace h := ite_t h h42
              refine rwp_t (isT h42) ?_
              refine rwp_seq fun K43 hK43 => ?_
              refine rwp_region fun K44 hK44 => ?_
              refine st0 3328 rfl (ok (mv (.d (eI (10 : Int))))) ?_
              refine hK44 _ _ ?_
              simp only [thenK, blockK, keepE, updM, List.filter_cons, List.filter_nil, List.nil_append, List.cons_append, List.map_cons, List.map_nil, envE, Mem.get, Nat.reduceEqDiff, reduceIte, Option.isNone_none, Option.isNone_some, Bool.false_eq_true, List.length_cons, List.length_nil, Nat.reduceAdd, Nat.reduceMul]
              refine hK43 _ _ _ ?_
              refine rwp_ret ?_
              obtain rfl := Option.some.inj h
              try simp only [thenK, blockK, reduceIte]
              exact Or.inl (end_ok trivial (rs_t (v := .d (eI (10 : Int))) rfl rs_nil) (en_d (to_d _) en_nil) ou_nil (by first | exact eok rfl rfl rfl rfl trivial | (refine eok ?_ ?_ ?_ ?_ ?_ <;> first | rfl | exact trivial | simp [retM, Mem.get, PV.renL, PV.ren, Blk.ren, comps, rhoR, rhoM, appN, PV.refsL, PV.refs, keys, nodupB, Blk.refs, allIn, Blk.bor])))
            · replace h := ite_f h h42
              refine rwp_f (isF h42) ?_
              refine rwp_skip ?_
              refine hK37 _ _ _ ?_
              refine hK36 _ _ _ ?_
              refine rwp_region fun K45 hK45 => ?_
              refine st0 3328 rfl (ok (mv (.d (eI v30)))) ?_
              refine st0 3392 rfl (ok (addI _ (1 : Int))) ?_
              refine st0 3456 rfl (ok (mv (.d (eI (w64 (v30 + (1 : Int))))))) ?_
              refine hK45 _ _ ?_
              simp only [thenK, blockK, keepE, updM, List.filter_cons, List.filter_nil, List.nil_append, List.cons_append, List.map_cons, List.map_nil, envE, Mem.get, Nat.reduceEqDiff, reduceIte, Option.isNone_none, Option.isNone_some, Bool.false_eq_true, List.length_cons, List.length_nil, Nat.reduceAdd, Nat.reduceMul]
              exact hK31.out _ _ _ k3 (Nat.lt_succ_self k3) ⟨_, _, Settled.refl, _, _, ⟨_, h, rfl, rfl⟩, ⟨rfl, ⟨⟨rfl, rfl⟩, ⟨⟨rfl, rfl⟩, ⟨⟨rfl, rfl⟩, trivial⟩⟩⟩, trivial⟩, rfl⟩
          · replace h := ite_f h h35
            refine rwp_f (isF h35) ?_
            refine rwp_exit ?_
            refine hK29 _ _ _ ?_
            exact hK9 _ _ _ ⟨_, _, Settled.refl, _, _, ⟨h, rfl, rfl⟩, ⟨rfl, ⟨⟨rfl, rfl⟩, ⟨⟨rfl, rfl⟩, trivial⟩⟩, trivial⟩, rfl⟩
  · refine rwp_region fun K46 hK46 => ?_
    refine st0 192 rfl (ok (mv (.d ((eL 2 eTApiShare) a0)))) ?_
    refine st0 256 rfl (ok (mv (.d (eI a1)))) ?_
    obtain ⟨h47, h⟩ := asq_inv h
    refine st0 320 rfl (ok (iaL (e := eTApiShare) (xs := a0) (TApiShare.mk (0 : Int) ([] : List (BitVec 8))) h47)) ?_
    refine st0 384 rfl (ok fa_iptr) ?_
    refine st0 448 rfl (ok (ld_i (v := eI ((a0.getD a1.toNat (TApiShare.mk (0 : Int) ([] : List (BitVec 8)))).X)) rfl rfl)) ?_
    refine st0 512 rfl (ok (lssI _ (1 : Int))) ?_
    refine st0 576 rfl (ok (mv (.d (eB (decide (((a0.getD a1.toNat (TApiShare.mk (0 : Int) ([] : List (BitVec 8)))).X) < (1 : Int))))))) ?_
    rcases Bool.eq_false_or_eq_true ((decide (((a0.getD a1.toNat (TApiShare.mk (0 : Int) ([] : List (BitVec 8)))).X) < (1 : Int)))) with h48 | h48
    · replace h := ite_t h h48
      refine stGN 640 rfl rfl h48 ?_
      refine stGN 704 rfl rfl h48 ?_
      refine stGN 768 rfl rfl h48 ?_
      refine stGN 832 rfl rfl h48 ?_
      refine stGN 896 rfl rfl h48 ?_
      refine stGN 960 rfl rfl h48 ?_
      refine st0 1024 rfl (ok (pick_t h48 (.d (eB true)) _)) ?_
      refine hK46 _ _ ?_
      simp only [thenK, blockK, keepE, updM, List.filter_cons, List.filter_nil, List.nil_append, List.cons_append, List.map_cons, List.map_nil, envE, Mem.get, Nat.reduceEqDiff, reduceIte, Option.isNone_none, Option.isNone_some, Bool.false_eq_true, List.length_cons, List.length_nil, Nat.reduceAdd, Nat.reduceMul]
      exact hK5 _ _ _ ⟨_, _, Settled.refl, _, _, ⟨_, h, rfl, rfl⟩, ⟨rfl, ⟨⟨rfl, rfl⟩, ⟨⟨rfl, rfl⟩, ⟨⟨rfl, rfl⟩, trivial⟩⟩⟩, trivial⟩, rfl⟩
    · replace h := ite_f h h48
      refine stG (isF h48) ?_
      refine st0 640 rfl (ok (mv (.d ((eL 2 eTApiShare) a0)))) ?_
      refine stG (isF h48) ?_
      refine st0 704 rfl (ok (mv (.d (eI a1)))) ?_
      refine stG (isF h48) ?_
      obtain ⟨h49, h⟩ := asq_inv h
      refine st0 768 rfl (ok (iaL (e := eTApiShare) (xs := a0) (TApiShare.mk (0 : Int) ([] : List (BitVec 8))) h49)) ?_
      refine stG (isF h48) ?_
      refine st0 832 rfl (ok fa_iptr) ?_
      refine stG (isF h48) ?_
      refine st0 896 rfl (ok (ld_i (v := eI ((a0.getD a1.toNat (TApiShare.mk (0 : Int) ([] : List (BitVec 8)))).X)) rfl rfl)) ?_
      refine stG (isF h48) ?_
      refine st0 960 rfl (ok (gtrI _ (255 : Int))) ?_
      refine st0 1024 rfl (ok (pick_f h48 _ (.d (eB (decide ((255 : Int) < ((a0.getD a1.toNat (TApiShare.mk (0 : Int) ([] : List (BitVec 8)))).X))))))) ?_
      refine hK46 _ _ ?_
      simp only [thenK, blockK, keepE, updM, List.filter_cons, List.filter_nil, List.nil_append, List.cons_append, List.map_cons, List.map_nil, envE, Mem.get, Nat.reduceEqDiff, reduceIte, Option.isNone_none, Option.isNone_some, Bool.false_eq_true, List.length_cons, List.length_nil, Nat.reduceAdd, Nat.reduceMul]
      exact hK5 _ _ _ ⟨_, _, Settled.refl, _, _, ⟨_, h, rfl, rfl⟩, ⟨rfl, ⟨⟨rfl, rfl⟩, ⟨⟨rfl, rfl⟩, ⟨⟨rfl, rfl⟩, trivial⟩⟩⟩, trivial⟩, rfl⟩

end Go.Proofs.Ty
