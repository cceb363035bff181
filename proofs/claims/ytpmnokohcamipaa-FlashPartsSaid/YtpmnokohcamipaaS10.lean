/- Each Go function comes to what its plain function says. PRINTED by a program of this session (ty.py). -/
import Derived.Test.YtpmnokohcamipaaS9
set_option linter.unusedVariables false
set_option linter.unusedSimpArgs false
set_option maxHeartbeats 4000000
set_option maxRecDepth 10000
namespace Go.Proofs.Ty
open Go Go.RW Go.Proofs
/-- passkey/flash.Erase -/
def flashEraseH : Hints := ⟨[(0, [1, 2, 3, 6]), (1, [2, 3, 6, 9, 10]), (2, [2, 3, 6, 9, 10, 18]), (3, [6, 7, 8]), (4, [6, 7, 8])], []⟩
def flashEraseRc : RCode :=
  .seq (.region false [⟨some 3, .box, [.t 0], none, []⟩, ⟨some 6, .alloc [.d (.int .i64 0), .nil 1], [], none, []⟩, ⟨some 7, .mv, [.k (.d (.int .i64 0))], none, []⟩, ⟨some 8, .mv,
  [.k (.d (.int .i64 0))], none, []⟩] [1, 2, 3, 6]) (.seq (.region false [⟨some 12, .load 2 true, [.t 3], none, []⟩, ⟨some 13, .mv, [.t 1], none, []⟩, ⟨some 14, .call 23 false, [.t
  12, .t 13, .k (.d (.int .i64 0)), .k (.d (.int .i64 0))], none, []⟩, ⟨some 11, .mv, [.t 14], none, []⟩, ⟨some 15, .ext 0, [.t 11], none, []⟩, ⟨some 16, .ext 1, [.t 11], none,
  []⟩, ⟨some 9, .mv, [.t 15], none, []⟩, ⟨some 10, .mv, [.t 16], none, []⟩] [2, 3, 6, 9, 10]) (.seq (.seq (.region false [⟨some 17, .mv, [.t 10], none, []⟩, ⟨some 18, .bin .neq,
  [.t 17, .k (.d (.int .i64 0))], none, []⟩] [2, 3, 6, 9, 10, 18]) (.cond (.t 18) (.seq (.region false [⟨some 19, .build [.d (.int .i64 0), .nil 1] [], [], none, []⟩, ⟨some 20,
  .mv, [.t 10], none, []⟩, ⟨none, .store 2, [.t 6, .t 19], none, []⟩, ⟨some 7, .mv, [.k (.d (.int .i64 0))], none, []⟩, ⟨some 8, .mv, [.t 20], none, []⟩] [6, 7, 8]) .ret) .skip))
  (.seq (.region false [⟨some 21, .load 2 true, [.t 3], none, []⟩, ⟨some 22, .mv, [.t 9], none, []⟩, ⟨some 23, .fa 0, [.t 3], none, []⟩, ⟨some 24, .load 1 false, [.t 23], none,
  []⟩, ⟨some 25, .mv, [.t 2], none, []⟩, ⟨some 26, .call 27 true, [.t 21, .t 22, .t 24, .t 25, .k (.d (.fn 32 []))], none, []⟩, ⟨some 27, .ext 0, [.t 26], none, []⟩, ⟨some 28, .ext
  1, [.t 26], none, []⟩, ⟨some 29, .ext 2, [.t 26], none, []⟩, ⟨none, .store 2, [.t 6, .t 27], none, []⟩, ⟨some 7, .mv, [.t 28], none, []⟩, ⟨some 8, .mv, [.t 29], none, []⟩] [6, 7,
  8]) .ret)))
def flashEraseRr : List RR := [.c 6 2 true, .t 7, .t 8]
theorem flashEraseC : compFn Try.prog 29 flashEraseH = some (flashEraseRc, flashEraseRr, 30) := by kernel_rfl
theorem flashEraseOK (a0 : TApiFlash) (a1 : Int) (a2 : Int) (res : TApiFlash × Int × Int) (h : flashErase a0 a1 a2 = some res) : CallOK Try.prog 29 [.d (eTApiFlash a0), .d (eI a1), .d (eI a2)] [] (.tup [.d (eTApiFlash res.1), .d (eI res.2.1), .d (eI res.2.2)]) [] := by
  unfold flashErase at h
  refine callOK flashEraseC fm rfl ?_
  simp only [initE, initM, nbor, List.map_cons, List.map_nil, Nat.reduceAdd]
  unfold flashEraseRc
  refine rwp_seq fun K1 hK1 => ?_
  refine rwp_region fun K2 hK2 => ?_
  refine st1 128 rfl (mem' := [(64, .var .mine [.d (eI a0.PageSize), .d ((eL 1 eU8) a0.Bytes)])]) (ok (bx (ps := [.d (eI a0.PageSize), .d ((eL 1 eU8) a0.Bytes)]) rfl rfl)) rfl ?_
  refine st1 192 rfl (mem' := [(128, .var .mine [.d (eI (0 : Int)), .nil 1]), (64, .var .mine [.d (eI a0.PageSize), .d ((eL 1 eU8) a0.Bytes)])]) (ok (alc (zs := [.d (eI (0 : Int)), .nil 1]))) rfl ?_
  refine st0 256 rfl (ok (mv (.d (eI (0 : Int))))) ?_
  refine st0 320 rfl (ok (mv (.d (eI (0 : Int))))) ?_
  refine hK2 _ _ ?_
  simp only [thenK, blockK, keepE, updM, List.filter_cons, List.filter_nil, List.nil_append, List.cons_append, List.map_cons, List.map_nil, envE, Mem.get, Nat.reduceEqDiff, reduceIte, Option.isNone_none, Option.isNone_some, Bool.false_eq_true, List.length_cons, List.length_nil, Nat.reduceAdd, Nat.reduceMul]
  refine hK1 _ _ _ ?_
  refine rwp_seq fun K3 hK3 => ?_
  refine rwp_region fun K4 hK4 => ?_
  refine st0 384 rfl (ok (ld_v (v := .d (.agg [eI a0.PageSize, (eL 1 eU8) a0.Bytes])) rfl rfl rfl)) ?_
  refine st0 448 rfl (ok (mv (.d (eI a1)))) ?_
  obtain ⟨y5, h6, h⟩ := bind_inv h
  refine st0 512 rfl (call_ok (v := .tup [.d (eI y5.1), .d (eI y5.2)]) (u := []) (ar_d (eTApiFlash (TApiFlash.mk a0.PageSize a0.Bytes)) (ar_d (eI a1) (ar_d (eI (0 : Int)) (ar_d (eI (0 : Int)) ar_nil)))) rfl (flashplaceOK (TApiFlash.mk a0.PageSize a0.Bytes) a1 (0 : Int) (0 : Int) y5 h6) rfl) ?_
  refine st0 576 rfl (ok (mv (.tup [.d (eI y5.1), .d (eI y5.2)]))) ?_
  refine st0 640 rfl (ok (extr (v := .d (eI y5.1)) rfl rfl)) ?_
  refine st0 704 rfl (ok (extr (v := .d (eI y5.2)) rfl rfl)) ?_
  refine st0 768 rfl (ok (mv (.d (eI y5.1)))) ?_
  refine st0 832 rfl (ok (mv (.d (eI y5.2)))) ?_
  refine hK4 _ _ ?_
  simp only [thenK, blockK, keepE, updM, List.filter_cons, List.filter_nil, List.nil_append, List.cons_append, List.map_cons, List.map_nil, envE, Mem.get, Nat.reduceEqDiff, reduceIte, Option.isNone_none, Option.isNone_some, Bool.false_eq_true, List.length_cons, List.length_nil, Nat.reduceAdd, Nat.reduceMul]
  refine hK3 _ _ _ ?_
  refine rwp_seq fun K7 hK7 => ?_
  refine rwp_seq fun K8 hK8 => ?_
  refine rwp_region fun K9 hK9 => ?_
  refine st0 896 rfl (ok (mv (.d (eI y5.2)))) ?_
  refine st0 960 rfl (ok (neqI _ (0 : Int))) ?_
  refine hK9 _ _ ?_
  simp only [thenK, blockK, keepE, updM, List.filter_cons, List.filter_nil, List.nil_append, List.cons_append, List.map_cons, List.map_nil, envE, Mem.get, Nat.reduceEqDiff, reduceIte, Option.isNone_none, Option.isNone_some, Bool.false_eq_true, List.length_cons, List.length_nil, Nat.reduceAdd, Nat.reduceMul]
  refine hK8 _ _ _ ?_
  rcases Bool.eq_false_or_eq_true ((y5.2 != (0 : Int))) with h10 | h10
  · replace h := ite_t h h10
    refine rwp_t (isT h10) ?_
    refine rwp_seq fun K11 hK11 => ?_
    refine rwp_region fun K12 hK12 => ?_
    refine st0 1024 rfl (ok (bld (v := .agg [.d (eI (0 : Int)), .nil 1]) rfl rfl)) ?_
    refine st0 1088 rfl (ok (mv (.d (eI y5.2)))) ?_
    refine stn 1152 rfl (mem' := [(128, .var .mine [.d (eI (0 : Int)), .nil 1]), (64, .var .mine [.d (eI a0.PageSize), .d ((eL 1 eU8) a0.Bytes)])]) (ok (sto_v (ps' := [.d (eI (0 : Int)), .nil 1]) rfl rfl rfl rfl)) rfl ?_
    refine st0 1216 rfl (ok (mv (.d (eI (0 : Int))))) ?_
    refine st0 1280 rfl (ok (mv (.d (eI y5.2)))) ?_
    refine hK12 _ _ ?_
    simp only [thenK, blockK, keepE, updM, List.filter_cons, List.filter_nil, List.nil_append, List.cons_append, List.map_cons, List.map_nil, envE, Mem.get, Nat.reduceEqDiff, reduceIte, Option.isNone_none, Option.isNone_some, Bool.false_eq_true, List.length_cons, List.length_nil, Nat.reduceAdd, Nat.reduceMul]
    refine hK11 _ _ _ ?_
    refine rwp_ret ?_
    obtain rfl := Option.some.inj h
    try simp only [thenK, blockK, reduceIte]
    exact end_ok trivial (rs_c (id := 128) (off := 0) (v := .agg [.d (eI (0 : Int)), .nil 1]) rfl rfl rfl rfl (rs_t (v := .d (eI (0 : Int))) rfl (rs_t (v := .d (eI y5.2)) rfl rs_nil))) (en_d (to_agg (ds_d _ (ds_n eU8 ds_nil)) (x := eTApiFlash (TApiFlash.mk (0 : Int) ([] : List (BitVec 8)))) rfl) (en_d (to_d _) (en_d (to_d _) en_nil))) ou_nil (by first | exact eok rfl rfl rfl rfl trivial | (refine eok ?_ ?_ ?_ ?_ ?_ <;> first | rfl | exact trivial | simp [retM, Mem.get, PV.renL, PV.ren, Blk.ren, comps, rhoR, rhoM, appN, PV.refsL, PV.refs, keys, nodupB, Blk.refs, allIn, Blk.bor]))
  · replace h := ite_f h h10
    refine rwp_f (isF h10) ?_
    refine rwp_skip ?_
    refine hK7 _ _ _ ?_
    refine rwp_seq fun K13 hK13 => ?_
    refine rwp_region fun K14 hK14 => ?_
    refine st0 1024 rfl (ok (ld_v (v := .d (.agg [eI a0.PageSize, (eL 1 eU8) a0.Bytes])) rfl rfl rfl)) ?_
    refine st0 1088 rfl (ok (mv (.d (eI y5.1)))) ?_
    refine st0 1152 rfl (ok (fa_k 0 rfl)) ?_
    refine st0 1216 rfl (ok (ld_v (v := .d (eI a0.PageSize)) rfl rfl rfl)) ?_
    refine st0 1280 rfl (ok (mv (.d (eI a2)))) ?_
    obtain ⟨y15, h16, h⟩ := bind_inv h
    refine st0 1344 rfl (call_ok (v := .tup [.d (eTApiFlash y15.1), .d (eI y15.2.1), .d (eI y15.2.2)]) (u := []) (ar_d (eTApiFlash (TApiFlash.mk a0.PageSize a0.Bytes)) (ar_d (eI y5.1) (ar_d (eI a0.PageSize) (ar_d (eI a2) (ar_d _ ar_nil))))) rfl (flashchangeFflashErase1OK (TApiFlash.mk a0.PageSize a0.Bytes) y5.1 a0.PageSize a2 y15 h16) rfl) ?_
    refine st0 1408 rfl (ok (extr (v := .d (eTApiFlash y15.1)) rfl rfl)) ?_
    refine st0 1472 rfl (ok (extr (v := .d (eI y15.2.1)) rfl rfl)) ?_
    refine st0 1536 rfl (ok (extr (v := .d (eI y15.2.2)) rfl rfl)) ?_
    refine stn 1600 rfl (mem' := [(128, .var .mine [.d (eI y15.1.PageSize), .d ((eL 1 eU8) y15.1.Bytes)]), (64, .var .mine [.d (eI a0.PageSize), .d ((eL 1 eU8) a0.Bytes)])]) (ok (sto_v (ps' := [.d (eI y15.1.PageSize), .d ((eL 1 eU8) y15.1.Bytes)]) rfl rfl rfl rfl)) rfl ?_
    refine st0 1664 rfl (ok (mv (.d (eI y15.2.1)))) ?_
    refine st0 1728 rfl (ok (mv (.d (eI y15.2.2)))) ?_
    refine hK14 _ _ ?_
    simp only [thenK, blockK, keepE, updM, List.filter_cons, List.filter_nil, List.nil_append, List.cons_append, List.map_cons, List.map_nil, envE, Mem.get, Nat.reduceEqDiff, reduceIte, Option.isNone_none, Option.isNone_some, Bool.false_eq_true, List.length_cons, List.length_nil, Nat.reduceAdd, Nat.reduceMul]
    refine hK13 _ _ _ ?_
    refine rwp_ret ?_
    obtain rfl := Option.some.inj h
    try simp only [thenK, blockK, reduceIte]
    exact end_ok trivial (rs_c (id := 128) (off := 0) (v := .d (.agg [eI y15.1.PageSize, (eL 1 eU8) y15.1.Bytes])) rfl rfl rfl rfl (rs_t (v := .d (eI y15.2.1)) rfl (rs_t (v := .d (eI y15.2.2)) rfl rs_nil))) (en_d (to_d _) (en_d (to_d _) (en_d (to_d _) en_nil))) ou_nil (by first | exact eok rfl rfl rfl rfl trivial | (refine eok ?_ ?_ ?_ ?_ ?_ <;> first | rfl | exact trivial | simp [retM, Mem.get, PV.renL, PV.ren, Blk.ren, comps, rhoR, rhoM, appN, PV.refsL, PV.refs, keys, nodupB, Blk.refs, allIn, Blk.bor]))

/-- passkey/passkeyref7.Erase -/
def passkeyref7EraseH : Hints := ⟨[(0, [1, 2, 3, 6]), (1, [1, 2, 3, 6, 9]), (2, [1, 2, 3, 6, 9, 14]), (3, [6, 7, 8]), (4, [6, 7, 8])], []⟩
def passkeyref7EraseRc : RCode :=
  .seq (.region false [⟨some 3, .box, [.t 0], none, []⟩, ⟨some 6, .alloc [.d (.int .i64 0), .nil 1], [], none, []⟩, ⟨some 7, .mv, [.k (.d (.int .i64 0))], none, []⟩, ⟨some 8, .mv,
  [.k (.d (.int .i64 0))], none, []⟩] [1, 2, 3, 6]) (.seq (.seq (.region false [⟨some 10, .load 2 true, [.t 3], none, []⟩, ⟨some 11, .mv, [.t 1], none, []⟩, ⟨some 12, .call 25
  false, [.t 10, .t 11, .k (.d (.int .i64 0)), .k (.d (.int .i64 0))], none, []⟩, ⟨some 9, .mv, [.t 12], none, []⟩] [1, 2, 3, 6, 9]) (.seq (.region false [⟨some 13, .mv, [.t 9],
  none, []⟩, ⟨some 14, .bin .neq, [.t 13, .k (.d (.int .i64 0))], none, []⟩] [1, 2, 3, 6, 9, 14]) (.cond (.t 14) (.seq (.region false [⟨some 15, .build [.d (.int .i64 0), .nil 1]
  [], [], none, []⟩, ⟨some 16, .mv, [.t 9], none, []⟩, ⟨none, .store 2, [.t 6, .t 15], none, []⟩, ⟨some 7, .mv, [.k (.d (.int .i64 0))], none, []⟩, ⟨some 8, .mv, [.t 16], none,
  []⟩] [6, 7, 8]) .ret) .skip))) (.seq (.region false [⟨some 17, .load 2 true, [.t 3], none, []⟩, ⟨some 18, .mv, [.t 1], none, []⟩, ⟨some 19, .fa 0, [.t 3], none, []⟩, ⟨some 20,
  .load 1 false, [.t 19], none, []⟩, ⟨some 21, .bin .mul, [.t 18, .t 20], none, []⟩, ⟨some 22, .fa 0, [.t 3], none, []⟩, ⟨some 23, .load 1 false, [.t 22], none, []⟩, ⟨some 24, .mv,
  [.t 2], none, []⟩, ⟨some 25, .call 31 true, [.t 17, .t 21, .t 23, .k (.nil 1), .t 24], none, []⟩, ⟨some 26, .ext 0, [.t 25], none, []⟩, ⟨some 27, .ext 1, [.t 25], none, []⟩,
  ⟨some 28, .ext 2, [.t 25], none, []⟩, ⟨none, .store 2, [.t 6, .t 26], none, []⟩, ⟨some 7, .mv, [.t 27], none, []⟩, ⟨some 8, .mv, [.t 28], none, []⟩] [6, 7, 8]) .ret))
def passkeyref7EraseRr : List RR := [.c 6 2 true, .t 7, .t 8]
theorem passkeyref7EraseC : compFn Try.prog 30 passkeyref7EraseH = some (passkeyref7EraseRc, passkeyref7EraseRr, 29) := by kernel_rfl
theorem passkeyref7EraseOK (a0 : TApiFlash) (a1 : Int) (a2 : Int) (res : TApiFlash × Int × Int) (h : passkeyref7Erase a0 a1 a2 = some res) : CallOK Try.prog 30 [.d (eTApiFlash a0), .d (eI a1), .d (eI a2)] [] (.tup [.d (eTApiFlash res.1), .d (eI res.2.1), .d (eI res.2.2)]) [] := by
  unfold passkeyref7Erase at h
  refine callOK passkeyref7EraseC fm rfl ?_
  simp only [initE, initM, nbor, List.map_cons, List.map_nil, Nat.reduceAdd]
  unfold passkeyref7EraseRc
  refine rwp_seq fun K1 hK1 => ?_
  refine rwp_region fun K2 hK2 => ?_
  refine st1 128 rfl (mem' := [(64, .var .mine [.d (eI a0.PageSize), .d ((eL 1 eU8) a0.Bytes)])]) (ok (bx (ps := [.d (eI a0.PageSize), .d ((eL 1 eU8) a0.Bytes)]) rfl rfl)) rfl ?_
  refine st1 192 rfl (mem' := [(128, .var .mine [.d (eI (0 : Int)), .nil 1]), (64, .var .mine [.d (eI a0.PageSize), .d ((eL 1 eU8) a0.Bytes)])]) (ok (alc (zs := [.d (eI (0 : Int)), .nil 1]))) rfl ?_
  refine st0 256 rfl (ok (mv (.d (eI (0 : Int))))) ?_
  refine st0 320 rfl (ok (mv (.d (eI (0 : Int))))) ?_
  refine hK2 _ _ ?_
  simp only [thenK, blockK, keepE, updM, List.filter_cons, List.filter_nil, List.nil_append, List.cons_append, List.map_cons, List.map_nil, envE, Mem.get, Nat.reduceEqDiff, reduceIte, Option.isNone_none, Option.isNone_some, Bool.false_eq_true, List.length_cons, List.length_nil, Nat.reduceAdd, Nat.reduceMul]
  refine hK1 _ _ _ ?_
  refine rwp_seq fun K3 hK3 => ?_
  refine rwp_seq fun K4 hK4 => ?_
  refine rwp_region fun K5 hK5 => ?_
  refine st0 384 rfl (ok (ld_v (v := .d (.agg [eI a0.PageSize, (eL 1 eU8) a0.Bytes])) rfl rfl rfl)) ?_
  refine st0 448 rfl (ok (mv (.d (eI a1)))) ?_
  obtain ⟨y6, h7, h⟩ := bind_inv h
  refine st0 512 rfl (call_ok (v := .d (eI y6)) (u := []) (ar_d (eTApiFlash (TApiFlash.mk a0.PageSize a0.Bytes)) (ar_d (eI a1) (ar_d (eI (0 : Int)) (ar_d (eI (0 : Int)) ar_nil)))) rfl (passkeyref7areaOK (TApiFlash.mk a0.PageSize a0.Bytes) a1 (0 : Int) (0 : Int) y6 h7) rfl) ?_
  refine st0 576 rfl (ok (mv (.d (eI y6)))) ?_
  refine hK5 _ _ ?_
  simp only [thenK, blockK, keepE, updM, List.filter_cons, List.filter_nil, List.nil_append, List.cons_append, List.map_cons, List.map_nil, envE, Mem.get, Nat.reduceEqDiff, reduceIte, Option.isNone_none, Option.isNone_some, Bool.false_eq_true, List.length_cons, List.length_nil, Nat.reduceAdd, Nat.reduceMul]
  refine hK4 _ _ _ ?_
  refine rwp_seq fun K8 hK8 => ?_
  refine rwp_region fun K9 hK9 => ?_
  refine st0 640 rfl (ok (mv (.d (eI y6)))) ?_
  refine st0 704 rfl (ok (neqI _ (0 : Int))) ?_
  refine hK9 _ _ ?_
  simp only [thenK, blockK, keepE, updM, List.filter_cons, List.filter_nil, List.nil_append, List.cons_append, List.map_cons, List.map_nil, envE, Mem.get, Nat.reduceEqDiff, reduceIte, Option.isNone_none, Option.isNone_some, Bool.false_eq_true, List.length_cons, List.length_nil, Nat.reduceAdd, Nat.reduceMul]
  refine hK8 _ _ _ ?_
  rcases Bool.eq_false_or_eq_true ((y6 != (0 : Int))) with h10 | h10
  · replace h := ite_t h h10
    refine rwp_t (isT h10) ?_
    refine rwp_seq fun K11 hK11 => ?_
    refine rwp_region fun K12 hK12 => ?_
    refine st0 768 rfl (ok (bld (v := .agg [.d (eI (0 : Int)), .nil 1]) rfl rfl)) ?_
    refine st0 832 rfl (ok (mv (.d (eI y6)))) ?_
    refine stn 896 rfl (mem' := [(128, .var .mine [.d (eI (0 : Int)), .nil 1]), (64, .var .mine [.d (eI a0.PageSize), .d ((eL 1 eU8) a0.Bytes)])]) (ok (sto_v (ps' := [.d (eI (0 : Int)), .nil 1]) rfl rfl rfl rfl)) rfl ?_
    refine st0 960 rfl (ok (mv (.d (eI (0 : Int))))) ?_
    refine st0 1024 rfl (ok (mv (.d (eI y6)))) ?_
    refine hK12 _ _ ?_
    simp only [thenK, blockK, keepE, updM, List.filter_cons, List.filter_nil, List.nil_append, List.cons_append, List.map_cons, List.map_nil, envE, Mem.get, Nat.reduceEqDiff, reduceIte, Option.isNone_none, Option.isNone_some, Bool.false_eq_true, List.length_cons, List.length_nil, Nat.reduceAdd, Nat.reduceMul]
    refine hK11 _ _ _ ?_
    refine rwp_ret ?_
    obtain rfl := Option.some.inj h
    try simp only [thenK, blockK, reduceIte]
    exact end_ok trivial (rs_c (id := 128) (off := 0) (v := .agg [.d (eI (0 : Int)), .nil 1]) rfl rfl rfl rfl (rs_t (v := .d (eI (0 : Int))) rfl (rs_t (v := .d (eI y6)) rfl rs_nil))) (en_d (to_agg (ds_d _ (ds_n eU8 ds_nil)) (x := eTApiFlash (TApiFlash.mk (0 : Int) ([] : List (BitVec 8)))) rfl) (en_d (to_d _) (en_d (to_d _) en_nil))) ou_nil (by first | exact eok rfl rfl rfl rfl trivial | (refine eok ?_ ?_ ?_ ?_ ?_ <;> first | rfl | exact trivial | simp [retM, Mem.get, PV.renL, PV.ren, Blk.ren, comps, rhoR, rhoM, appN, PV.refsL, PV.refs, keys, nodupB, Blk.refs, allIn, Blk.bor]))
  · replace h := ite_f h h10
    refine rwp_f (isF h10) ?_
    refine rwp_skip ?_
    refine hK3 _ _ _ ?_
    refine rwp_seq fun K13 hK13 => ?_
    refine rwp_region fun K14 hK14 => ?_
    refine st0 768 rfl (ok (ld_v (v := .d (.agg [eI a0.PageSize, (eL 1 eU8) a0.Bytes])) rfl rfl rfl)) ?_
    refine st0 832 rfl (ok (mv (.d (eI a1)))) ?_
    refine st0 896 rfl (ok (fa_k 0 rfl)) ?_
    refine st0 960 rfl (ok (ld_v (v := .d (eI a0.PageSize)) rfl rfl rfl)) ?_
    refine st0 1024 rfl (ok (mulI _ _)) ?_
    refine st0 1088 rfl (ok (fa_k 0 rfl)) ?_
    refine st0 1152 rfl (ok (ld_v (v := .d (eI a0.PageSize)) rfl rfl rfl)) ?_
    refine st0 1216 rfl (ok (mv (.d (eI a2)))) ?_
    obtain ⟨y15, h16, h⟩ := bind_inv h
    refine st0 1280 rfl (call_ok (v := .tup [.d (eTApiFlash y15.1), .d (eI y15.2.1), .d (eI y15.2.2)]) (u := []) (ar_d (eTApiFlash (TApiFlash.mk a0.PageSize a0.Bytes)) (ar_d (eI (w64 (a1 * a0.PageSize))) (ar_d (eI a0.PageSize) (ar_to rfl (to_1 rfl (ds_n eU8 ds_nil)) (ar_d (eI a2) ar_nil))))) rfl (passkeyref7changeOK (TApiFlash.mk a0.PageSize a0.Bytes) (w64 (a1 * a0.PageSize)) a0.PageSize ([] : List (BitVec 8)) a2 y15 h16) rfl) ?_
    refine st0 1344 rfl (ok (extr (v := .d (eTApiFlash y15.1)) rfl rfl)) ?_
    refine st0 1408 rfl (ok (extr (v := .d (eI y15.2.1)) rfl rfl)) ?_
    refine st0 1472 rfl (ok (extr (v := .d (eI y15.2.2)) rfl rfl)) ?_
    refine stn 1536 rfl (mem' := [(128, .var .mine [.d (eI y15.1.PageSize), .d ((eL 1 eU8) y15.1.Bytes)]), (64, .var .mine [.d (eI a0.PageSize), .d ((eL 1 eU8) a0.Bytes)])]) (ok (sto_v (ps' := [.d (eI y15.1.PageSize), .d ((eL 1 eU8) y15.1.Bytes)]) rfl rfl rfl rfl)) rfl ?_
    refine st0 1600 rfl (ok (mv (.d (eI y15.2.1)))) ?_
    refine st0 1664 rfl (ok (mv (.d (eI y15.2.2)))) ?_
    refine hK14 _ _ ?_
    simp only [thenK, blockK, keepE, updM, List.filter_cons, List.filter_nil, List.nil_append, List.cons_append, List.map_cons, List.map_nil, envE, Mem.get, Nat.reduceEqDiff, reduceIte, Option.isNone_none, Option.isNone_some, Bool.false_eq_true, List.length_cons, List.length_nil, Nat.reduceAdd, Nat.reduceMul]
    refine hK13 _ _ _ ?_
    refine rwp_ret ?_
    obtain rfl := Option.some.inj h
    try simp only [thenK, blockK, reduceIte]
    exact end_ok trivial (rs_c (id := 128) (off := 0) (v := .d (.agg [eI y15.1.PageSize, (eL 1 eU8) y15.1.Bytes])) rfl rfl rfl rfl (rs_t (v := .d (eI y15.2.1)) rfl (rs_t (v := .d (eI y15.2.2)) rfl rs_nil))) (en_d (to_d _) (en_d (to_d _) (en_d (to_d _) en_nil))) ou_nil (by first | exact eok rfl rfl rfl rfl trivial | (refine eok ?_ ?_ ?_ ?_ ?_ <;> first | rfl | exact trivial | simp [retM, Mem.get, PV.renL, PV.ren, Blk.ren, comps, rhoR, rhoM, appN, PV.refsL, PV.refs, keys, nodupB, Blk.refs, allIn, Blk.bor]))

/-- passkey/passkeylaw7.erases -/
def passkeylaw7erasesH : Hints := ⟨[(0, [1, 2, 3]), (1, [1, 2, 3, 7, 8, 9]), (2, [7, 8, 9, 10, 11, 12]), (3, [6])], []⟩
def passkeylaw7erasesRc : RCode :=
  .seq (.region false [⟨some 3, .box, [.t 0], none, []⟩, ⟨some 6, .mv, [.k (.d (.bool false))], none, []⟩] [1, 2, 3]) (.seq (.region false [⟨some 14, .load 2 true, [.t 3], none, []⟩,
  ⟨some 15, .mv, [.t 1], none, []⟩, ⟨some 16, .mv, [.t 2], none, []⟩, ⟨some 17, .call 29 true, [.t 14, .t 15, .t 16], none, []⟩, ⟨some 13, .mv, [.t 17], none, []⟩, ⟨some 18, .ext
  0, [.t 13], none, []⟩, ⟨some 19, .ext 1, [.t 13], none, []⟩, ⟨some 20, .ext 2, [.t 13], none, []⟩, ⟨some 7, .alloc [.d (.int .i64 0), .nil 1], [], none, []⟩, ⟨none, .store 2, [.t
  7, .t 18], none, []⟩, ⟨some 8, .mv, [.t 19], none, []⟩, ⟨some 9, .mv, [.t 20], none, []⟩] [1, 2, 3, 7, 8, 9]) (.seq (.region false [⟨some 22, .load 2 true, [.t 3], none, []⟩,
  ⟨some 23, .mv, [.t 1], none, []⟩, ⟨some 24, .mv, [.t 2], none, []⟩, ⟨some 25, .call 30 true, [.t 22, .t 23, .t 24], none, []⟩, ⟨some 21, .mv, [.t 25], none, []⟩, ⟨some 26, .ext
  0, [.t 21], none, []⟩, ⟨some 27, .ext 1, [.t 21], none, []⟩, ⟨some 28, .ext 2, [.t 21], none, []⟩, ⟨some 10, .alloc [.d (.int .i64 0), .nil 1], [], none, []⟩, ⟨none, .store 2,
  [.t 10, .t 26], none, []⟩, ⟨some 11, .mv, [.t 27], none, []⟩, ⟨some 12, .mv, [.t 28], none, []⟩] [7, 8, 9, 10, 11, 12]) (.seq (.region false [⟨some 29, .load 2 true, [.t 7],
  none, []⟩, ⟨some 30, .load 2 true, [.t 10], none, []⟩, ⟨some 31, .call 12 false, [.t 29, .t 30], none, []⟩, ⟨some 32, .mv, [.t 31], none, []⟩, ⟨some 33, .mv, [.t 8], some (32,
  true), []⟩, ⟨some 34, .mv, [.t 11], some (32, true), []⟩, ⟨some 35, .bin .eql, [.t 33, .t 34], some (32, true), []⟩, ⟨some 36, .pick, [.t 32, .t 35, .k (.d (.bool false))], none,
  []⟩, ⟨some 37, .mv, [.t 36], none, []⟩, ⟨some 38, .mv, [.t 9], some (37, true), []⟩, ⟨some 39, .mv, [.t 12], some (37, true), []⟩, ⟨some 40, .bin .eql, [.t 38, .t 39], some (37,
  true), []⟩, ⟨some 41, .pick, [.t 37, .t 40, .k (.d (.bool false))], none, []⟩, ⟨some 6, .mv, [.t 41], none, []⟩] [6]) .ret)))
def passkeylaw7erasesRr : List RR := [.t 6]
theorem passkeylaw7erasesC : compFn Try.prog 21 passkeylaw7erasesH = some (passkeylaw7erasesRc, passkeylaw7erasesRr, 42) := by kernel_rfl
theorem passkeylaw7erasesOK (a0 : TApiFlash) (a1 : Int) (a2 : Int) (res : Bool) (h : passkeylaw7erases a0 a1 a2 = some res) : CallOK Try.prog 21 [.d (eTApiFlash a0), .d (eI a1), .d (eI a2)] [] (.d (eB res)) [] := by
  unfold passkeylaw7erases at h
  refine callOK passkeylaw7erasesC fm rfl ?_
  simp only [initE, initM, nbor, List.map_cons, List.map_nil, Nat.reduceAdd]
  unfold passkeylaw7erasesRc
  refine rwp_seq fun K1 hK1 => ?_
  refine rwp_region fun K2 hK2 => ?_
  refine st1 128 rfl (mem' := [(64, .var .mine [.d (eI a0.PageSize), .d ((eL 1 eU8) a0.Bytes)])]) (ok (bx (ps := [.d (eI a0.PageSize), .d ((eL 1 eU8) a0.Bytes)]) rfl rfl)) rfl ?_
  refine st0 192 rfl (ok (mv (.d (eB false)))) ?_
  refine hK2 _ _ ?_
  simp only [thenK, blockK, keepE, updM, List.filter_cons, List.filter_nil, List.nil_append, List.cons_append, List.map_cons, List.map_nil, envE, Mem.get, Nat.reduceEqDiff, reduceIte, Option.isNone_none, Option.isNone_some, Bool.false_eq_true, List.length_cons, List.length_nil, Nat.reduceAdd, Nat.reduceMul]
  refine hK1 _ _ _ ?_
  refine rwp_seq fun K3 hK3 => ?_
  refine rwp_region fun K4 hK4 => ?_
  refine st0 256 rfl (ok (ld_v (v := .d (.agg [eI a0.PageSize, (eL 1 eU8) a0.Bytes])) rfl rfl rfl)) ?_
  refine st0 320 rfl (ok (mv (.d (eI a1)))) ?_
  refine st0 384 rfl (ok (mv (.d (eI a2)))) ?_
  obtain ⟨y5, h6, h⟩ := bind_inv h
  refine st0 448 rfl (call_ok (v := .tup [.d (eTApiFlash y5.1), .d (eI y5.2.1), .d (eI y5.2.2)]) (u := []) (ar_d (eTApiFlash (TApiFlash.mk a0.PageSize a0.Bytes)) (ar_d (eI a1) (ar_d (eI a2) ar_nil))) rfl (flashEraseOK (TApiFlash.mk a0.PageSize a0.Bytes) a1 a2 y5 h6) rfl) ?_
  refine st0 512 rfl (ok (mv (.tup [.d (eTApiFlash y5.1), .d (eI y5.2.1), .d (eI y5.2.2)]))) ?_
  refine st0 576 rfl (ok (extr (v := .d (eTApiFlash y5.1)) rfl rfl)) ?_
  refine st0 640 rfl (ok (extr (v := .d (eI y5.2.1)) rfl rfl)) ?_
  refine st0 704 rfl (ok (extr (v := .d (eI y5.2.2)) rfl rfl)) ?_
  refine st1 768 rfl (mem' := [(704, .var .mine [.d (eI (0 : Int)), .nil 1]), (64, .var .mine [.d (eI a0.PageSize), .d ((eL 1 eU8) a0.Bytes)])]) (ok (alc (zs := [.d (eI (0 : Int)), .nil 1]))) rfl ?_
  refine stn 832 rfl (mem' := [(704, .var .mine [.d (eI y5.1.PageSize), .d ((eL 1 eU8) y5.1.Bytes)]), (64, .var .mine [.d (eI a0.PageSize), .d ((eL 1 eU8) a0.Bytes)])]) (ok (sto_v (ps' := [.d (eI y5.1.PageSize), .d ((eL 1 eU8) y5.1.Bytes)]) rfl rfl rfl rfl)) rfl ?_
  refine st0 896 rfl (ok (mv (.d (eI y5.2.1)))) ?_
  refine st0 960 rfl (ok (mv (.d (eI y5.2.2)))) ?_
  refine hK4 _ _ ?_
  simp only [thenK, blockK, keepE, updM, List.filter_cons, List.filter_nil, List.nil_append, List.cons_append, List.map_cons, List.map_nil, envE, Mem.get, Nat.reduceEqDiff, reduceIte, Option.isNone_none, Option.isNone_some, Bool.false_eq_true, List.length_cons, List.length_nil, Nat.reduceAdd, Nat.reduceMul]
  refine hK3 _ _ _ ?_
  refine rwp_seq fun K7 hK7 => ?_
  refine rwp_region fun K8 hK8 => ?_
  refine st0 1024 rfl (ok (ld_v (v := .d (.agg [eI a0.PageSize, (eL 1 eU8) a0.Bytes])) rfl rfl rfl)) ?_
  refine st0 1088 rfl (ok (mv (.d (eI a1)))) ?_
  refine st0 1152 rfl (ok (mv (.d (eI a2)))) ?_
  obtain ⟨y9, h10, h⟩ := bind_inv h
  refine st0 1216 rfl (call_ok (v := .tup [.d (eTApiFlash y9.1), .d (eI y9.2.1), .d (eI y9.2.2)]) (u := []) (ar_d (eTApiFlash (TApiFlash.mk a0.PageSize a0.Bytes)) (ar_d (eI a1) (ar_d (eI a2) ar_nil))) rfl (passkeyref7EraseOK (TApiFlash.mk a0.PageSize a0.Bytes) a1 a2 y9 h10) rfl) ?_
  refine st0 1280 rfl (ok (mv (.tup [.d (eTApiFlash y9.1), .d (eI y9.2.1), .d (eI y9.2.2)]))) ?_
  refine st0 1344 rfl (ok (extr (v := .d (eTApiFlash y9.1)) rfl rfl)) ?_
  refine st0 1408 rfl (ok (extr (v := .d (eI y9.2.1)) rfl rfl)) ?_
  refine st0 1472 rfl (ok (extr (v := .d (eI y9.2.2)) rfl rfl)) ?_
  refine st1 1536 rfl (mem' := [(1472, .var .mine [.d (eI (0 : Int)), .nil 1]), (704, .var .mine [.d (eI y5.1.PageSize), .d ((eL 1 eU8) y5.1.Bytes)]), (64, .var .mine [.d (eI a0.PageSize), .d ((eL 1 eU8) a0.Bytes)])]) (ok (alc (zs := [.d (eI (0 : Int)), .nil 1]))) rfl ?_
  refine stn 1600 rfl (mem' := [(1472, .var .mine [.d (eI y9.1.PageSize), .d ((eL 1 eU8) y9.1.Bytes)]), (704, .var .mine [.d (eI y5.1.PageSize), .d ((eL 1 eU8) y5.1.Bytes)]), (64, .var .mine [.d (eI a0.PageSize), .d ((eL 1 eU8) a0.Bytes)])]) (ok (sto_v (ps' := [.d (eI y9.1.PageSize), .d ((eL 1 eU8) y9.1.Bytes)]) rfl rfl rfl rfl)) rfl ?_
  refine st0 1664 rfl (ok (mv (.d (eI y9.2.1)))) ?_
  refine st0 1728 rfl (ok (mv (.d (eI y9.2.2)))) ?_
  refine hK8 _ _ ?_
  simp only [thenK, blockK, keepE, updM, List.filter_cons, List.filter_nil, List.nil_append, List.cons_append, List.map_cons, List.map_nil, envE, Mem.get, Nat.reduceEqDiff, reduceIte, Option.isNone_none, Option.isNone_some, Bool.false_eq_true, List.length_cons, List.length_nil, Nat.reduceAdd, Nat.reduceMul]
  refine hK7 _ _ _ ?_
  refine rwp_seq fun K11 hK11 => ?_
  refine rwp_region fun K12 hK12 => ?_
  refine st0 1792 rfl (ok (ld_v (v := .d (.agg [eI y5.1.PageSize, (eL 1 eU8) y5.1.Bytes])) rfl rfl rfl)) ?_
  refine st0 1856 rfl (ok (ld_v (v := .d (.agg [eI y9.1.PageSize, (eL 1 eU8) y9.1.Bytes])) rfl rfl rfl)) ?_
  obtain ⟨y13, h14, h⟩ := bind_inv h
  refine st0 1920 rfl (call_ok (v := .d (eB y13)) (u := []) (ar_d (eTApiFlash (TApiFlash.mk y5.1.PageSize y5.1.Bytes)) (ar_d (eTApiFlash (TApiFlash.mk y9.1.PageSize y9.1.Bytes)) ar_nil)) rfl (passkeyref7SameFlashOK (TApiFlash.mk y5.1.PageSize y5.1.Bytes) (TApiFlash.mk y9.1.PageSize y9.1.Bytes) y13 h14) rfl) ?_
  refine st0 1984 rfl (ok (mv (.d (eB y13)))) ?_
  rcases Bool.eq_false_or_eq_true (y13) with h15 | h15
  · replace h := ite_t h h15
    refine stG (isT h15) ?_
    refine st0 2048 rfl (ok (mv (.d (eI y5.2.1)))) ?_
    refine stG (isT h15) ?_
    refine st0 2112 rfl (ok (mv (.d (eI y9.2.1)))) ?_
    refine stG (isT h15) ?_
    refine st0 2176 rfl (ok (eqlI _ _)) ?_
    refine st0 2240 rfl (ok (pick_t h15 (.d (eB (y5.2.1 == y9.2.1))) _)) ?_
    refine st0 2304 rfl (ok (mv (.d (eB (y5.2.1 == y9.2.1))))) ?_
    rcases Bool.eq_false_or_eq_true ((y5.2.1 == y9.2.1)) with h16 | h16
    · replace h := ite_t h h16
      refine stG (isT h16) ?_
      refine st0 2368 rfl (ok (mv (.d (eI y5.2.2)))) ?_
      refine stG (isT h16) ?_
      refine st0 2432 rfl (ok (mv (.d (eI y9.2.2)))) ?_
      refine stG (isT h16) ?_
      refine st0 2496 rfl (ok (eqlI _ _)) ?_
      refine st0 2560 rfl (ok (pick_t h16 (.d (eB (y5.2.2 == y9.2.2))) _)) ?_
      refine st0 2624 rfl (ok (mv (.d (eB (y5.2.2 == y9.2.2))))) ?_
      refine hK12 _ _ ?_
      simp only [thenK, blockK, keepE, updM, List.filter_cons, List.filter_nil, List.nil_append, List.cons_append, List.map_cons, List.map_nil, envE, Mem.get, Nat.reduceEqDiff, reduceIte, Option.isNone_none, Option.isNone_some, Bool.false_eq_true, List.length_cons, List.length_nil, Nat.reduceAdd, Nat.reduceMul]
      refine hK11 _ _ _ ?_
      refine rwp_ret ?_
      obtain rfl := Option.some.inj h
      try simp only [thenK, blockK, reduceIte]
      exact end_ok trivial (rs_t (v := .d (eB (y5.2.2 == y9.2.2))) rfl rs_nil) (en_d (to_d _) en_nil) ou_nil (by first | exact eok rfl rfl rfl rfl trivial | (refine eok ?_ ?_ ?_ ?_ ?_ <;> first | rfl | exact trivial | simp [retM, Mem.get, PV.renL, PV.ren, Blk.ren, comps, rhoR, rhoM, appN, PV.refsL, PV.refs, keys, nodupB, Blk.refs, allIn, Blk.bor]))
    · replace h := ite_f h h16
      refine stGN 2368 rfl rfl h16 ?_
      refine stGN 2432 rfl rfl h16 ?_
      refine stGN 2496 rfl rfl h16 ?_
      refine st0 2560 rfl (ok (pick_f h16 _ (.d (eB false)))) ?_
      refine st0 2624 rfl (ok (mv (.d (eB false)))) ?_
      refine hK12 _ _ ?_
      simp only [thenK, blockK, keepE, updM, List.filter_cons, List.filter_nil, List.nil_append, List.cons_append, List.map_cons, List.map_nil, envE, Mem.get, Nat.reduceEqDiff, reduceIte, Option.isNone_none, Option.isNone_some, Bool.false_eq_true, List.length_cons, List.length_nil, Nat.reduceAdd, Nat.reduceMul]
      refine hK11 _ _ _ ?_
      refine rwp_ret ?_
      obtain rfl := Option.some.inj h
      try simp only [thenK, blockK, reduceIte]
      exact end_ok trivial (rs_t (v := .d (eB false)) rfl rs_nil) (en_d (to_d _) en_nil) ou_nil (by first | exact eok rfl rfl rfl rfl trivial | (refine eok ?_ ?_ ?_ ?_ ?_ <;> first | rfl | exact trivial | simp [retM, Mem.get, PV.renL, PV.ren, Blk.ren, comps, rhoR, rhoM, appN, PV.refsL, PV.refs, keys, nodupB, Blk.refs, allIn, Blk.bor]))
  · replace h := ite_f h h15
    refine stGN 2048 rfl rfl h15 ?_
    refine stGN 2112 rfl rfl h15 ?_
    refine stGN 2176 rfl rfl h15 ?_
    refine st0 2240 rfl (ok (pick_f h15 _ (.d (eB false)))) ?_
    refine st0 2304 rfl (ok (mv (.d (eB false)))) ?_
    refine stGN 2368 rfl rfl rfl ?_
    refine stGN 2432 rfl rfl rfl ?_
    refine stGN 2496 rfl rfl rfl ?_
    refine st0 2560 rfl (ok (pick_f rfl _ (.d (eB false)))) ?_
    refine st0 2624 rfl (ok (mv (.d (eB false)))) ?_
    refine hK12 _ _ ?_
    simp only [thenK, blockK, keepE, updM, List.filter_cons, List.filter_nil, List.nil_append, List.cons_append, List.map_cons, List.map_nil, envE, Mem.get, Nat.reduceEqDiff, reduceIte, Option.isNone_none, Option.isNone_some, Bool.false_eq_true, List.length_cons, List.length_nil, Nat.reduceAdd, Nat.reduceMul]
    refine hK11 _ _ _ ?_
    refine rwp_ret ?_
    obtain rfl := Option.some.inj h
    try simp only [thenK, blockK, reduceIte]
    exact end_ok trivial (rs_t (v := .d (eB false)) rfl rs_nil) (en_d (to_d _) en_nil) ou_nil (by first | exact eok rfl rfl rfl rfl trivial | (refine eok ?_ ?_ ?_ ?_ ?_ <;> first | rfl | exact trivial | simp [retM, Mem.get, PV.renL, PV.ren, Blk.ren, comps, rhoR, rhoM, appN, PV.refsL, PV.refs, keys, nodupB, Blk.refs, allIn, Blk.bor]))

/-- passkey/passkeylaw7.FlashErases -/
def passkeylaw7FlashErasesH : Hints := ⟨[(0, [0, 1, 2, 3, 4]), (1, [2, 3, 11]), (2, [10])], []⟩
def passkeylaw7FlashErasesRc : RCode :=
  .seq (.region false [⟨some 10, .mv, [.k (.d (.bool false))], none, []⟩] [0, 1, 2, 3, 4]) (.seq (.region false [⟨some 12, .mv, [.t 0], none, []⟩, ⟨some 13, .mv, [.t 1], none, []⟩,
  ⟨some 14, .call 16 true, [.t 12, .t 13], none, []⟩, ⟨some 15, .mv, [.t 4], none, []⟩, ⟨some 16, .call 15 true, [.t 14, .t 15], none, []⟩, ⟨some 11, .alloc [.d (.int .i64 0), .nil
  1], [], none, []⟩, ⟨none, .store 2, [.t 11, .t 16], none, []⟩] [2, 3, 11]) (.seq (.region false [⟨some 17, .load 2 true, [.t 11], none, []⟩, ⟨some 18, .mv, [.t 2], none, []⟩,
  ⟨some 19, .bin .and, [.t 18, .k (.d (.int .i64 3))], none, []⟩, ⟨some 20, .mv, [.t 3], none, []⟩, ⟨some 21, .bin .and, [.t 20, .k (.d (.int .i64 1023))], none, []⟩, ⟨some 22,
  .bin .sub, [.t 21, .k (.d (.int .i64 20))], none, []⟩, ⟨some 23, .call 21 false, [.t 17, .t 19, .t 22], none, []⟩, ⟨some 24, .mv, [.t 23], none, []⟩, ⟨some 25, .load 2 true, [.t
  11], some (24, true), []⟩, ⟨some 26, .mv, [.t 2], some (24, true), []⟩, ⟨some 27, .mv, [.t 3], some (24, true), []⟩, ⟨some 28, .call 21 false, [.t 25, .t 26, .t 27], some (24,
  true), []⟩, ⟨some 29, .pick, [.t 24, .t 28, .k (.d (.bool false))], none, []⟩, ⟨some 30, .mv, [.t 29], none, []⟩, ⟨some 31, .call 9 false, [], some (30, true), []⟩, ⟨some 32,
  .pick, [.t 30, .t 31, .k (.d (.bool false))], none, []⟩, ⟨some 10, .mv, [.t 32], none, []⟩] [10]) .ret))
def passkeylaw7FlashErasesRr : List RR := [.t 10]
theorem passkeylaw7FlashErasesC : compFn Try.prog 8 passkeylaw7FlashErasesH = some (passkeylaw7FlashErasesRc, passkeylaw7FlashErasesRr, 33) := by kernel_rfl
theorem passkeylaw7FlashErasesOK (a0 : Int) (a1 : List (Int)) (a2 : Int) (a3 : Int) (a4 : Int) (res : Bool) (h : passkeylaw7FlashErases a0 a1 a2 a3 a4 = some res) : CallOK Try.prog 8 [.d (eI a0), .d ((eL 1 eI) a1), .d (eI a2), .d (eI a3), .d (eI a4)] [] (.d (eB res)) [] := by
  unfold passkeylaw7FlashErases at h
  refine callOK passkeylaw7FlashErasesC fm rfl ?_
  simp only [initE, initM, nbor, List.map_cons, List.map_nil, Nat.reduceAdd]
  unfold passkeylaw7FlashErasesRc
  refine rwp_seq fun K1 hK1 => ?_
  refine rwp_region fun K2 hK2 => ?_
  refine st0 128 rfl (ok (mv (.d (eB false)))) ?_
  refine hK2 _ _ ?_
  simp only [thenK, blockK, keepE, updM, List.filter_cons, List.filter_nil, List.nil_append, List.cons_append, List.map_cons, List.map_nil, envE, Mem.get, Nat.reduceEqDiff, reduceIte, Option.isNone_none, Option.isNone_some, Bool.false_eq_true, List.length_cons, List.length_nil, Nat.reduceAdd, Nat.reduceMul]
  refine hK1 _ _ _ ?_
  refine rwp_seq fun K3 hK3 => ?_
  refine rwp_region fun K4 hK4 => ?_
  refine st0 192 rfl (ok (mv (.d (eI a0)))) ?_
  refine st0 256 rfl (ok (mv (.d ((eL 1 eI) a1)))) ?_
  obtain ⟨y5, h6, h⟩ := bind_inv h
  refine st0 320 rfl (call_ok (v := .d (eTApiFlash y5)) (u := []) (ar_d (eI a0) (ar_d ((eL 1 eI) a1) ar_nil)) rfl (passkeylaw7madeOK a0 a1 y5 h6) rfl) ?_
  refine st0 384 rfl (ok (mv (.d (eI a4)))) ?_
  obtain ⟨y7, h8, h⟩ := bind_inv h
  refine st0 448 rfl (call_ok (v := .d (eTApiFlash y7)) (u := []) (ar_d (eTApiFlash y5) (ar_d (eI a4) ar_nil)) rfl (passkeylaw7spoilOK y5 a4 y7 h8) rfl) ?_
  refine st1 512 rfl (mem' := [(448, .var .mine [.d (eI (0 : Int)), .nil 1])]) (ok (alc (zs := [.d (eI (0 : Int)), .nil 1]))) rfl ?_
  refine stn 576 rfl (mem' := [(448, .var .mine [.d (eI y7.PageSize), .d ((eL 1 eU8) y7.Bytes)])]) (ok (sto_v (ps' := [.d (eI y7.PageSize), .d ((eL 1 eU8) y7.Bytes)]) rfl rfl rfl rfl)) rfl ?_
  refine hK4 _ _ ?_
  simp only [thenK, blockK, keepE, updM, List.filter_cons, List.filter_nil, List.nil_append, List.cons_append, List.map_cons, List.map_nil, envE, Mem.get, Nat.reduceEqDiff, reduceIte, Option.isNone_none, Option.isNone_some, Bool.false_eq_true, List.length_cons, List.length_nil, Nat.reduceAdd, Nat.reduceMul]
  refine hK3 _ _ _ ?_
  refine rwp_seq fun K9 hK9 => ?_
  refine rwp_region fun K10 hK10 => ?_
  refine st0 640 rfl (ok (ld_v (v := .d (.agg [eI y7.PageSize, (eL 1 eU8) y7.Bytes])) rfl rfl rfl)) ?_
  refine st0 704 rfl (ok (mv (.d (eI a2)))) ?_
  refine st0 768 rfl (ok (andI _ (3 : Int))) ?_
  refine st0 832 rfl (ok (mv (.d (eI a3)))) ?_
  refine st0 896 rfl (ok (andI _ (1023 : Int))) ?_
  refine st0 960 rfl (ok (subI _ (20 : Int))) ?_
  obtain ⟨y11, h12, h⟩ := bind_inv h
  refine st0 1024 rfl (call_ok (v := .d (eB y11)) (u := []) (ar_d (eTApiFlash (TApiFlash.mk y7.PageSize y7.Bytes)) (ar_d (eI (ibits .and .i64 a2 (3 : Int))) (ar_d (eI (w64 ((ibits .and .i64 a3 (1023 : Int)) - (20 : Int)))) ar_nil))) rfl (passkeylaw7erasesOK (TApiFlash.mk y7.PageSize y7.Bytes) (ibits .and .i64 a2 (3 : Int)) (w64 ((ibits .and .i64 a3 (1023 : Int)) - (20 : Int))) y11 h12) rfl) ?_
  refine st0 1088 rfl (ok (mv (.d (eB y11)))) ?_
  rcases Bool.eq_false_or_eq_true (y11) with h13 | h13
  · replace h := ite_t h h13
    refine stG (isT h13) ?_
    refine st0 1152 rfl (ok (ld_v (v := .d (.agg [eI y7.PageSize, (eL 1 eU8) y7.Bytes])) rfl rfl rfl)) ?_
    refine stG (isT h13) ?_
    refine st0 1216 rfl (ok (mv (.d (eI a2)))) ?_
    refine stG (isT h13) ?_
    refine st0 1280 rfl (ok (mv (.d (eI a3)))) ?_
    refine stG (isT h13) ?_
    obtain ⟨y14, h15, h⟩ := bind_inv h
    refine st0 1344 rfl (call_ok (v := .d (eB y14)) (u := []) (ar_d (eTApiFlash (TApiFlash.mk y7.PageSize y7.Bytes)) (ar_d (eI a2) (ar_d (eI a3) ar_nil))) rfl (passkeylaw7erasesOK (TApiFlash.mk y7.PageSize y7.Bytes) a2 a3 y14 h15) rfl) ?_
    refine st0 1408 rfl (ok (pick_t h13 (.d (eB y14)) _)) ?_
    refine st0 1472 rfl (ok (mv (.d (eB y14)))) ?_
    rcases Bool.eq_false_or_eq_true (y14) with h16 | h16
    · replace h := ite_t h h16
      refine stG (isT h16) ?_
      obtain ⟨y17, h18, h⟩ := bind_inv h
      refine st0 1536 rfl (call_ok (v := .d (eB y17)) (u := []) ar_nil rfl (passkeylaw7awakeOK  y17 h18) rfl) ?_
      refine st0 1600 rfl (ok (pick_t h16 (.d (eB y17)) _)) ?_
      refine st0 1664 rfl (ok (mv (.d (eB y17)))) ?_
      refine hK10 _ _ ?_
      simp only [thenK, blockK, keepE, updM, List.filter_cons, List.filter_nil, List.nil_append, List.cons_append, List.map_cons, List.map_nil, envE, Mem.get, Nat.reduceEqDiff, reduceIte, Option.isNone_none, Option.isNone_some, Bool.false_eq_true, List.length_cons, List.length_nil, Nat.reduceAdd, Nat.reduceMul]
      refine hK9 _ _ _ ?_
      refine rwp_ret ?_
      obtain rfl := Option.some.inj h
      try simp only [thenK, blockK, reduceIte]
      exact end_ok trivial (rs_t (v := .d (eB y17)) rfl rs_nil) (en_d (to_d _) en_nil) ou_nil (by first | exact eok rfl rfl rfl rfl trivial | (refine eok ?_ ?_ ?_ ?_ ?_ <;> first | rfl | exact trivial | simp [retM, Mem.get, PV.renL, PV.ren, Blk.ren, comps, rhoR, rhoM, appN, PV.refsL, PV.refs, keys, nodupB, Blk.refs, allIn, Blk.bor]))
    · replace h := ite_f h h16
      refine stGN 1536 rfl rfl h16 ?_
      refine st0 1600 rfl (ok (pick_f h16 _ (.d (eB false)))) ?_
      refine st0 1664 rfl (ok (mv (.d (eB false)))) ?_
      refine hK10 _ _ ?_
      simp only [thenK, blockK, keepE, updM, List.filter_cons, List.filter_nil, List.nil_append, List.cons_append, List.map_cons, List.map_nil, envE, Mem.get, Nat.reduceEqDiff, reduceIte, Option.isNone_none, Option.isNone_some, Bool.false_eq_true, List.length_cons, List.length_nil, Nat.reduceAdd, Nat.reduceMul]
      refine hK9 _ _ _ ?_
      refine rwp_ret ?_
      obtain rfl := Option.some.inj h
      try simp only [thenK, blockK, reduceIte]
      exact end_ok trivial (rs_t (v := .d (eB false)) rfl rs_nil) (en_d (to_d _) en_nil) ou_nil (by first | exact eok rfl rfl rfl rfl trivial | (refine eok ?_ ?_ ?_ ?_ ?_ <;> first | rfl | exact trivial | simp [retM, Mem.get, PV.renL, PV.ren, Blk.ren, comps, rhoR, rhoM, appN, PV.refsL, PV.refs, keys, nodupB, Blk.refs, allIn, Blk.bor]))
  · replace h := ite_f h h13
    refine stGN 1152 rfl rfl h13 ?_
    refine stGN 1216 rfl rfl h13 ?_
    refine stGN 1280 rfl rfl h13 ?_
    refine stGN 1344 rfl rfl h13 ?_
    refine st0 1408 rfl (ok (pick_f h13 _ (.d (eB false)))) ?_
    refine st0 1472 rfl (ok (mv (.d (eB false)))) ?_
    refine stGN 1536 rfl rfl rfl ?_
    refine st0 1600 rfl (ok (pick_f rfl _ (.d (eB false)))) ?_
    refine st0 1664 rfl (ok (mv (.d (eB false)))) ?_
    refine hK10 _ _ ?_
    simp only [thenK, blockK, keepE, updM, List.filter_cons, List.filter_nil, List.nil_append, List.cons_append, List.map_cons, List.map_nil, envE, Mem.get, Nat.reduceEqDiff, reduceIte, Option.isNone_none, Option.isNone_some, Bool.false_eq_true, List.length_cons, List.length_nil, Nat.reduceAdd, Nat.reduceMul]
    refine hK9 _ _ _ ?_
    refine rwp_ret ?_
    obtain rfl := Option.some.inj h
    try simp only [thenK, blockK, reduceIte]
    exact end_ok trivial (rs_t (v := .d (eB false)) rfl rs_nil) (en_d (to_d _) en_nil) ou_nil (by first | exact eok rfl rfl rfl rfl trivial | (refine eok ?_ ?_ ?_ ?_ ?_ <;> first | rfl | exact trivial | simp [retM, Mem.get, PV.renL, PV.ren, Blk.ren, comps, rhoR, rhoM, appN, PV.refsL, PV.refs, keys, nodupB, Blk.refs, allIn, Blk.bor]))

end Go.Proofs.Ty
