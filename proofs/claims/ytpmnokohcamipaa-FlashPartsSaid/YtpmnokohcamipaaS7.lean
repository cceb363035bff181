/- Each Go function comes to what its plain function says. PRINTED by a program of this session (ty.py). -/
import Derived.Test.YtpmnokohcamipaaS6
set_option linter.unusedVariables false
set_option linter.unusedSimpArgs false
set_option maxHeartbeats 4000000
set_option maxRecDepth 10000
namespace Go.Proofs.Ty
open Go Go.RW Go.Proofs
/-- passkey/passkeyref7.change -/
def passkeyref7changeH : Hints := ⟨[(0, [1, 2, 3, 4, 5, 10]), (1, [1, 2, 3, 4, 5, 10]), (2, [1, 2, 3, 4, 5, 10, 13]), (3, [1, 2, 3, 4, 5, 10, 13, 20]), (5, [1, 2, 3, 4, 5, 10, 13, 24]), (6, [10, 11, 12]), (7, [1, 2, 3, 4, 5, 10, 13, 28]), (8, [1, 2, 3, 4, 5, 10, 13]), (9, [1, 2, 3, 4, 5, 10, 13]), (10, [1, 2, 3, 4, 5, 10, 13, 49]), (11, [1, 2, 3, 4, 5, 10, 13]), (4, [1, 2, 3, 4, 5, 10, 13]), (12, [10, 11, 12])], []⟩
def passkeyref7changeRc : RCode :=
  .seq (.region false [⟨some 5, .box, [.t 0], none, []⟩, ⟨some 10, .alloc [.d (.int .i64 0), .nil 1], [], none, []⟩, ⟨some 11, .mv, [.k (.d (.int .i64 0))], none, []⟩, ⟨some 12, .mv,
  [.k (.d (.int .i64 0))], none, []⟩] [1, 2, 3, 4, 5, 10]) (.seq (.region false [⟨some 14, .fa 1, [.t 5], none, []⟩, ⟨some 15, .load 1 false, [.t 14], none, []⟩, ⟨some 16, .app 1
  140737488355328, [.k (.nil 1), .t 15], none, []⟩, ⟨some 17, .fa 1, [.t 5], none, []⟩, ⟨none, .store 1, [.t 17, .t 16], none, []⟩] [1, 2, 3, 4, 5, 10]) (.seq (.seq (.region false
  [⟨some 13, .mv, [.k (.d (.int .i64 0))], none, []⟩] [1, 2, 3, 4, 5, 10, 13]) (.block 0 (.loop [] (.seq (.seq (.region false [⟨some 18, .mv, [.t 13], none, []⟩, ⟨some 19, .mv, [.t
  2], none, []⟩, ⟨some 20, .bin .lss, [.t 18, .t 19], none, []⟩] [1, 2, 3, 4, 5, 10, 13, 20]) (.cond (.t 20) .skip (.exit 0))) (.seq (.block 1 (.seq (.seq (.region false [⟨some 23,
  .mv, [.t 4], none, []⟩, ⟨some 24, .bin .eql, [.t 23, .k (.d (.int .i64 0))], none, []⟩] [1, 2, 3, 4, 5, 10, 13, 24]) (.cond (.t 24) (.seq (.region false [⟨some 25, .load 2 true,
  [.t 5], none, []⟩, ⟨none, .store 2, [.t 10, .t 25], none, []⟩, ⟨some 11, .mv, [.k (.d (.int .i64 0))], none, []⟩, ⟨some 12, .mv, [.k (.d (.int .i64 16))], none, []⟩] [10, 11,
  12]) .ret) .skip)) (.seq (.seq (.region false [⟨some 26, .mv, [.t 3], none, []⟩, ⟨some 27, .len, [.t 26], none, []⟩, ⟨some 28, .bin .eql, [.t 27, .k (.d (.int .i64 0))], none,
  []⟩] [1, 2, 3, 4, 5, 10, 13, 28]) (.cond (.t 28) (.region false [⟨some 29, .fa 1, [.t 5], none, []⟩, ⟨some 30, .load 1 false, [.t 29], none, []⟩, ⟨some 31, .mv, [.t 1], none,
  []⟩, ⟨some 32, .mv, [.t 13], none, []⟩, ⟨some 33, .bin .add, [.t 31, .t 32], none, []⟩, ⟨some 34, .ia 1, [.t 30, .t 33], none, []⟩, ⟨none, .store 1, [.t 34, .k (.d (.int .u8
  255))], none, []⟩] [1, 2, 3, 4, 5, 10, 13]) (.region true [⟨some 35, .fa 1, [.t 5], none, []⟩, ⟨some 36, .load 1 false, [.t 35], none, [0]⟩, ⟨some 37, .mv, [.t 1], none, []⟩,
  ⟨some 38, .mv, [.t 13], none, []⟩, ⟨some 39, .bin .add, [.t 37, .t 38], none, [2, 3]⟩, ⟨some 40, .ia 1, [.t 36, .t 39], none, [0, 1, 2, 3, 4]⟩, ⟨some 41, .load 1 false, [.t 40],
  none, [0, 1, 2, 3, 4, 5]⟩, ⟨some 42, .mv, [.t 3], none, []⟩, ⟨some 43, .mv, [.t 13], none, []⟩, ⟨some 44, .ia 1, [.t 42, .t 43], none, [7, 8]⟩, ⟨some 45, .load 1 false, [.t 44],
  none, [7, 8, 9]⟩, ⟨some 46, .bin .and, [.t 41, .t 45], none, [0, 1, 2, 3, 4, 5, 6, 7, 8, 9, 10]⟩, ⟨some 47, .ia 1, [.t 36, .t 39], none, [0, 1, 2, 3, 4, 5, 6, 7, 8, 9, 10, 11]⟩,
  ⟨none, .store 1, [.t 47, .t 46], none, [0, 1, 2, 3, 4, 5, 6, 7, 8, 9, 10, 11, 12]⟩] [1, 2, 3, 4, 5, 10, 13]))) (.seq (.region false [⟨some 48, .mv, [.t 4], none, []⟩, ⟨some 49,
  .bin .gtr, [.t 48, .k (.d (.int .i64 0))], none, []⟩] [1, 2, 3, 4, 5, 10, 13, 49]) (.cond (.t 49) (.region false [⟨some 50, .mv, [.t 4], none, []⟩, ⟨some 51, .bin .sub, [.t 50,
  .k (.d (.int .i64 1))], none, []⟩, ⟨some 4, .mv, [.t 51], none, []⟩] [1, 2, 3, 4, 5, 10, 13]) .skip))))) (.region false [⟨some 21, .mv, [.t 13], none, []⟩, ⟨some 22, .bin .add,
  [.t 21, .k (.d (.int .i64 1))], none, []⟩, ⟨some 13, .mv, [.t 22], none, []⟩] [1, 2, 3, 4, 5, 10, 13])))))) (.seq (.region false [⟨some 52, .load 2 true, [.t 5], none, []⟩, ⟨some
  53, .mv, [.t 4], none, []⟩, ⟨none, .store 2, [.t 10, .t 52], none, []⟩, ⟨some 11, .mv, [.t 53], none, []⟩, ⟨some 12, .mv, [.k (.d (.int .i64 0))], none, []⟩] [10, 11, 12])
  .ret)))
def passkeyref7changeRr : List RR := [.c 10 2 true, .t 11, .t 12]
theorem passkeyref7changeC : compFn Try.prog 31 passkeyref7changeH = some (passkeyref7changeRc, passkeyref7changeRr, 54) := by kernel_rfl
theorem passkeyref7changeOK (a0 : TApiFlash) (a1 : Int) (a2 : Int) (a3 : List (BitVec 8)) (a4 : Int) (res : TApiFlash × Int × Int) (h : passkeyref7change a0 a1 a2 a3 a4 = some res) : CallOK Try.prog 31 [.d (eTApiFlash a0), .d (eI a1), .d (eI a2), .d ((eL 1 eU8) a3), .d (eI a4)] [] (.tup [.d (eTApiFlash res.1), .d (eI res.2.1), .d (eI res.2.2)]) [] := by
  unfold passkeyref7change at h
  refine callOK passkeyref7changeC fm rfl ?_
  simp only [initE, initM, nbor, List.map_cons, List.map_nil, Nat.reduceAdd]
  unfold passkeyref7changeRc
  refine rwp_seq fun K1 hK1 => ?_
  refine rwp_region fun K2 hK2 => ?_
  refine st1 128 rfl (mem' := [(64, .var .mine [.d (eI a0.PageSize), .d ((eL 1 eU8) a0.Bytes)])]) (ok (bx (ps := [.d (eI a0.PageSize), .d ((eL 1 eU8) a0.Bytes)]) rfl rfl)) rfl ?_
  refine st1 192 rfl (mem' := [(128, .var .mine [.d (eI (0 : Int)), .nil 1]), (64, .var .mine [.d (eI a0.PageSize), .d ((eL 1 eU8) a0.Bytes)])]) (ok (alc (zs := [.d (eI (0 : Int)), .nil 1]))) rfl ?_
  refine st0 256 rfl (ok (mv (.d (eI (0 : Int))))) ?_
  refine st0 320 rfl (ok (mv (.d (eI (0 : Int))))) ?_
  refine hK2 _ _ ?_
  simp only [thenK, blockK, keepE, updM, List.filter_cons, List.filter_nil, List.nil_append, List.cons_append, List.map_cons, List.map_nil, envE, Mem.get, Nat.reduceEqDiff, reduceIte, Option.isNone_none, Option.isNone_some, Bool.false_eq_true, List.length_cons, List.length_nil, Nat.reduceAdd, Nat.reduceMul]
  refine hK1 _ _ _ ?_
  refine rwp_seq fun K3 hK3 => ?_
  refine rwp_region fun K4 hK4 => ?_
  refine st0 384 rfl (ok (fa_k 1 rfl)) ?_
  refine st0 448 rfl (ok (ld_v (v := .d ((eL 1 eU8) a0.Bytes)) rfl rfl rfl)) ?_
  obtain ⟨h5, h⟩ := asq_inv h
  refine st1 512 rfl (mem' := [(448, .row true 1 (a0.Bytes.map eU8)), (128, .var .mine [.d (eI (0 : Int)), .nil 1]), (64, .var .mine [.d (eI a0.PageSize), .d ((eL 1 eU8) a0.Bytes)])]) (ok (appN0 (e := eU8) (ys := a0.Bytes) contL h5)) rfl ?_
  refine st0 576 rfl (ok (fa_k 1 rfl)) ?_
  refine stn 640 rfl (mem' := [(64, .var .mine [.d (eI a0.PageSize), .ref 448 a0.Bytes.length 0 a0.Bytes.length]), (448, .row true 1 (a0.Bytes.map eU8)), (128, .var .mine [.d (eI (0 : Int)), .nil 1])]) (ok (sto_v (ps' := [.d (eI a0.PageSize), .ref 448 a0.Bytes.length 0 a0.Bytes.length]) rfl rfl rfl rfl)) rfl ?_
  refine hK4 _ _ ?_
  simp only [thenK, blockK, keepE, updM, List.filter_cons, List.filter_nil, List.nil_append, List.cons_append, List.map_cons, List.map_nil, envE, Mem.get, Nat.reduceEqDiff, reduceIte, Option.isNone_none, Option.isNone_some, Bool.false_eq_true, List.length_cons, List.length_nil, Nat.reduceAdd, Nat.reduceMul]
  refine hK3 _ _ _ ?_
  refine rwp_join ([], []) 3136 (fun env mem => ∃ (v6 : Int) (v7 : List (BitVec 8)), passkeyref7changeJ1 a0 v6 v7 = some res ∧ env = [(4, .d (eI v6)), (5, .ptr 64 0), (10, .ptr 128 0)] ∧ mem = [(64, .var .mine [.d (eI a0.PageSize), .ref 448 v7.length 0 v7.length]), (448, .row true 1 (v7.map eU8)), (128, .var .mine [.d (eI (0 : Int)), .nil 1])]) (fun _ _ hI => ?_) (fun K8 hK8 => ?_)
  · obtain ⟨v6, v7, h, rfl, rfl⟩ := hI
    unfold passkeyref7changeJ1 at h
    refine rwp_seq fun K9 hK9 => ?_
    refine rwp_region fun K10 hK10 => ?_
    refine st0 3200 rfl (ok (ld_v (v := .agg [.d (eI a0.PageSize), .ref 448 v7.length 0 v7.length]) rfl rfl rfl)) ?_
    refine st0 3264 rfl (ok (mv (.d (eI v6)))) ?_
    refine stn 3328 rfl (mem' := [(128, .var .mine [.d (eI a0.PageSize), .ref 448 v7.length 0 v7.length]), (64, .var .mine [.d (eI a0.PageSize), .ref 448 v7.length 0 v7.length]), (448, .row true 1 (v7.map eU8))]) (ok (sto_v (ps' := [.d (eI a0.PageSize), .ref 448 v7.length 0 v7.length]) rfl rfl rfl rfl)) rfl ?_
    refine st0 3392 rfl (ok (mv (.d (eI v6)))) ?_
    refine st0 3456 rfl (ok (mv (.d (eI (0 : Int))))) ?_
    refine hK10 _ _ ?_
    simp only [thenK, blockK, keepE, updM, List.filter_cons, List.filter_nil, List.nil_append, List.cons_append, List.map_cons, List.map_nil, envE, Mem.get, Nat.reduceEqDiff, reduceIte, Option.isNone_none, Option.isNone_some, Bool.false_eq_true, List.length_cons, List.length_nil, Nat.reduceAdd, Nat.reduceMul]
    refine hK9 _ _ _ ?_
    refine rwp_ret ?_
    obtain rfl := Option.some.inj h
    try simp only [thenK, blockK, reduceIte]
    exact end_ok trivial (rs_c (id := 128) (off := 0) (v := .agg [.d (eI a0.PageSize), .ref 448 v7.length 0 v7.length]) rfl rfl rfl rfl (rs_t (v := .d (eI v6)) rfl (rs_t (v := .d (eI (0 : Int))) rfl rs_nil))) (en_d (to_agg (ds_d _ (ds_r (ys := v7) rfl rfl rfl ds_nil)) (x := eTApiFlash (TApiFlash.mk a0.PageSize v7)) rfl) (en_d (to_d _) (en_d (to_d _) en_nil))) ou_nil (by first | exact eok rfl rfl rfl rfl trivial | (refine eok ?_ ?_ ?_ ?_ ?_ <;> first | rfl | exact trivial | simp [retM, Mem.get, PV.renL, PV.ren, Blk.ren, comps, rhoR, rhoM, appN, PV.refsL, PV.refs, keys, nodupB, Blk.refs, allIn, Blk.bor]))
  · refine rwp_seq fun K11 hK11 => ?_
    refine rwp_region fun K12 hK12 => ?_
    refine st0 704 rfl (ok (mv (.d (eI (0 : Int))))) ?_
    refine hK12 _ _ ?_
    simp only [thenK, blockK, keepE, updM, List.filter_cons, List.filter_nil, List.nil_append, List.cons_append, List.map_cons, List.map_nil, envE, Mem.get, Nat.reduceEqDiff, reduceIte, Option.isNone_none, Option.isNone_some, Bool.false_eq_true, List.length_cons, List.length_nil, Nat.reduceAdd, Nat.reduceMul]
    refine hK11 _ _ _ ?_
    refine rwp_block fun K13 hK13 => ?_
    refine rwp_loop ([], []) 2880 (fun k env mem => ∃ (v14 : Int) (v15 : List (BitVec 8)) (v16 : Int), passkeyref7changeL2 a0 a1 a2 a3 k v14 v15 v16 = some res ∧ env = [(1, .d (eI a1)), (2, .d (eI a2)), (3, .d ((eL 1 eU8) a3)), (4, .d (eI v14)), (5, .ptr 64 0), (10, .ptr 128 0), (13, .d (eI v16))] ∧ mem = [(64, .var .mine [.d (eI a0.PageSize), .ref 448 v15.length 0 v15.length]), (448, .row true 1 (v15.map eU8)), (128, .var .mine [.d (eI (0 : Int)), .nil 1])]) FUEL ⟨_, _, Settled.refl, _, _, ⟨_, _, _, h, rfl, rfl⟩, ⟨rfl, ⟨⟨rfl, rfl⟩, ⟨⟨rfl, rfl⟩, ⟨⟨rfl, rfl⟩, ⟨⟨rfl, rfl⟩, ⟨⟨rfl, rfl⟩, ⟨⟨rfl, rfl⟩, ⟨⟨rfl, rfl⟩, trivial⟩⟩⟩⟩⟩⟩⟩, ⟨⟨rfl, rfl⟩, ⟨⟨rfl, rfl⟩, ⟨⟨rfl, rfl⟩, trivial⟩⟩⟩⟩, rfl⟩ (fun k2 env1 mem1 hI K17 hK17 => ?_)
    obtain ⟨v14, v15, v16, h, rfl, rfl⟩ := hI
    cases k2 with
    | zero => simp [passkeyref7changeL2] at h
    | succ k2 =>
      rw [passkeyref7changeL2] at h
      refine rwp_seq fun K18 hK18 => ?_
      refine rwp_seq fun K19 hK19 => ?_
      refine rwp_region fun K20 hK20 => ?_
      refine st0 2944 rfl (ok (mv (.d (eI v16)))) ?_
      refine st0 3008 rfl (ok (mv (.d (eI a2)))) ?_
      refine st0 3072 rfl (ok (lssI _ _)) ?_
      refine hK20 _ _ ?_
      simp only [thenK, blockK, keepE, updM, List.filter_cons, List.filter_nil, List.nil_append, List.cons_append, List.map_cons, List.map_nil, envE, Mem.get, Nat.reduceEqDiff, reduceIte, Option.isNone_none, Option.isNone_some, Bool.false_eq_true, List.length_cons, List.length_nil, Nat.reduceAdd, Nat.reduceMul]
      refine hK19 _ _ _ ?_
      rcases Bool.eq_false_or_eq_true ((decide (v16 < a2))) with h21 | h21
      · replace h := ite_t h h21
        refine rwp_t (isT h21) ?_
        refine rwp_skip ?_
        refine hK18 _ _ _ ?_
        refine rwp_join ([], []) 4736 (fun env mem => ∃ (v22 : Int) (v23 : List (BitVec 8)), passkeyref7changeJ3 (passkeyref7changeL2 a0 a1 a2 a3 k2) v16 v22 v23 = some res ∧ env = [(1, .d (eI a1)), (2, .d (eI a2)), (3, .d ((eL 1 eU8) a3)), (4, .d (eI v22)), (5, .ptr 64 0), (10, .ptr 128 0), (13, .d (eI v16))] ∧ mem = [(64, .var .mine [.d (eI a0.PageSize), .ref 448 v23.length 0 v23.length]), (448, .row true 1 (v23.map eU8)), (128, .var .mine [.d (eI (0 : Int)), .nil 1])]) (fun _ _ hI => ?_) (fun K24 hK24 => ?_)
        · obtain ⟨v22, v23, h, rfl, rfl⟩ := hI
          unfold passkeyref7changeJ3 at h
          refine rwp_region fun K25 hK25 => ?_
          refine st0 4800 rfl (ok (mv (.d (eI v16)))) ?_
          refine st0 4864 rfl (ok (addI _ (1 : Int))) ?_
          refine st0 4928 rfl (ok (mv (.d (eI (w64 (v16 + (1 : Int))))))) ?_
          refine hK25 _ _ ?_
          simp only [thenK, blockK, keepE, updM, List.filter_cons, List.filter_nil, List.nil_append, List.cons_append, List.map_cons, List.map_nil, envE, Mem.get, Nat.reduceEqDiff, reduceIte, Option.isNone_none, Option.isNone_some, Bool.false_eq_true, List.length_cons, List.length_nil, Nat.reduceAdd, Nat.reduceMul]
          exact hK17.out _ _ _ k2 (Nat.lt_succ_self k2) ⟨_, _, Settled.refl, _, _, ⟨_, _, _, h, rfl, rfl⟩, ⟨rfl, ⟨⟨rfl, rfl⟩, ⟨⟨rfl, rfl⟩, ⟨⟨rfl, rfl⟩, ⟨⟨rfl, rfl⟩, ⟨⟨rfl, rfl⟩, ⟨⟨rfl, rfl⟩, ⟨⟨rfl, rfl⟩, trivial⟩⟩⟩⟩⟩⟩⟩, ⟨⟨rfl, rfl⟩, ⟨⟨rfl, rfl⟩, ⟨⟨rfl, rfl⟩, trivial⟩⟩⟩⟩, rfl⟩
        · refine rwp_block fun K26 hK26 => ?_
          refine rwp_seq fun K27 hK27 => ?_
          refine rwp_seq fun K28 hK28 => ?_
          refine rwp_region fun K29 hK29 => ?_
          refine st0 3136 rfl (ok (mv (.d (eI v14)))) ?_
          refine st0 3200 rfl (ok (eqlI _ (0 : Int))) ?_
          refine hK29 _ _ ?_
          simp only [thenK, blockK, keepE, updM, List.filter_cons, List.filter_nil, List.nil_append, List.cons_append, List.map_cons, List.map_nil, envE, Mem.get, Nat.reduceEqDiff, reduceIte, Option.isNone_none, Option.isNone_some, Bool.false_eq_true, List.length_cons, List.length_nil, Nat.reduceAdd, Nat.reduceMul]
          refine hK28 _ _ _ ?_
          rcases Bool.eq_false_or_eq_true ((v14 == (0 : Int))) with h30 | h30
          · replace h := ite_t h h30
            refine rwp_t (isT h30) ?_
            refine rwp_seq fun K31 hK31 => ?_
            refine rwp_region fun K32 hK32 => ?_
            refine st0 3264 rfl (ok (ld_v (v := .agg [.d (eI a0.PageSize), .ref 448 v15.length 0 v15.length]) rfl rfl rfl)) ?_
            refine stn 3328 rfl (mem' := [(128, .var .mine [.d (eI a0.PageSize), .ref 448 v15.length 0 v15.length]), (64, .var .mine [.d (eI a0.PageSize), .ref 448 v15.length 0 v15.length]), (448, .row true 1 (v15.map eU8))]) (ok (sto_v (ps' := [.d (eI a0.PageSize), .ref 448 v15.length 0 v15.length]) rfl rfl rfl rfl)) rfl ?_
            refine st0 3392 rfl (ok (mv (.d (eI (0 : Int))))) ?_
            refine st0 3456 rfl (ok (mv (.d (eI (16 : Int))))) ?_
            refine hK32 _ _ ?_
            simp only [thenK, blockK, keepE, updM, List.filter_cons, List.filter_nil, List.nil_append, List.cons_append, List.map_cons, List.map_nil, envE, Mem.get, Nat.reduceEqDiff, reduceIte, Option.isNone_none, Option.isNone_some, Bool.false_eq_true, List.length_cons, List.length_nil, Nat.reduceAdd, Nat.reduceMul]
            refine hK31 _ _ _ ?_
            refine rwp_ret ?_
            obtain rfl := Option.some.inj h
            try simp only [thenK, blockK, reduceIte]
            exact end_ok trivial (rs_c (id := 128) (off := 0) (v := .agg [.d (eI a0.PageSize), .ref 448 v15.length 0 v15.length]) rfl rfl rfl rfl (rs_t (v := .d (eI (0 : Int))) rfl (rs_t (v := .d (eI (16 : Int))) rfl rs_nil))) (en_d (to_agg (ds_d _ (ds_r (ys := v15) rfl rfl rfl ds_nil)) (x := eTApiFlash (TApiFlash.mk a0.PageSize v15)) rfl) (en_d (to_d _) (en_d (to_d _) en_nil))) ou_nil (by first | exact eok rfl rfl rfl rfl trivial | (refine eok ?_ ?_ ?_ ?_ ?_ <;> first | rfl | exact trivial | simp [retM, Mem.get, PV.renL, PV.ren, Blk.ren, comps, rhoR, rhoM, appN, PV.refsL, PV.refs, keys, nodupB, Blk.refs, allIn, Blk.bor]))
          · replace h := ite_f h h30
            refine rwp_f (isF h30) ?_
            refine rwp_skip ?_
            refine hK27 _ _ _ ?_
            refine rwp_join ([], []) 4352 (fun env mem => ∃ (v33 : List (BitVec 8)), passkeyref7changeJ4 (passkeyref7changeL2 a0 a1 a2 a3 k2) v14 v16 v33 = some res ∧ env = [(1, .d (eI a1)), (2, .d (eI a2)), (3, .d ((eL 1 eU8) a3)), (4, .d (eI v14)), (5, .ptr 64 0), (10, .ptr 128 0), (13, .d (eI v16))] ∧ mem = [(64, .var .mine [.d (eI a0.PageSize), .ref 448 v33.length 0 v33.length]), (448, .row true 1 (v33.map eU8)), (128, .var .mine [.d (eI (0 : Int)), .nil 1])]) (fun _ _ hI => ?_) (fun K34 hK34 => ?_)
            · obtain ⟨v33, h, rfl, rfl⟩ := hI
              unfold passkeyref7changeJ4 at h
              refine rwp_seq fun K35 hK35 => ?_
              refine rwp_region fun K36 hK36 => ?_
              refine st0 4416 rfl (ok (mv (.d (eI v14)))) ?_
              refine st0 4480 rfl (ok (gtrI _ (0 : Int))) ?_
              refine hK36 _ _ ?_
              simp only [thenK, blockK, keepE, updM, List.filter_cons, List.filter_nil, List.nil_append, List.cons_append, List.map_cons, List.map_nil, envE, Mem.get, Nat.reduceEqDiff, reduceIte, Option.isNone_none, Option.isNone_some, Bool.false_eq_true, List.length_cons, List.length_nil, Nat.reduceAdd, Nat.reduceMul]
              refine hK35 _ _ _ ?_
              rcases Bool.eq_false_or_eq_true ((decide ((0 : Int) < v14))) with h37 | h37
              · replace h := ite_t h h37
                refine rwp_t (isT h37) ?_
                refine rwp_region fun K38 hK38 => ?_
                refine st0 4544 rfl (ok (mv (.d (eI v14)))) ?_
                refine st0 4608 rfl (ok (subI _ (1 : Int))) ?_
                refine st0 4672 rfl (ok (mv (.d (eI (w64 (v14 - (1 : Int))))))) ?_
                refine hK38 _ _ ?_
                simp only [thenK, blockK, keepE, updM, List.filter_cons, List.filter_nil, List.nil_append, List.cons_append, List.map_cons, List.map_nil, envE, Mem.get, Nat.reduceEqDiff, reduceIte, Option.isNone_none, Option.isNone_some, Bool.false_eq_true, List.length_cons, List.length_nil, Nat.reduceAdd, Nat.reduceMul]
                refine hK26 _ _ _ ?_
                exact hK24 _ _ _ ⟨_, _, Settled.refl, _, _, ⟨_, _, h, rfl, rfl⟩, ⟨rfl, ⟨⟨rfl, rfl⟩, ⟨⟨rfl, rfl⟩, ⟨⟨rfl, rfl⟩, ⟨⟨rfl, rfl⟩, ⟨⟨rfl, rfl⟩, ⟨⟨rfl, rfl⟩, ⟨⟨rfl, rfl⟩, trivial⟩⟩⟩⟩⟩⟩⟩, ⟨⟨rfl, rfl⟩, ⟨⟨rfl, rfl⟩, ⟨⟨rfl, rfl⟩, trivial⟩⟩⟩⟩, rfl⟩
              · replace h := ite_f h h37
                refine rwp_f (isF h37) ?_
                refine rwp_skip ?_
                refine hK26 _ _ _ ?_
                exact hK24 _ _ _ ⟨_, _, Settled.refl, _, _, ⟨_, _, h, rfl, rfl⟩, ⟨rfl, ⟨⟨rfl, rfl⟩, ⟨⟨rfl, rfl⟩, ⟨⟨rfl, rfl⟩, ⟨⟨rfl, rfl⟩, ⟨⟨rfl, rfl⟩, ⟨⟨rfl, rfl⟩, ⟨⟨rfl, rfl⟩, trivial⟩⟩⟩⟩⟩⟩⟩, ⟨⟨rfl, rfl⟩, ⟨⟨rfl, rfl⟩, ⟨⟨rfl, rfl⟩, trivial⟩⟩⟩⟩, rfl⟩
            · refine rwp_seq fun K39 hK39 => ?_
              refine rwp_region fun K40 hK40 => ?_
              refine st0 3264 rfl (ok (mv (.d ((eL 1 eU8) a3)))) ?_
              refine st0 3328 rfl (ok (lenL _ _)) ?_
              refine st0 3392 rfl (ok (eqlI _ (0 : Int))) ?_
              refine hK40 _ _ ?_
              simp only [thenK, blockK, keepE, updM, List.filter_cons, List.filter_nil, List.nil_append, List.cons_append, List.map_cons, List.map_nil, envE, Mem.get, Nat.reduceEqDiff, reduceIte, Option.isNone_none, Option.isNone_some, Bool.false_eq_true, List.length_cons, List.length_nil, Nat.reduceAdd, Nat.reduceMul]
              refine hK39 _ _ _ ?_
              rcases Bool.eq_false_or_eq_true (((a3.length : Int) == (0 : Int))) with h41 | h41
              · replace h := ite_t h h41
                refine rwp_t (isT h41) ?_
                refine rwp_region fun K42 hK42 => ?_
                refine st0 3456 rfl (ok (fa_k 1 rfl)) ?_
                refine st0 3520 rfl (ok (ld_v (v := .ref 448 v15.length 0 v15.length) rfl rfl rfl)) ?_
                refine st0 3584 rfl (ok (mv (.d (eI a1)))) ?_
                refine st0 3648 rfl (ok (mv (.d (eI v16)))) ?_
                refine st0 3712 rfl (ok (addI _ _)) ?_
                obtain ⟨h43, h⟩ := asq_inv h
                refine st0 3776 rfl (ok (iaR (xs := v15) (e := eU8) rfl rfl h43)) ?_
                refine stn 3840 rfl (mem' := [(448, .row true 1 ((v15.set (0 + (w64 (a1 + v16)).toNat) 255#8).map eU8)), (64, .var .mine [.d (eI a0.PageSize), .ref 448 v15.length 0 v15.length]), (128, .var .mine [.d (eI (0 : Int)), .nil 1])]) (ok (sto_r (e := eU8) (xs := v15) (y := 255#8) rfl rfl rfl)) rfl ?_
                refine hK42 _ _ ?_
                simp only [thenK, blockK, keepE, updM, List.filter_cons, List.filter_nil, List.nil_append, List.cons_append, List.map_cons, List.map_nil, envE, Mem.get, Nat.reduceEqDiff, reduceIte, Option.isNone_none, Option.isNone_some, Bool.false_eq_true, List.length_cons, List.length_nil, Nat.reduceAdd, Nat.reduceMul]
                exact hK34 _ _ _ ⟨_, _, Settled.refl, _, _, ⟨_, h, rfl, rfl⟩, (by refine ⟨rfl, ⟨⟨?_, rfl⟩, ⟨⟨?_, rfl⟩, ⟨⟨?_, rfl⟩, ⟨⟨?_, rfl⟩, ⟨⟨?_, rfl⟩, ⟨⟨?_, rfl⟩, ⟨⟨?_, rfl⟩, trivial⟩⟩⟩⟩⟩⟩⟩, ⟨⟨?_, rfl⟩, ⟨⟨?_, rfl⟩, ⟨⟨?_, rfl⟩, trivial⟩⟩⟩⟩ <;> first | rfl | (exact refEq rfl (by simp) rfl (by simp)) | simp [envE, Mem.get, liftE, liftV, rhoOf, rhoE, rhoM, appN, PV.refs, PV.refsL, Blk.refs, PV.ren, PV.renL, Blk.ren]), rfl⟩
              · replace h := ite_f h h41
                refine rwp_f (isF h41) ?_
                refine rwp_draw fun K44 hK44 => ?_
                refine dr0 3456 rfl (ok (fa_k 1 rfl)) (by kernel_rfl) ?_
                refine dr0 3520 rfl (ok (ld_v (v := .ref 448 v15.length 0 v15.length) rfl rfl rfl)) (by kernel_rfl) ?_
                refine dr0 3584 rfl (ok (mv (.d (eI a1)))) (by kernel_rfl) ?_
                refine dr0 3648 rfl (ok (mv (.d (eI v16)))) (by kernel_rfl) ?_
                refine dr0 3712 rfl (ok (addI _ _)) (by kernel_rfl) ?_
                obtain ⟨h45, h⟩ := asq_inv h
                refine dr0 3776 rfl (ok (iaR (xs := v15) (e := eU8) rfl rfl h45)) (by kernel_rfl) ?_
                refine dr0 3840 rfl (ok (ld_r (e := eU8) (xs := v15) 0#8 rfl rfl (by have := h45; simp at this ⊢; omega) rfl)) (by kernel_rfl) ?_
                refine dr0 3904 rfl (ok (mv (.d ((eL 1 eU8) a3)))) (by kernel_rfl) ?_
                refine dr0 3968 rfl (ok (mv (.d (eI v16)))) (by kernel_rfl) ?_
                obtain ⟨h46, h⟩ := asq_inv h
                refine dr0 4032 rfl (ok (iaL (e := eU8) (xs := a3) 0#8 h46)) (by kernel_rfl) ?_
                refine dr0 4096 rfl (ok (ld_i (v := eU8 (a3.getD v16.toNat 0#8)) rfl rfl)) (by kernel_rfl) ?_
                obtain ⟨v47, h48, h⟩ := lett_inv h
                refine dr0e 4160 rfl (ok (and8 _ _)) (congrArg (fun z => PV.d (eU8 z)) h48) (by kernel_rfl) ?_
                obtain ⟨h49, h⟩ := asq_inv h
                refine dr0 4224 rfl (ok (iaR (xs := v15) (e := eU8) rfl rfl h49)) (by kernel_rfl) ?_
                refine drn 4288 rfl (mem' := [(448, .row true 1 ((v15.set (0 + (w64 (a1 + v16)).toNat) v47).map eU8)), (64, .var .mine [.d (eI a0.PageSize), .ref 448 v15.length 0 v15.length]), (128, .var .mine [.d (eI (0 : Int)), .nil 1])]) (ok (sto_r (e := eU8) (xs := v15) (y := v47) rfl rfl rfl)) rfl (by kernel_rfl) ?_
                refine hK44 _ _ ?_
                simp only [thenK, blockK, keepE, updM, List.filter_cons, List.filter_nil, List.nil_append, List.cons_append, List.map_cons, List.map_nil, envE, Mem.get, Nat.reduceEqDiff, reduceIte, Option.isNone_none, Option.isNone_some, Bool.false_eq_true, List.length_cons, List.length_nil, Nat.reduceAdd, Nat.reduceMul]
                exact hK34 _ _ _ ⟨_, _, Settled.refl, _, _, ⟨_, h, rfl, rfl⟩, (by refine ⟨rfl, ⟨⟨?_, rfl⟩, ⟨⟨?_, rfl⟩, ⟨⟨?_, rfl⟩, ⟨⟨?_, rfl⟩, ⟨⟨?_, rfl⟩, ⟨⟨?_, rfl⟩, ⟨⟨?_, rfl⟩, trivial⟩⟩⟩⟩⟩⟩⟩, ⟨⟨?_, rfl⟩, ⟨⟨?_, rfl⟩, ⟨⟨?_, rfl⟩, trivial⟩⟩⟩⟩ <;> first | rfl | (exact refEq rfl (by simp) rfl (by simp)) | simp [envE, Mem.get, liftE, liftV, rhoOf, rhoE, rhoM, appN, PV.refs, PV.refsL, Blk.refs, PV.ren, PV.renL, Blk.ren]), rfl⟩
      · replace h := ite_f h h21
        refine rwp_f (isF h21) ?_
        refine rwp_exit ?_
        refine hK13 _ _ _ ?_
        exact hK8 _ _ _ ⟨_, _, Settled.refl, _, _, ⟨_, _, h, rfl, rfl⟩, ⟨rfl, ⟨⟨rfl, rfl⟩, ⟨⟨rfl, rfl⟩, ⟨⟨rfl, rfl⟩, trivial⟩⟩⟩, ⟨⟨rfl, rfl⟩, ⟨⟨rfl, rfl⟩, ⟨⟨rfl, rfl⟩, trivial⟩⟩⟩⟩, rfl⟩

/-- passkey/passkeyref7.Program -/
def passkeyref7ProgramH : Hints := ⟨[(0, [1, 2, 3, 4, 5, 10]), (1, [1, 2, 3, 4, 5, 10, 13]), (2, [1, 2, 3, 4, 5, 10, 13, 21]), (3, [10, 11, 12]), (4, [10, 11, 12])], []⟩
def passkeyref7ProgramRc : RCode :=
  .seq (.region false [⟨some 5, .box, [.t 0], none, []⟩, ⟨some 10, .alloc [.d (.int .i64 0), .nil 1], [], none, []⟩, ⟨some 11, .mv, [.k (.d (.int .i64 0))], none, []⟩, ⟨some 12, .mv,
  [.k (.d (.int .i64 0))], none, []⟩] [1, 2, 3, 4, 5, 10]) (.seq (.seq (.region false [⟨some 14, .load 2 true, [.t 5], none, []⟩, ⟨some 15, .mv, [.t 1], none, []⟩, ⟨some 16, .mv,
  [.t 2], none, []⟩, ⟨some 17, .mv, [.t 3], none, []⟩, ⟨some 18, .len, [.t 17], none, []⟩, ⟨some 19, .call 25 false, [.t 14, .t 15, .t 16, .t 18], none, []⟩, ⟨some 13, .mv, [.t
  19], none, []⟩] [1, 2, 3, 4, 5, 10, 13]) (.seq (.region false [⟨some 20, .mv, [.t 13], none, []⟩, ⟨some 21, .bin .neq, [.t 20, .k (.d (.int .i64 0))], none, []⟩] [1, 2, 3, 4, 5,
  10, 13, 21]) (.cond (.t 21) (.seq (.region false [⟨some 22, .build [.d (.int .i64 0), .nil 1] [], [], none, []⟩, ⟨some 23, .mv, [.t 13], none, []⟩, ⟨none, .store 2, [.t 10, .t
  22], none, []⟩, ⟨some 11, .mv, [.k (.d (.int .i64 0))], none, []⟩, ⟨some 12, .mv, [.t 23], none, []⟩] [10, 11, 12]) .ret) .skip))) (.seq (.region false [⟨some 24, .load 2 true,
  [.t 5], none, []⟩, ⟨some 25, .mv, [.t 1], none, []⟩, ⟨some 26, .fa 0, [.t 5], none, []⟩, ⟨some 27, .load 1 false, [.t 26], none, []⟩, ⟨some 28, .bin .mul, [.t 25, .t 27], none,
  []⟩, ⟨some 29, .mv, [.t 2], none, []⟩, ⟨some 30, .bin .add, [.t 28, .t 29], none, []⟩, ⟨some 31, .mv, [.t 3], none, []⟩, ⟨some 32, .len, [.t 31], none, []⟩, ⟨some 33, .mv, [.t
  3], none, []⟩, ⟨some 34, .mv, [.t 4], none, []⟩, ⟨some 35, .call 31 true, [.t 24, .t 30, .t 32, .t 33, .t 34], none, []⟩, ⟨some 36, .ext 0, [.t 35], none, []⟩, ⟨some 37, .ext 1,
  [.t 35], none, []⟩, ⟨some 38, .ext 2, [.t 35], none, []⟩, ⟨none, .store 2, [.t 10, .t 36], none, []⟩, ⟨some 11, .mv, [.t 37], none, []⟩, ⟨some 12, .mv, [.t 38], none, []⟩] [10,
  11, 12]) .ret))
def passkeyref7ProgramRr : List RR := [.c 10 2 true, .t 11, .t 12]
theorem passkeyref7ProgramC : compFn Try.prog 26 passkeyref7ProgramH = some (passkeyref7ProgramRc, passkeyref7ProgramRr, 39) := by kernel_rfl
theorem passkeyref7ProgramOK (a0 : TApiFlash) (a1 : Int) (a2 : Int) (a3 : List (BitVec 8)) (a4 : Int) (res : TApiFlash × Int × Int) (h : passkeyref7Program a0 a1 a2 a3 a4 = some res) : CallOK Try.prog 26 [.d (eTApiFlash a0), .d (eI a1), .d (eI a2), .d ((eL 1 eU8) a3), .d (eI a4)] [] (.tup [.d (eTApiFlash res.1), .d (eI res.2.1), .d (eI res.2.2)]) [] := by
  unfold passkeyref7Program at h
  refine callOK passkeyref7ProgramC fm rfl ?_
  simp only [initE, initM, nbor, List.map_cons, List.map_nil, Nat.reduceAdd]
  unfold passkeyref7ProgramRc
  refine rwp_seq fun K1 hK1 => ?_
  refine rwp_region fun K2 hK2 => ?_
  refine st1 128 rfl (mem' := [(64, .var .mine [.d (eI a0.PageSize), .d ((eL 1 eU8) a0.Bytes)])]) (ok (bx (ps := [.d (eI a0.PageSize), .d ((eL 1 eU8) a0.Bytes)]) rfl rfl)) rfl ?_
  refine st1 192 rfl (mem' := [(128, .var .mine [.d (eI (0 : Int)), .nil 1]), (64, .var .mine [.d (eI a0.PageSize), .d ((eL 1 eU8) a0.Bytes)])]) (ok (alc (zs := [.d (eI (0 : Int)), .nil 1]))) rfl ?_
  refine st0 256 rfl (ok (mv (.d (eI (0 : Int))))) ?_
  refine st0 320 rfl (ok (mv (.d (eI (0 : Int))))) ?_
  refine hK2 _ _ ?_
  simp only [thenK, blockK, keepE, updM, List.filter_cons, List.filter_nil, List.nil_append, List.cons_append, List.map_cons, List.map_nil, envE, Mem.get, Nat.reduceEqDiff, reduceIte, Option.isNone_none, Option.isNone_some, Bool.false_eq_true, List.length_cons, List.length_nil, Nat.reduceAdd, Nat.reduceMul]
  refine hK1 _ _ _ ?_
  refine rwp_seq fun K3 hK3 => ?_
  refine rwp_seq fun K4 hK4 => ?_
  refine rwp_region fun K5 hK5 => ?_
  refine st0 384 rfl (ok (ld_v (v := .d (.agg [eI a0.PageSize, (eL 1 eU8) a0.Bytes])) rfl rfl rfl)) ?_
  refine st0 448 rfl (ok (mv (.d (eI a1)))) ?_
  refine st0 512 rfl (ok (mv (.d (eI a2)))) ?_
  refine st0 576 rfl (ok (mv (.d ((eL 1 eU8) a3)))) ?_
  refine st0 640 rfl (ok (lenL _ _)) ?_
  obtain ⟨y6, h7, h⟩ := bind_inv h
  refine st0 704 rfl (call_ok (v := .d (eI y6)) (u := []) (ar_d (eTApiFlash (TApiFlash.mk a0.PageSize a0.Bytes)) (ar_d (eI a1) (ar_d (eI a2) (ar_d (eI (a3.length : Int)) ar_nil)))) rfl (passkeyref7areaOK (TApiFlash.mk a0.PageSize a0.Bytes) a1 a2 (a3.length : Int) y6 h7) rfl) ?_
  refine st0 768 rfl (ok (mv (.d (eI y6)))) ?_
  refine hK5 _ _ ?_
  simp only [thenK, blockK, keepE, updM, List.filter_cons, List.filter_nil, List.nil_append, List.cons_append, List.map_cons, List.map_nil, envE, Mem.get, Nat.reduceEqDiff, reduceIte, Option.isNone_none, Option.isNone_some, Bool.false_eq_true, List.length_cons, List.length_nil, Nat.reduceAdd, Nat.reduceMul]
  refine hK4 _ _ _ ?_
  refine rwp_seq fun K8 hK8 => ?_
  refine rwp_region fun K9 hK9 => ?_
  refine st0 832 rfl (ok (mv (.d (eI y6)))) ?_
  refine st0 896 rfl (ok (neqI _ (0 : Int))) ?_
  refine hK9 _ _ ?_
  simp only [thenK, blockK, keepE, updM, List.filter_cons, List.filter_nil, List.nil_append, List.cons_append, List.map_cons, List.map_nil, envE, Mem.get, Nat.reduceEqDiff, reduceIte, Option.isNone_none, Option.isNone_some, Bool.false_eq_true, List.length_cons, List.length_nil, Nat.reduceAdd, Nat.reduceMul]
  refine hK8 _ _ _ ?_
  rcases Bool.eq_false_or_eq_true ((y6 != (0 : Int))) with h10 | h10
  · replace h := ite_t h h10
    refine rwp_t (isT h10) ?_
    refine rwp_seq fun K11 hK11 => ?_
    refine rwp_region fun K12 hK12 => ?_
    refine st0 960 rfl (ok (bld (v := .agg [.d (eI (0 : Int)), .nil 1]) rfl rfl)) ?_
    refine st0 1024 rfl (ok (mv (.d (eI y6)))) ?_
    refine stn 1088 rfl (mem' := [(128, .var .mine [.d (eI (0 : Int)), .nil 1]), (64, .var .mine [.d (eI a0.PageSize), .d ((eL 1 eU8) a0.Bytes)])]) (ok (sto_v (ps' := [.d (eI (0 : Int)), .nil 1]) rfl rfl rfl rfl)) rfl ?_
    refine st0 1152 rfl (ok (mv (.d (eI (0 : Int))))) ?_
    refine st0 1216 rfl (ok (mv (.d (eI y6)))) ?_
    refine hK12 _ _ ?_
    simp only [thenK, blockK, keepE, updM, List.filter_cons, List.filter_nil, List.nil_append, List.cons_append, List.map_cons, List.map_nil, envE, Mem.get, Nat.reduceEqDiff, reduceIte, Option.isNone_none, Option.isNone_some, Bool.false_eq_true, List.length_cons, List.length_nil, Nat.reduceAdd, Nat.reduceMul]
    refine hK11 _ _ _ ?_
    refine rwp_ret ?_
    obtain rfl := Option.some.inj h
    try simp only [thenK, blockK, reduceIte]
    exact end_ok trivial (rs_c (id := 128) (off := 0) (v := .agg [.d (eI (0 : Int)), .nil 1]) rfl rfl rfl rfl (rs_t (v := .d (eI (0 : Int))) rfl (rs_t (v := .d (eI y6)) rfl rs_nil))) (en_d (to_agg (ds_d _ (ds_n eU8 ds_nil)) (x := eTApiFlash (TApiFlash.mk (0 : Int) ([] : List (BitVec 8)))) rfl) (en_d (to_d _) (en_d (to_d _) en_nil))) ou_nil (by first | exact eok rfl rfl rfl rfl trivial | (refine eok ?_ ?_ ?_ ?_ ?_ <;> first | rfl | exact trivial | simp [retM, Mem.get, PV.renL, PV.ren, Blk.ren, comps, rhoR, rhoM, appN, PV.refsL, PV.refs, keys, nodupB, Blk.refs, allIn, Blk.bor]))
  · replace h := ite_f h h10
    refine rwp_f (isF h10) ?_
    refine rwp_skip ?_
    refine hK3 _ _ _ ?_
    refine rwp_seq fun K13 hK13 => ?_
    refine rwp_region fun K14 hK14 => ?_
    refine st0 960 rfl (ok (ld_v (v := .d (.agg [eI a0.PageSize, (eL 1 eU8) a0.Bytes])) rfl rfl rfl)) ?_
    refine st0 1024 rfl (ok (mv (.d (eI a1)))) ?_
    refine st0 1088 rfl (ok (fa_k 0 rfl)) ?_
    refine st0 1152 rfl (ok (ld_v (v := .d (eI a0.PageSize)) rfl rfl rfl)) ?_
    refine st0 1216 rfl (ok (mulI _ _)) ?_
    refine st0 1280 rfl (ok (mv (.d (eI a2)))) ?_
    refine st0 1344 rfl (ok (addI _ _)) ?_
    refine st0 1408 rfl (ok (mv (.d ((eL 1 eU8) a3)))) ?_
    refine st0 1472 rfl (ok (lenL _ _)) ?_
    refine st0 1536 rfl (ok (mv (.d ((eL 1 eU8) a3)))) ?_
    refine st0 1600 rfl (ok (mv (.d (eI a4)))) ?_
    obtain ⟨y15, h16, h⟩ := bind_inv h
    refine st0 1664 rfl (call_ok (v := .tup [.d (eTApiFlash y15.1), .d (eI y15.2.1), .d (eI y15.2.2)]) (u := []) (ar_d (eTApiFlash (TApiFlash.mk a0.PageSize a0.Bytes)) (ar_d (eI (w64 ((w64 (a1 * a0.PageSize)) + a2))) (ar_d (eI (a3.length : Int)) (ar_d ((eL 1 eU8) a3) (ar_d (eI a4) ar_nil))))) rfl (passkeyref7changeOK (TApiFlash.mk a0.PageSize a0.Bytes) (w64 ((w64 (a1 * a0.PageSize)) + a2)) (a3.length : Int) a3 a4 y15 h16) rfl) ?_
    refine st0 1728 rfl (ok (extr (v := .d (eTApiFlash y15.1)) rfl rfl)) ?_
    refine st0 1792 rfl (ok (extr (v := .d (eI y15.2.1)) rfl rfl)) ?_
    refine st0 1856 rfl (ok (extr (v := .d (eI y15.2.2)) rfl rfl)) ?_
    refine stn 1920 rfl (mem' := [(128, .var .mine [.d (eI y15.1.PageSize), .d ((eL 1 eU8) y15.1.Bytes)]), (64, .var .mine [.d (eI a0.PageSize), .d ((eL 1 eU8) a0.Bytes)])]) (ok (sto_v (ps' := [.d (eI y15.1.PageSize), .d ((eL 1 eU8) y15.1.Bytes)]) rfl rfl rfl rfl)) rfl ?_
    refine st0 1984 rfl (ok (mv (.d (eI y15.2.1)))) ?_
    refine st0 2048 rfl (ok (mv (.d (eI y15.2.2)))) ?_
    refine hK14 _ _ ?_
    simp only [thenK, blockK, keepE, updM, List.filter_cons, List.filter_nil, List.nil_append, List.cons_append, List.map_cons, List.map_nil, envE, Mem.get, Nat.reduceEqDiff, reduceIte, Option.isNone_none, Option.isNone_some, Bool.false_eq_true, List.length_cons, List.length_nil, Nat.reduceAdd, Nat.reduceMul]
    refine hK13 _ _ _ ?_
    refine rwp_ret ?_
    obtain rfl := Option.some.inj h
    try simp only [thenK, blockK, reduceIte]
    exact end_ok trivial (rs_c (id := 128) (off := 0) (v := .d (.agg [eI y15.1.PageSize, (eL 1 eU8) y15.1.Bytes])) rfl rfl rfl rfl (rs_t (v := .d (eI y15.2.1)) rfl (rs_t (v := .d (eI y15.2.2)) rfl rs_nil))) (en_d (to_d _) (en_d (to_d _) (en_d (to_d _) en_nil))) ou_nil (by first | exact eok rfl rfl rfl rfl trivial | (refine eok ?_ ?_ ?_ ?_ ?_ <;> first | rfl | exact trivial | simp [retM, Mem.get, PV.renL, PV.ren, Blk.ren, comps, rhoR, rhoM, appN, PV.refsL, PV.refs, keys, nodupB, Blk.refs, allIn, Blk.bor]))

/-- passkey/passkeylaw7.programs -/
def passkeylaw7programsH : Hints := ⟨[(0, [1, 2, 3, 4, 5]), (1, [1, 2, 3, 4, 5, 11, 12, 13]), (2, [11, 12, 13, 14, 15, 16]), (3, [10])], []⟩
def passkeylaw7programsRc : RCode :=
  .seq (.region false [⟨some 5, .box, [.t 0], none, []⟩, ⟨some 10, .mv, [.k (.d (.bool false))], none, []⟩] [1, 2, 3, 4, 5]) (.seq (.region false [⟨some 18, .load 2 true, [.t 5],
  none, []⟩, ⟨some 19, .mv, [.t 1], none, []⟩, ⟨some 20, .mv, [.t 2], none, []⟩, ⟨some 21, .mv, [.t 3], none, []⟩, ⟨some 22, .mv, [.t 4], none, []⟩, ⟨some 23, .call 20 true, [.t
  18, .t 19, .t 20, .t 21, .t 22], none, []⟩, ⟨some 17, .mv, [.t 23], none, []⟩, ⟨some 24, .ext 0, [.t 17], none, []⟩, ⟨some 25, .ext 1, [.t 17], none, []⟩, ⟨some 26, .ext 2, [.t
  17], none, []⟩, ⟨some 11, .alloc [.d (.int .i64 0), .nil 1], [], none, []⟩, ⟨none, .store 2, [.t 11, .t 24], none, []⟩, ⟨some 12, .mv, [.t 25], none, []⟩, ⟨some 13, .mv, [.t 26],
  none, []⟩] [1, 2, 3, 4, 5, 11, 12, 13]) (.seq (.region false [⟨some 28, .load 2 true, [.t 5], none, []⟩, ⟨some 29, .mv, [.t 1], none, []⟩, ⟨some 30, .mv, [.t 2], none, []⟩, ⟨some
  31, .mv, [.t 3], none, []⟩, ⟨some 32, .mv, [.t 4], none, []⟩, ⟨some 33, .call 26 true, [.t 28, .t 29, .t 30, .t 31, .t 32], none, []⟩, ⟨some 27, .mv, [.t 33], none, []⟩, ⟨some
  34, .ext 0, [.t 27], none, []⟩, ⟨some 35, .ext 1, [.t 27], none, []⟩, ⟨some 36, .ext 2, [.t 27], none, []⟩, ⟨some 14, .alloc [.d (.int .i64 0), .nil 1], [], none, []⟩, ⟨none,
  .store 2, [.t 14, .t 34], none, []⟩, ⟨some 15, .mv, [.t 35], none, []⟩, ⟨some 16, .mv, [.t 36], none, []⟩] [11, 12, 13, 14, 15, 16]) (.seq (.region false [⟨some 37, .load 2 true,
  [.t 11], none, []⟩, ⟨some 38, .load 2 true, [.t 14], none, []⟩, ⟨some 39, .call 12 false, [.t 37, .t 38], none, []⟩, ⟨some 40, .mv, [.t 39], none, []⟩, ⟨some 41, .mv, [.t 12],
  some (40, true), []⟩, ⟨some 42, .mv, [.t 15], some (40, true), []⟩, ⟨some 43, .bin .eql, [.t 41, .t 42], some (40, true), []⟩, ⟨some 44, .pick, [.t 40, .t 43, .k (.d (.bool
  false))], none, []⟩, ⟨some 45, .mv, [.t 44], none, []⟩, ⟨some 46, .mv, [.t 13], some (45, true), []⟩, ⟨some 47, .mv, [.t 16], some (45, true), []⟩, ⟨some 48, .bin .eql, [.t 46,
  .t 47], some (45, true), []⟩, ⟨some 49, .pick, [.t 45, .t 48, .k (.d (.bool false))], none, []⟩, ⟨some 10, .mv, [.t 49], none, []⟩] [10]) .ret)))
def passkeylaw7programsRr : List RR := [.t 10]
theorem passkeylaw7programsC : compFn Try.prog 19 passkeylaw7programsH = some (passkeylaw7programsRc, passkeylaw7programsRr, 50) := by kernel_rfl
theorem passkeylaw7programsOK (a0 : TApiFlash) (a1 : Int) (a2 : Int) (a3 : List (BitVec 8)) (a4 : Int) (res : Bool) (h : passkeylaw7programs a0 a1 a2 a3 a4 = some res) : CallOK Try.prog 19 [.d (eTApiFlash a0), .d (eI a1), .d (eI a2), .d ((eL 1 eU8) a3), .d (eI a4)] [] (.d (eB res)) [] := by
  unfold passkeylaw7programs at h
  refine callOK passkeylaw7programsC fm rfl ?_
  simp only [initE, initM, nbor, List.map_cons, List.map_nil, Nat.reduceAdd]
  unfold passkeylaw7programsRc
  refine rwp_seq fun K1 hK1 => ?_
  refine rwp_region fun K2 hK2 => ?_
  refine st1 128 rfl (mem' := [(64, .var .mine [.d (eI a0.PageSize), .d ((eL 1 eU8) a0.Bytes)])]) (ok (bx (ps := [.d (eI a0.PageSize), .d ((eL 1 eU8) a0.Bytes)]) rfl rfl)) rfl ?_
  refine st0 192 rfl (ok (mv (.d (eB false)))) ?_
  refine hK2 _ _ ?_
  simp only [thenK, blockK, keepE, updM, List.filter_cons, List.filter_nil, List.nil_append, List.cons_append, List.map_cons, List.map_nil, envE, Mem.get, Nat.reduceEqDiff, reduceIte, Option.isNone_none, Option.isNone_some, Bool.false_eq_true, List.length_cons, List.length_nil, Nat.reduceAdd, Nat.reduceMul]
  refine hK1 _ _ _ ?_
  refine rwp_seq fun K3 hK3 => ?_
  refine rwp_region fun K4 hK4 => ?_
  refine st0 256 rfl (ok (ld_v (v := .d (.agg [eI a0.PageSize, (eL 1 eU8) a0.Bytes])) rfl rfl rfl)) ?_
  refine st0 320 rfl (ok (mv (.d (eI a1)))) ?_
  refine st0 384 rfl (ok (mv (.d (eI a2)))) ?_
  refine st0 448 rfl (ok (mv (.d ((eL 1 eU8) a3)))) ?_
  refine st0 512 rfl (ok (mv (.d (eI a4)))) ?_
  obtain ⟨y5, h6, h⟩ := bind_inv h
  refine st0 576 rfl (call_ok (v := .tup [.d (eTApiFlash y5.1), .d (eI y5.2.1), .d (eI y5.2.2)]) (u := []) (ar_d (eTApiFlash (TApiFlash.mk a0.PageSize a0.Bytes)) (ar_d (eI a1) (ar_d (eI a2) (ar_d ((eL 1 eU8) a3) (ar_d (eI a4) ar_nil))))) rfl (flashProgramOK (TApiFlash.mk a0.PageSize a0.Bytes) a1 a2 a3 a4 y5 h6) rfl) ?_
  refine st0 640 rfl (ok (mv (.tup [.d (eTApiFlash y5.1), .d (eI y5.2.1), .d (eI y5.2.2)]))) ?_
  refine st0 704 rfl (ok (extr (v := .d (eTApiFlash y5.1)) rfl rfl)) ?_
  refine st0 768 rfl (ok (extr (v := .d (eI y5.2.1)) rfl rfl)) ?_
  refine st0 832 rfl (ok (extr (v := .d (eI y5.2.2)) rfl rfl)) ?_
  refine st1 896 rfl (mem' := [(832, .var .mine [.d (eI (0 : Int)), .nil 1]), (64, .var .mine [.d (eI a0.PageSize), .d ((eL 1 eU8) a0.Bytes)])]) (ok (alc (zs := [.d (eI (0 : Int)), .nil 1]))) rfl ?_
  refine stn 960 rfl (mem' := [(832, .var .mine [.d (eI y5.1.PageSize), .d ((eL 1 eU8) y5.1.Bytes)]), (64, .var .mine [.d (eI a0.PageSize), .d ((eL 1 eU8) a0.Bytes)])]) (ok (sto_v (ps' := [.d (eI y5.1.PageSize), .d ((eL 1 eU8) y5.1.Bytes)]) rfl rfl rfl rfl)) rfl ?_
  refine st0 1024 rfl (ok (mv (.d (eI y5.2.1)))) ?_
  refine st0 1088 rfl (ok (mv (.d (eI y5.2.2)))) ?_
  refine hK4 _ _ ?_
  simp only [thenK, blockK, keepE, updM, List.filter_cons, List.filter_nil, List.nil_append, List.cons_append, List.map_cons, List.map_nil, envE, Mem.get, Nat.reduceEqDiff, reduceIte, Option.isNone_none, Option.isNone_some, Bool.false_eq_true, List.length_cons, List.length_nil, Nat.reduceAdd, Nat.reduceMul]
  refine hK3 _ _ _ ?_
  refine rwp_seq fun K7 hK7 => ?_
  refine rwp_region fun K8 hK8 => ?_
  refine st0 1152 rfl (ok (ld_v (v := .d (.agg [eI a0.PageSize, (eL 1 eU8) a0.Bytes])) rfl rfl rfl)) ?_
  refine st0 1216 rfl (ok (mv (.d (eI a1)))) ?_
  refine st0 1280 rfl (ok (mv (.d (eI a2)))) ?_
  refine st0 1344 rfl (ok (mv (.d ((eL 1 eU8) a3)))) ?_
  refine st0 1408 rfl (ok (mv (.d (eI a4)))) ?_
  obtain ⟨y9, h10, h⟩ := bind_inv h
  refine st0 1472 rfl (call_ok (v := .tup [.d (eTApiFlash y9.1), .d (eI y9.2.1), .d (eI y9.2.2)]) (u := []) (ar_d (eTApiFlash (TApiFlash.mk a0.PageSize a0.Bytes)) (ar_d (eI a1) (ar_d (eI a2) (ar_d ((eL 1 eU8) a3) (ar_d (eI a4) ar_nil))))) rfl (passkeyref7ProgramOK (TApiFlash.mk a0.PageSize a0.Bytes) a1 a2 a3 a4 y9 h10) rfl) ?_
  refine st0 1536 rfl (ok (mv (.tup [.d (eTApiFlash y9.1), .d (eI y9.2.1), .d (eI y9.2.2)]))) ?_
  refine st0 1600 rfl (ok (extr (v := .d (eTApiFlash y9.1)) rfl rfl)) ?_
  refine st0 1664 rfl (ok (extr (v := .d (eI y9.2.1)) rfl rfl)) ?_
  refine st0 1728 rfl (ok (extr (v := .d (eI y9.2.2)) rfl rfl)) ?_
  refine st1 1792 rfl (mem' := [(1728, .var .mine [.d (eI (0 : Int)), .nil 1]), (832, .var .mine [.d (eI y5.1.PageSize), .d ((eL 1 eU8) y5.1.Bytes)]), (64, .var .mine [.d (eI a0.PageSize), .d ((eL 1 eU8) a0.Bytes)])]) (ok (alc (zs := [.d (eI (0 : Int)), .nil 1]))) rfl ?_
  refine stn 1856 rfl (mem' := [(1728, .var .mine [.d (eI y9.1.PageSize), .d ((eL 1 eU8) y9.1.Bytes)]), (832, .var .mine [.d (eI y5.1.PageSize), .d ((eL 1 eU8) y5.1.Bytes)]), (64, .var .mine [.d (eI a0.PageSize), .d ((eL 1 eU8) a0.Bytes)])]) (ok (sto_v (ps' := [.d (eI y9.1.PageSize), .d ((eL 1 eU8) y9.1.Bytes)]) rfl rfl rfl rfl)) rfl ?_
  refine st0 1920 rfl (ok (mv (.d (eI y9.2.1)))) ?_
  refine st0 1984 rfl (ok (mv (.d (eI y9.2.2)))) ?_
  refine hK8 _ _ ?_
  simp only [thenK, blockK, keepE, updM, List.filter_cons, List.filter_nil, List.nil_append, List.cons_append, List.map_cons, List.map_nil, envE, Mem.get, Nat.reduceEqDiff, reduceIte, Option.isNone_none, Option.isNone_some, Bool.false_eq_true, List.length_cons, List.length_nil, Nat.reduceAdd, Nat.reduceMul]
  refine hK7 _ _ _ ?_
  refine rwp_seq fun K11 hK11 => ?_
  refine rwp_region fun K12 hK12 => ?_
  refine st0 2048 rfl (ok (ld_v (v := .d (.agg [eI y5.1.PageSize, (eL 1 eU8) y5.1.Bytes])) rfl rfl rfl)) ?_
  refine st0 2112 rfl (ok (ld_v (v := .d (.agg [eI y9.1.PageSize, (eL 1 eU8) y9.1.Bytes])) rfl rfl rfl)) ?_
  obtain ⟨y13, h14, h⟩ := bind_inv h
  refine st0 2176 rfl (call_ok (v := .d (eB y13)) (u := []) (ar_d (eTApiFlash (TApiFlash.mk y5.1.PageSize y5.1.Bytes)) (ar_d (eTApiFlash (TApiFlash.mk y9.1.PageSize y9.1.Bytes)) ar_nil)) rfl (passkeyref7SameFlashOK (TApiFlash.mk y5.1.PageSize y5.1.Bytes) (TApiFlash.mk y9.1.PageSize y9.1.Bytes) y13 h14) rfl) ?_
  refine st0 2240 rfl (ok (mv (.d (eB y13)))) ?_
  rcases Bool.eq_false_or_eq_true (y13) with h15 | h15
  · replace h := ite_t h h15
    refine stG (isT h15) ?_
    refine st0 2304 rfl (ok (mv (.d (eI y5.2.1)))) ?_
    refine stG (isT h15) ?_
    refine st0 2368 rfl (ok (mv (.d (eI y9.2.1)))) ?_
    refine stG (isT h15) ?_
    refine st0 2432 rfl (ok (eqlI _ _)) ?_
    refine st0 2496 rfl (ok (pick_t h15 (.d (eB (y5.2.1 == y9.2.1))) _)) ?_
    refine st0 2560 rfl (ok (mv (.d (eB (y5.2.1 == y9.2.1))))) ?_
    rcases Bool.eq_false_or_eq_true ((y5.2.1 == y9.2.1)) with h16 | h16
    · replace h := ite_t h h16
      refine stG (isT h16) ?_
      refine st0 2624 rfl (ok (mv (.d (eI y5.2.2)))) ?_
      refine stG (isT h16) ?_
      refine st0 2688 rfl (ok (mv (.d (eI y9.2.2)))) ?_
      refine stG (isT h16) ?_
      refine st0 2752 rfl (ok (eqlI _ _)) ?_
      refine st0 2816 rfl (ok (pick_t h16 (.d (eB (y5.2.2 == y9.2.2))) _)) ?_
      refine st0 2880 rfl (ok (mv (.d (eB (y5.2.2 == y9.2.2))))) ?_
      refine hK12 _ _ ?_
      simp only [thenK, blockK, keepE, updM, List.filter_cons, List.filter_nil, List.nil_append, List.cons_append, List.map_cons, List.map_nil, envE, Mem.get, Nat.reduceEqDiff, reduceIte, Option.isNone_none, Option.isNone_some, Bool.false_eq_true, List.length_cons, List.length_nil, Nat.reduceAdd, Nat.reduceMul]
      refine hK11 _ _ _ ?_
      refine rwp_ret ?_
      obtain rfl := Option.some.inj h
      try simp only [thenK, blockK, reduceIte]
      exact end_ok trivial (rs_t (v := .d (eB (y5.2.2 == y9.2.2))) rfl rs_nil) (en_d (to_d _) en_nil) ou_nil (by first | exact eok rfl rfl rfl rfl trivial | (refine eok ?_ ?_ ?_ ?_ ?_ <;> first | rfl | exact trivial | simp [retM, Mem.get, PV.renL, PV.ren, Blk.ren, comps, rhoR, rhoM, appN, PV.refsL, PV.refs, keys, nodupB, Blk.refs, allIn, Blk.bor]))
    · replace h := ite_f h h16
      refine stGN 2624 rfl rfl h16 ?_
      refine stGN 2688 rfl rfl h16 ?_
      refine stGN 2752 rfl rfl h16 ?_
      refine st0 2816 rfl (ok (pick_f h16 _ (.d (eB false)))) ?_
      refine st0 2880 rfl (ok (mv (.d (eB false)))) ?_
      refine hK12 _ _ ?_
      simp only [thenK, blockK, keepE, updM, List.filter_cons, List.filter_nil, List.nil_append, List.cons_append, List.map_cons, List.map_nil, envE, Mem.get, Nat.reduceEqDiff, reduceIte, Option.isNone_none, Option.isNone_some, Bool.false_eq_true, List.length_cons, List.length_nil, Nat.reduceAdd, Nat.reduceMul]
      refine hK11 _ _ _ ?_
      refine rwp_ret ?_
      obtain rfl := Option.some.inj h
      try simp only [thenK, blockK, reduceIte]
      exact end_ok trivial (rs_t (v := .d (eB false)) rfl rs_nil) (en_d (to_d _) en_nil) ou_nil (by first | exact eok rfl rfl rfl rfl trivial | (refine eok ?_ ?_ ?_ ?_ ?_ <;> first | rfl | exact trivial | simp [retM, Mem.get, PV.renL, PV.ren, Blk.ren, comps, rhoR, rhoM, appN, PV.refsL, PV.refs, keys, nodupB, Blk.refs, allIn, Blk.bor]))
  · replace h := ite_f h h15
    refine stGN 2304 rfl rfl h15 ?_
    refine stGN 2368 rfl rfl h15 ?_
    refine stGN 2432 rfl rfl h15 ?_
    refine st0 2496 rfl (ok (pick_f h15 _ (.d (eB false)))) ?_
    refine st0 2560 rfl (ok (mv (.d (eB false)))) ?_
    refine stGN 2624 rfl rfl rfl ?_
    refine stGN 2688 rfl rfl rfl ?_
    refine stGN 2752 rfl rfl rfl ?_
    refine st0 2816 rfl (ok (pick_f rfl _ (.d (eB false)))) ?_
    refine st0 2880 rfl (ok (mv (.d (eB false)))) ?_
    refine hK12 _ _ ?_
    simp only [thenK, blockK, keepE, updM, List.filter_cons, List.filter_nil, List.nil_append, List.cons_append, List.map_cons, List.map_nil, envE, Mem.get, Nat.reduceEqDiff, reduceIte, Option.isNone_none, Option.isNone_some, Bool.false_eq_true, List.length_cons, List.length_nil, Nat.reduceAdd, Nat.reduceMul]
    refine hK11 _ _ _ ?_
    refine rwp_ret ?_
    obtain rfl := Option.some.inj h
    try simp only [thenK, blockK, reduceIte]
    exact end_ok trivial (rs_t (v := .d (eB false)) rfl rs_nil) (en_d (to_d _) en_nil) ou_nil (by first | exact eok rfl rfl rfl rfl trivial | (refine eok ?_ ?_ ?_ ?_ ?_ <;> first | rfl | exact trivial | simp [retM, Mem.get, PV.renL, PV.ren, Blk.ren, comps, rhoR, rhoM, appN, PV.refsL, PV.refs, keys, nodupB, Blk.refs, allIn, Blk.bor]))

/-- passkey/passkeylaw7.FlashPrograms -/
def passkeylaw7FlashProgramsH : Hints := ⟨[(0, [0, 1, 2, 3, 4, 5, 6]), (1, [0, 1, 2, 3, 4, 5, 6, 18]), (2, [14]), (3, [2, 3, 4, 5, 15]), (4, [14])], []⟩
def passkeylaw7FlashProgramsRc : RCode :=
  .seq (.region false [⟨some 14, .mv, [.k (.d (.bool false))], none, []⟩] [0, 1, 2, 3, 4, 5, 6]) (.seq (.seq (.region false [⟨some 16, .mv, [.t 4], none, []⟩, ⟨some 17, .len, [.t
  16], none, []⟩, ⟨some 18, .bin .gtr, [.t 17, .k (.d (.int .i64 700))], none, []⟩] [0, 1, 2, 3, 4, 5, 6, 18]) (.cond (.t 18) (.seq (.region false [⟨some 19, .call 9 false, [],
  none, []⟩, ⟨some 14, .mv, [.t 19], none, []⟩] [14]) .ret) .skip)) (.seq (.region false [⟨some 20, .mv, [.t 0], none, []⟩, ⟨some 21, .mv, [.t 1], none, []⟩, ⟨some 22, .call 16
  true, [.t 20, .t 21], none, []⟩, ⟨some 23, .mv, [.t 6], none, []⟩, ⟨some 24, .call 15 true, [.t 22, .t 23], none, []⟩, ⟨some 15, .alloc [.d (.int .i64 0), .nil 1], [], none, []⟩,
  ⟨none, .store 2, [.t 15, .t 24], none, []⟩] [2, 3, 4, 5, 15]) (.seq (.region false [⟨some 25, .load 2 true, [.t 15], none, []⟩, ⟨some 26, .mv, [.t 2], none, []⟩, ⟨some 27, .bin
  .and, [.t 26, .k (.d (.int .i64 3))], none, []⟩, ⟨some 28, .mv, [.t 3], none, []⟩, ⟨some 29, .bin .and, [.t 28, .k (.d (.int .i64 511))], none, []⟩, ⟨some 30, .mv, [.t 4], none,
  []⟩, ⟨some 31, .mv, [.t 5], none, []⟩, ⟨some 32, .bin .and, [.t 31, .k (.d (.int .i64 255))], none, []⟩, ⟨some 33, .bin .sub, [.t 32, .k (.d (.int .i64 20))], none, []⟩, ⟨some
  34, .call 19 false, [.t 25, .t 27, .t 29, .t 30, .t 33], none, []⟩, ⟨some 35, .mv, [.t 34], none, []⟩, ⟨some 36, .load 2 true, [.t 15], some (35, true), []⟩, ⟨some 37, .mv, [.t
  2], some (35, true), []⟩, ⟨some 38, .mv, [.t 3], some (35, true), []⟩, ⟨some 39, .mv, [.t 4], some (35, true), []⟩, ⟨some 40, .mv, [.t 5], some (35, true), []⟩, ⟨some 41, .call
  19 false, [.t 36, .t 37, .t 38, .t 39, .t 40], some (35, true), []⟩, ⟨some 42, .pick, [.t 35, .t 41, .k (.d (.bool false))], none, []⟩, ⟨some 43, .mv, [.t 42], none, []⟩, ⟨some
  44, .call 9 false, [], some (43, true), []⟩, ⟨some 45, .pick, [.t 43, .t 44, .k (.d (.bool false))], none, []⟩, ⟨some 14, .mv, [.t 45], none, []⟩] [14]) .ret)))
def passkeylaw7FlashProgramsRr : List RR := [.t 14]
theorem passkeylaw7FlashProgramsC : compFn Try.prog 5 passkeylaw7FlashProgramsH = some (passkeylaw7FlashProgramsRc, passkeylaw7FlashProgramsRr, 46) := by kernel_rfl
theorem passkeylaw7FlashProgramsOK (a0 : Int) (a1 : List (Int)) (a2 : Int) (a3 : Int) (a4 : List (BitVec 8)) (a5 : Int) (a6 : Int) (res : Bool) (h : passkeylaw7FlashPrograms a0 a1 a2 a3 a4 a5 a6 = some res) : CallOK Try.prog 5 [.d (eI a0), .d ((eL 1 eI) a1), .d (eI a2), .d (eI a3), .d ((eL 1 eU8) a4), .d (eI a5), .d (eI a6)] [] (.d (eB res)) [] := by
  unfold passkeylaw7FlashPrograms at h
  refine callOK passkeylaw7FlashProgramsC fm rfl ?_
  simp only [initE, initM, nbor, List.map_cons, List.map_nil, Nat.reduceAdd]
  unfold passkeylaw7FlashProgramsRc
  refine rwp_seq fun K1 hK1 => ?_
  refine rwp_region fun K2 hK2 => ?_
  refine st0 128 rfl (ok (mv (.d (eB false)))) ?_
  refine hK2 _ _ ?_
  simp only [thenK, blockK, keepE, updM, List.filter_cons, List.filter_nil, List.nil_append, List.cons_append, List.map_cons, List.map_nil, envE, Mem.get, Nat.reduceEqDiff, reduceIte, Option.isNone_none, Option.isNone_some, Bool.false_eq_true, List.length_cons, List.length_nil, Nat.reduceAdd, Nat.reduceMul]
  refine hK1 _ _ _ ?_
  refine rwp_seq fun K3 hK3 => ?_
  refine rwp_seq fun K4 hK4 => ?_
  refine rwp_region fun K5 hK5 => ?_
  refine st0 192 rfl (ok (mv (.d ((eL 1 eU8) a4)))) ?_
  refine st0 256 rfl (ok (lenL _ _)) ?_
  refine st0 320 rfl (ok (gtrI _ (700 : Int))) ?_
  refine hK5 _ _ ?_
  simp only [thenK, blockK, keepE, updM, List.filter_cons, List.filter_nil, List.nil_append, List.cons_append, List.map_cons, List.map_nil, envE, Mem.get, Nat.reduceEqDiff, reduceIte, Option.isNone_none, Option.isNone_some, Bool.false_eq_true, List.length_cons, List.length_nil, Nat.reduceAdd, Nat.reduceMul]
  refine hK4 _ _ _ ?_
  rcases Bool.eq_false_or_eq_true ((decide ((700 : Int) < (a4.length : Int)))) with h6 | h6
  · replace h := ite_t h h6
    refine rwp_t (isT h6) ?_
    refine rwp_seq fun K7 hK7 => ?_
    refine rwp_region fun K8 hK8 => ?_
    obtain ⟨y9, h10, h⟩ := bind_inv h
    refine st0 384 rfl (call_ok (v := .d (eB y9)) (u := []) ar_nil rfl (passkeylaw7awakeOK  y9 h10) rfl) ?_
    refine st0 448 rfl (ok (mv (.d (eB y9)))) ?_
    refine hK8 _ _ ?_
    simp only [thenK, blockK, keepE, updM, List.filter_cons, List.filter_nil, List.nil_append, List.cons_append, List.map_cons, List.map_nil, envE, Mem.get, Nat.reduceEqDiff, reduceIte, Option.isNone_none, Option.isNone_some, Bool.false_eq_true, List.length_cons, List.length_nil, Nat.reduceAdd, Nat.reduceMul]
    refine hK7 _ _ _ ?_
    refine rwp_ret ?_
    obtain rfl := Option.some.inj h
    try simp only [thenK, blockK, reduceIte]
    exact end_ok trivial (rs_t (v := .d (eB y9)) rfl rs_nil) (en_d (to_d _) en_nil) ou_nil (by first | exact eok rfl rfl rfl rfl trivial | (refine eok ?_ ?_ ?_ ?_ ?_ <;> first | rfl | exact trivial | simp [retM, Mem.get, PV.renL, PV.ren, Blk.ren, comps, rhoR, rhoM, appN, PV.refsL, PV.refs, keys, nodupB, Blk.refs, allIn, Blk.bor]))
  · replace h := ite_f h h6
    refine rwp_f (isF h6) ?_
    refine rwp_skip ?_
    refine hK3 _ _ _ ?_
    refine rwp_seq fun K11 hK11 => ?_
    refine rwp_region fun K12 hK12 => ?_
    refine st0 384 rfl (ok (mv (.d (eI a0)))) ?_
    refine st0 448 rfl (ok (mv (.d ((eL 1 eI) a1)))) ?_
    obtain ⟨y13, h14, h⟩ := bind_inv h
    refine st0 512 rfl (call_ok (v := .d (eTApiFlash y13)) (u := []) (ar_d (eI a0) (ar_d ((eL 1 eI) a1) ar_nil)) rfl (passkeylaw7madeOK a0 a1 y13 h14) rfl) ?_
    refine st0 576 rfl (ok (mv (.d (eI a6)))) ?_
    obtain ⟨y15, h16, h⟩ := bind_inv h
    refine st0 640 rfl (call_ok (v := .d (eTApiFlash y15)) (u := []) (ar_d (eTApiFlash y13) (ar_d (eI a6) ar_nil)) rfl (passkeylaw7spoilOK y13 a6 y15 h16) rfl) ?_
    refine st1 704 rfl (mem' := [(640, .var .mine [.d (eI (0 : Int)), .nil 1])]) (ok (alc (zs := [.d (eI (0 : Int)), .nil 1]))) rfl ?_
    refine stn 768 rfl (mem' := [(640, .var .mine [.d (eI y15.PageSize), .d ((eL 1 eU8) y15.Bytes)])]) (ok (sto_v (ps' := [.d (eI y15.PageSize), .d ((eL 1 eU8) y15.Bytes)]) rfl rfl rfl rfl)) rfl ?_
    refine hK12 _ _ ?_
    simp only [thenK, blockK, keepE, updM, List.filter_cons, List.filter_nil, List.nil_append, List.cons_append, List.map_cons, List.map_nil, envE, Mem.get, Nat.reduceEqDiff, reduceIte, Option.isNone_none, Option.isNone_some, Bool.false_eq_true, List.length_cons, List.length_nil, Nat.reduceAdd, Nat.reduceMul]
    refine hK11 _ _ _ ?_
    refine rwp_seq fun K17 hK17 => ?_
    refine rwp_region fun K18 hK18 => ?_
    refine st0 832 rfl (ok (ld_v (v := .d (.agg [eI y15.PageSize, (eL 1 eU8) y15.Bytes])) rfl rfl rfl)) ?_
    refine st0 896 rfl (ok (mv (.d (eI a2)))) ?_
    refine st0 960 rfl (ok (andI _ (3 : Int))) ?_
    refine st0 1024 rfl (ok (mv (.d (eI a3)))) ?_
    refine st0 1088 rfl (ok (andI _ (511 : Int))) ?_
    refine st0 1152 rfl (ok (mv (.d ((eL 1 eU8) a4)))) ?_
    refine st0 1216 rfl (ok (mv (.d (eI a5)))) ?_
    refine st0 1280 rfl (ok (andI _ (255 : Int))) ?_
    refine st0 1344 rfl (ok (subI _ (20 : Int))) ?_
    obtain ⟨y19, h20, h⟩ := bind_inv h
    refine st0 1408 rfl (call_ok (v := .d (eB y19)) (u := []) (ar_d (eTApiFlash (TApiFlash.mk y15.PageSize y15.Bytes)) (ar_d (eI (ibits .and .i64 a2 (3 : Int))) (ar_d (eI (ibits .and .i64 a3 (511 : Int))) (ar_d ((eL 1 eU8) a4) (ar_d (eI (w64 ((ibits .and .i64 a5 (255 : Int)) - (20 : Int)))) ar_nil))))) rfl (passkeylaw7programsOK (TApiFlash.mk y15.PageSize y15.Bytes) (ibits .and .i64 a2 (3 : Int)) (ibits .and .i64 a3 (511 : Int)) a4 (w64 ((ibits .and .i64 a5 (255 : Int)) - (20 : Int))) y19 h20) rfl) ?_
    refine st0 1472 rfl (ok (mv (.d (eB y19)))) ?_
    rcases Bool.eq_false_or_eq_true (y19) with h21 | h21
    · replace h := ite_t h h21
      refine stG (isT h21) ?_
      refine st0 1536 rfl (ok (ld_v (v := .d (.agg [eI y15.PageSize, (eL 1 eU8) y15.Bytes])) rfl rfl rfl)) ?_
      refine stG (isT h21) ?_
      refine st0 1600 rfl (ok (mv (.d (eI a2)))) ?_
      refine stG (isT h21) ?_
      refine st0 1664 rfl (ok (mv (.d (eI a3)))) ?_
      refine stG (isT h21) ?_
      refine st0 1728 rfl (ok (mv (.d ((eL 1 eU8) a4)))) ?_
      refine stG (isT h21) ?_
      refine st0 1792 rfl (ok (mv (.d (eI a5)))) ?_
      refine stG (isT h21) ?_
      obtain ⟨y22, h23, h⟩ := bind_inv h
      refine st0 1856 rfl (call_ok (v := .d (eB y22)) (u := []) (ar_d (eTApiFlash (TApiFlash.mk y15.PageSize y15.Bytes)) (ar_d (eI a2) (ar_d (eI a3) (ar_d ((eL 1 eU8) a4) (ar_d (eI a5) ar_nil))))) rfl (passkeylaw7programsOK (TApiFlash.mk y15.PageSize y15.Bytes) a2 a3 a4 a5 y22 h23) rfl) ?_
      refine st0 1920 rfl (ok (pick_t h21 (.d (eB y22)) _)) ?_
      refine st0 1984 rfl (ok (mv (.d (eB y22)))) ?_
      rcases Bool.eq_false_or_eq_true (y22) with h24 | h24
      · replace h := ite_t h h24
        refine stG (isT h24) ?_
        obtain ⟨y25, h26, h⟩ := bind_inv h
        refine st0 2048 rfl (call_ok (v := .d (eB y25)) (u := []) ar_nil rfl (passkeylaw7awakeOK  y25 h26) rfl) ?_
        refine st0 2112 rfl (ok (pick_t h24 (.d (eB y25)) _)) ?_
        refine st0 2176 rfl (ok (mv (.d (eB y25)))) ?_
        refine hK18 _ _ ?_
        simp only [thenK, blockK, keepE, updM, List.filter_cons, List.filter_nil, List.nil_append, List.cons_append, List.map_cons, List.map_nil, envE, Mem.get, Nat.reduceEqDiff, reduceIte, Option.isNone_none, Option.isNone_some, Bool.false_eq_true, List.length_cons, List.length_nil, Nat.reduceAdd, Nat.reduceMul]
        refine hK17 _ _ _ ?_
        refine rwp_ret ?_
        obtain rfl := Option.some.inj h
        try simp only [thenK, blockK, reduceIte]
        exact end_ok trivial (rs_t (v := .d (eB y25)) rfl rs_nil) (en_d (to_d _) en_nil) ou_nil (by first | exact eok rfl rfl rfl rfl trivial | (refine eok ?_ ?_ ?_ ?_ ?_ <;> first | rfl | exact trivial | simp [retM, Mem.get, PV.renL, PV.ren, Blk.ren, comps, rhoR, rhoM, appN, PV.refsL, PV.refs, keys, nodupB, Blk.refs, allIn, Blk.bor]))
      · replace h := ite_f h h24
        refine stGN 2048 rfl rfl h24 ?_
        refine st0 2112 rfl (ok (pick_f h24 _ (.d (eB false)))) ?_
        refine st0 2176 rfl (ok (mv (.d (eB false)))) ?_
        refine hK18 _ _ ?_
        simp only [thenK, blockK, keepE, updM, List.filter_cons, List.filter_nil, List.nil_append, List.cons_append, List.map_cons, List.map_nil, envE, Mem.get, Nat.reduceEqDiff, reduceIte, Option.isNone_none, Option.isNone_some, Bool.false_eq_true, List.length_cons, List.length_nil, Nat.reduceAdd, Nat.reduceMul]
        refine hK17 _ _ _ ?_
        refine rwp_ret ?_
        obtain rfl := Option.some.inj h
        try simp only [thenK, blockK, reduceIte]
        exact end_ok trivial (rs_t (v := .d (eB false)) rfl rs_nil) (en_d (to_d _) en_nil) ou_nil (by first | exact eok rfl rfl rfl rfl trivial | (refine eok ?_ ?_ ?_ ?_ ?_ <;> first | rfl | exact trivial | simp [retM, Mem.get, PV.renL, PV.ren, Blk.ren, comps, rhoR, rhoM, appN, PV.refsL, PV.refs, keys, nodupB, Blk.refs, allIn, Blk.bor]))
    · replace h := ite_f h h21
      refine stGN 1536 rfl rfl h21 ?_
      refine stGN 1600 rfl rfl h21 ?_
      refine stGN 1664 rfl rfl h21 ?_
      refine stGN 1728 rfl rfl h21 ?_
      refine stGN 1792 rfl rfl h21 ?_
      refine stGN 1856 rfl rfl h21 ?_
      refine st0 1920 rfl (ok (pick_f h21 _ (.d (eB false)))) ?_
      refine st0 1984 rfl (ok (mv (.d (eB false)))) ?_
      refine stGN 2048 rfl rfl rfl ?_
      refine st0 2112 rfl (ok (pick_f rfl _ (.d (eB false)))) ?_
      refine st0 2176 rfl (ok (mv (.d (eB false)))) ?_
      refine hK18 _ _ ?_
      simp only [thenK, blockK, keepE, updM, List.filter_cons, List.filter_nil, List.nil_append, List.cons_append, List.map_cons, List.map_nil, envE, Mem.get, Nat.reduceEqDiff, reduceIte, Option.isNone_none, Option.isNone_some, Bool.false_eq_true, List.length_cons, List.length_nil, Nat.reduceAdd, Nat.reduceMul]
      refine hK17 _ _ _ ?_
      refine rwp_ret ?_
      obtain rfl := Option.some.inj h
      try simp only [thenK, blockK, reduceIte]
      exact end_ok trivial (rs_t (v := .d (eB false)) rfl rs_nil) (en_d (to_d _) en_nil) ou_nil (by first | exact eok rfl rfl rfl rfl trivial | (refine eok ?_ ?_ ?_ ?_ ?_ <;> first | rfl | exact trivial | simp [retM, Mem.get, PV.renL, PV.ren, Blk.ren, comps, rhoR, rhoM, appN, PV.refsL, PV.refs, keys, nodupB, Blk.refs, allIn, Blk.bor]))

end Go.Proofs.Ty
