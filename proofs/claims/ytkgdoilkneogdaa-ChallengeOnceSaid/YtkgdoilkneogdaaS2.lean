/- Each Go function comes to what its plain function says. PRINTED by a program of this session (ty.py). -/
import Derived.Test.YtkgdoilkneogdaaS1
set_option linter.unusedVariables false
set_option linter.unusedSimpArgs false
set_option maxHeartbeats 4000000
set_option maxRecDepth 10000
namespace Go.Proofs.Ty
open Go Go.RW Go.Proofs
/-- passkey/digest.Sum -/
def digestSumH : Hints := ⟨[(0, [0, 1, 2]), (1, [2, 7]), (2, [2, 7, 8]), (3, [2, 7, 8, 25]), (4, [2, 7, 8]), (5, [2, 7, 8]), (6, [7]), (7, [7]), (8, [7]), (9, [6])], []⟩
def digestSumRc : RCode :=
  .seq (.region false [⟨some 6, .mv, [.k (.d (.int .u64 0))], none, []⟩] [0, 1, 2]) (.seq (.region false [⟨some 9, .mv, [.t 0], none, []⟩, ⟨some 10, .bin .xor, [.t 9, .k (.d (.int
  .u64 8317987319222330741))], none, []⟩, ⟨some 11, .mv, [.t 1], none, []⟩, ⟨some 12, .bin .xor, [.t 11, .k (.d (.int .u64 7237128888997146477))], none, []⟩, ⟨some 13, .mv, [.t 0],
  none, []⟩, ⟨some 14, .bin .xor, [.t 13, .k (.d (.int .u64 7816392313619706465))], none, []⟩, ⟨some 15, .mv, [.t 1], none, []⟩, ⟨some 16, .bin .xor, [.t 15, .k (.d (.int .u64
  8387220255154660723))], none, []⟩, ⟨some 17, .build [.d (.int .u64 0), .d (.int .u64 0), .d (.int .u64 0), .d (.int .u64 0)] [(0, 1), (1, 1), (2, 1), (3, 1)], [.t 10, .t 12, .t
  14, .t 16], none, []⟩, ⟨some 18, .box, [.t 17], none, []⟩, ⟨some 7, .mv, [.t 18], none, []⟩] [2, 7]) (.seq (.region false [⟨some 19, .mv, [.t 2], none, []⟩, ⟨some 20, .len, [.t
  19], none, []⟩, ⟨some 21, .cvt .u64, [.t 20], none, []⟩, ⟨some 22, .bin .shl, [.t 21, .k (.d (.int .u64 56))], none, []⟩, ⟨some 8, .mv, [.t 22], none, []⟩] [2, 7, 8]) (.seq
  (.block 0 (.loop [] (.seq (.seq (.region false [⟨some 23, .mv, [.t 2], none, []⟩, ⟨some 24, .len, [.t 23], none, []⟩, ⟨some 25, .bin .geq, [.t 24, .k (.d (.int .i64 8))], none,
  []⟩] [2, 7, 8, 25]) (.cond (.t 25) .skip (.exit 0))) (.block 1 (.seq (.region false [⟨some 26, .mv, [.t 7], none, []⟩, ⟨some 27, .mv, [.t 2], none, []⟩, ⟨some 28, .slice 1 false
  true false, [.t 27, .k (.d (.int .i64 8))], none, []⟩, ⟨some 29, .call 22 false, [.t 28], none, []⟩, ⟨some 30, .call 21 false, [.t 26, .t 29], none, []⟩] [2, 7, 8]) (.region
  false [⟨some 31, .mv, [.t 2], none, []⟩, ⟨some 32, .slice 1 true false false, [.t 31, .k (.d (.int .i64 8))], none, []⟩, ⟨some 2, .mv, [.t 32], none, []⟩] [2, 7, 8])))))) (.seq
  (.region false [⟨some 33, .mv, [.t 7], none, []⟩, ⟨some 34, .mv, [.t 8], none, []⟩, ⟨some 35, .mv, [.t 2], none, []⟩, ⟨some 36, .call 22 false, [.t 35], none, []⟩, ⟨some 37, .bin
  .or, [.t 34, .t 36], none, []⟩, ⟨some 38, .call 21 false, [.t 33, .t 37], none, []⟩] [7]) (.seq (.region false [⟨some 39, .mv, [.t 7], none, []⟩, ⟨some 40, .chk, [.t 39], none,
  []⟩, ⟨some 41, .fa 2, [.t 40], none, []⟩, ⟨some 42, .load 1 false, [.t 41], none, []⟩, ⟨some 43, .bin .xor, [.t 42, .k (.d (.int .u64 255))], none, []⟩, ⟨some 44, .chk, [.t 39],
  none, []⟩, ⟨some 45, .fa 2, [.t 44], none, []⟩, ⟨none, .store 1, [.t 45, .t 43], none, []⟩] [7]) (.seq (.region false [⟨some 46, .mv, [.t 7], none, []⟩, ⟨some 47, .call 23 false,
  [.t 46, .k (.d (.int .i64 4))], none, []⟩] [7]) (.seq (.region true [⟨some 48, .mv, [.t 7], none, []⟩, ⟨some 49, .chk, [.t 48], none, [0]⟩, ⟨some 50, .fa 0, [.t 49], none, [0,
  1]⟩, ⟨some 51, .load 1 false, [.t 50], none, [0, 1, 2]⟩, ⟨some 52, .mv, [.t 7], none, []⟩, ⟨some 53, .chk, [.t 52], none, [4]⟩, ⟨some 54, .fa 1, [.t 53], none, [4, 5]⟩, ⟨some 55,
  .load 1 false, [.t 54], none, [4, 5, 6]⟩, ⟨some 56, .bin .xor, [.t 51, .t 55], none, [0, 1, 2, 3, 4, 5, 6, 7]⟩, ⟨some 57, .mv, [.t 7], none, []⟩, ⟨some 58, .chk, [.t 57], none,
  [9]⟩, ⟨some 59, .fa 2, [.t 58], none, [9, 10]⟩, ⟨some 60, .load 1 false, [.t 59], none, [9, 10, 11]⟩, ⟨some 61, .bin .xor, [.t 56, .t 60], none, [0, 1, 2, 3, 4, 5, 6, 7, 8, 9,
  10, 11, 12]⟩, ⟨some 62, .mv, [.t 7], none, []⟩, ⟨some 63, .chk, [.t 62], none, [14]⟩, ⟨some 64, .fa 3, [.t 63], none, [14, 15]⟩, ⟨some 65, .load 1 false, [.t 64], none, [14, 15,
  16]⟩, ⟨some 66, .bin .xor, [.t 61, .t 65], none, [0, 1, 2, 3, 4, 5, 6, 7, 8, 9, 10, 11, 12, 13, 14, 15, 16, 17]⟩, ⟨some 6, .mv, [.t 66], none, [0, 1, 2, 3, 4, 5, 6, 7, 8, 9, 10,
  11, 12, 13, 14, 15, 16, 17, 18]⟩] [6]) .ret)))))))
def digestSumRr : List RR := [.t 6]
theorem digestSumC : compFn Try.prog 19 digestSumH = some (digestSumRc, digestSumRr, 67) := by kernel_rfl
theorem digestSumOK (a0 : BitVec 64) (a1 : BitVec 64) (a2 : List (BitVec 8)) (res : BitVec 64) (h : digestSum a0 a1 a2 = some res) : CallOK Try.prog 19 [.d (eU64 a0), .d (eU64 a1), .d ((eL 1 eU8) a2)] [] (.d (eU64 res)) [] := by
  unfold digestSum at h
  refine callOK digestSumC fm rfl ?_
  simp only [initE, initM, nbor, List.map_cons, List.map_nil, Nat.reduceAdd]
  unfold digestSumRc
  refine rwp_seq fun K1 hK1 => ?_
  refine rwp_region fun K2 hK2 => ?_
  refine st0 128 rfl (ok (mv (.d (eU64 (0#64))))) ?_
  refine hK2 _ _ ?_
  simp only [thenK, blockK, keepE, updM, List.filter_cons, List.filter_nil, List.nil_append, List.cons_append, List.map_cons, List.map_nil, envE, Mem.get, Nat.reduceEqDiff, reduceIte, Option.isNone_none, Option.isNone_some, Bool.false_eq_true, List.length_cons, List.length_nil, Nat.reduceAdd, Nat.reduceMul]
  refine hK1 _ _ _ ?_
  refine rwp_seq fun K3 hK3 => ?_
  refine rwp_region fun K4 hK4 => ?_
  refine st0 192 rfl (ok (mv (.d (eU64 a0)))) ?_
  refine st0 256 rfl (ok (xor64 _ (8317987319222330741#64))) ?_
  refine st0 320 rfl (ok (mv (.d (eU64 a1)))) ?_
  refine st0 384 rfl (ok (xor64 _ (7237128888997146477#64))) ?_
  refine st0 448 rfl (ok (mv (.d (eU64 a0)))) ?_
  refine st0 512 rfl (ok (xor64 _ (7816392313619706465#64))) ?_
  refine st0 576 rfl (ok (mv (.d (eU64 a1)))) ?_
  refine st0 640 rfl (ok (xor64 _ (8387220255154660723#64))) ?_
  refine st0 704 rfl (ok (bld (v := .d (.agg [eU64 (a0 ^^^ (8317987319222330741#64)), eU64 (a1 ^^^ (7237128888997146477#64)), eU64 (a0 ^^^ (7816392313619706465#64)), eU64 (a1 ^^^ (8387220255154660723#64))])) rfl rfl)) ?_
  refine st1 768 rfl (mem' := [(704, .var .mine [.d (eU64 (a0 ^^^ (8317987319222330741#64))), .d (eU64 (a1 ^^^ (7237128888997146477#64))), .d (eU64 (a0 ^^^ (7816392313619706465#64))), .d (eU64 (a1 ^^^ (8387220255154660723#64)))])]) (ok (bx (ps := [.d (eU64 (a0 ^^^ (8317987319222330741#64))), .d (eU64 (a1 ^^^ (7237128888997146477#64))), .d (eU64 (a0 ^^^ (7816392313619706465#64))), .d (eU64 (a1 ^^^ (8387220255154660723#64)))]) rfl rfl)) rfl ?_
  refine st0 832 rfl (ok (mv (.ptr 704 0))) ?_
  refine hK4 _ _ ?_
  simp only [thenK, blockK, keepE, updM, List.filter_cons, List.filter_nil, List.nil_append, List.cons_append, List.map_cons, List.map_nil, envE, Mem.get, Nat.reduceEqDiff, reduceIte, Option.isNone_none, Option.isNone_some, Bool.false_eq_true, List.length_cons, List.length_nil, Nat.reduceAdd, Nat.reduceMul]
  refine hK3 _ _ _ ?_
  refine rwp_seq fun K5 hK5 => ?_
  refine rwp_region fun K6 hK6 => ?_
  refine st0 896 rfl (ok (mv (.d ((eL 1 eU8) a2)))) ?_
  refine st0 960 rfl (ok (lenL _ _)) ?_
  refine st0 1024 rfl (ok (ofI64 _ (a2.length : Int))) ?_
  refine st0 1088 rfl (ok (shlL64 _ 56 rfl)) ?_
  refine st0 1152 rfl (ok (mv (.d (eU64 ((BitVec.ofInt 64 (a2.length : Int)) <<< 56))))) ?_
  refine hK6 _ _ ?_
  simp only [thenK, blockK, keepE, updM, List.filter_cons, List.filter_nil, List.nil_append, List.cons_append, List.map_cons, List.map_nil, envE, Mem.get, Nat.reduceEqDiff, reduceIte, Option.isNone_none, Option.isNone_some, Bool.false_eq_true, List.length_cons, List.length_nil, Nat.reduceAdd, Nat.reduceMul]
  refine hK5 _ _ _ ?_
  refine rwp_join ([], []) 2240 (fun env mem => ∃ (v7 : List (BitVec 8)) (v8 : BitVec 64) (v9 : BitVec 64) (v10 : BitVec 64) (v11 : BitVec 64), digestSumJ1 a2 v7 v8 v9 v10 v11 = some res ∧ env = [(2, .d ((eL 1 eU8) v7)), (7, .ptr 704 0), (8, .d (eU64 ((BitVec.ofInt 64 (a2.length : Int)) <<< 56)))] ∧ mem = [(704, .var .mine [.d (eU64 v8), .d (eU64 v9), .d (eU64 v10), .d (eU64 v11)])]) (fun _ _ hI => ?_) (fun K12 hK12 => ?_)
  · obtain ⟨v7, v8, v9, v10, v11, h, rfl, rfl⟩ := hI
    unfold digestSumJ1 at h
    refine rwp_seq fun K13 hK13 => ?_
    refine rwp_region fun K14 hK14 => ?_
    refine st0 2304 rfl (ok (mv (.ptr 704 0))) ?_
    refine st0 2368 rfl (ok (mv (.d (eU64 ((BitVec.ofInt 64 (a2.length : Int)) <<< 56))))) ?_
    refine st0 2432 rfl (ok (mv (.d ((eL 1 eU8) v7)))) ?_
    obtain ⟨y15, h16, h⟩ := bind_inv h
    refine st0 2496 rfl (call_ok (v := .d (eU64 y15)) (u := []) (ar_d ((eL 1 eU8) v7) ar_nil) rfl (digestlittleOK v7 y15 h16) rfl) ?_
    refine st0 2560 rfl (ok (or64 _ _)) ?_
    obtain ⟨y17, h18, h⟩ := bind_inv h
    refine st1 2624 rfl (mem' := [(704, .var .mine [.d (eU64 y17.v0), .d (eU64 y17.v1), .d (eU64 y17.v2), .d (eU64 y17.v3)])]) (call_ok (v := .tup []) (u := [(704, .var .mine [.d (eU64 y17.v0), .d (eU64 y17.v1), .d (eU64 y17.v2), .d (eU64 y17.v3)])]) (ar_p rfl rfl (ds_d _ (ds_d _ (ds_d _ (ds_d _ ds_nil)))) (ar_d (eU64 (((BitVec.ofInt 64 (a2.length : Int)) <<< 56) ||| y15)) ar_nil)) rfl (digeststatewordOK (TDigeststate.mk v8 v9 v10 v11) (((BitVec.ofInt 64 (a2.length : Int)) <<< 56) ||| y15) y17 h18) rfl) rfl ?_
    refine hK14 _ _ ?_
    simp only [thenK, blockK, keepE, updM, List.filter_cons, List.filter_nil, List.nil_append, List.cons_append, List.map_cons, List.map_nil, envE, Mem.get, Nat.reduceEqDiff, reduceIte, Option.isNone_none, Option.isNone_some, Bool.false_eq_true, List.length_cons, List.length_nil, Nat.reduceAdd, Nat.reduceMul]
    refine hK13 _ _ _ ?_
    refine rwp_seq fun K19 hK19 => ?_
    refine rwp_region fun K20 hK20 => ?_
    refine st0 2688 rfl (ok (mv (.ptr 704 0))) ?_
    refine st0 2752 rfl (ok (chk_ptr _ _)) ?_
    refine st0 2816 rfl (ok (fa_k 2 rfl)) ?_
    refine st0 2880 rfl (ok (ld_v (v := .d (eU64 y17.v2)) rfl rfl rfl)) ?_
    refine st0 2944 rfl (ok (xor64 _ (255#64))) ?_
    refine st0 3008 rfl (ok (chk_ptr _ _)) ?_
    refine st0 3072 rfl (ok (fa_k 2 rfl)) ?_
    refine stn 3136 rfl (mem' := [(704, .var .mine [.d (eU64 y17.v0), .d (eU64 y17.v1), .d (eU64 (y17.v2 ^^^ (255#64))), .d (eU64 y17.v3)])]) (ok (sto_v (ps' := [.d (eU64 y17.v0), .d (eU64 y17.v1), .d (eU64 (y17.v2 ^^^ (255#64))), .d (eU64 y17.v3)]) rfl rfl rfl rfl)) rfl ?_
    refine hK20 _ _ ?_
    simp only [thenK, blockK, keepE, updM, List.filter_cons, List.filter_nil, List.nil_append, List.cons_append, List.map_cons, List.map_nil, envE, Mem.get, Nat.reduceEqDiff, reduceIte, Option.isNone_none, Option.isNone_some, Bool.false_eq_true, List.length_cons, List.length_nil, Nat.reduceAdd, Nat.reduceMul]
    refine hK19 _ _ _ ?_
    refine rwp_seq fun K21 hK21 => ?_
    refine rwp_region fun K22 hK22 => ?_
    refine st0 3200 rfl (ok (mv (.ptr 704 0))) ?_
    obtain ⟨y23, h24, h⟩ := bind_inv h
    refine st1 3264 rfl (mem' := [(704, .var .mine [.d (eU64 y23.v0), .d (eU64 y23.v1), .d (eU64 y23.v2), .d (eU64 y23.v3)])]) (call_ok (v := .tup []) (u := [(704, .var .mine [.d (eU64 y23.v0), .d (eU64 y23.v1), .d (eU64 y23.v2), .d (eU64 y23.v3)])]) (ar_p rfl rfl (ds_d _ (ds_d _ (ds_d _ (ds_d _ ds_nil)))) (ar_d (eI (4 : Int)) ar_nil)) rfl (digeststateroundOK (TDigeststate.mk y17.v0 y17.v1 (y17.v2 ^^^ (255#64)) y17.v3) (4 : Int) y23 h24) rfl) rfl ?_
    refine hK22 _ _ ?_
    simp only [thenK, blockK, keepE, updM, List.filter_cons, List.filter_nil, List.nil_append, List.cons_append, List.map_cons, List.map_nil, envE, Mem.get, Nat.reduceEqDiff, reduceIte, Option.isNone_none, Option.isNone_some, Bool.false_eq_true, List.length_cons, List.length_nil, Nat.reduceAdd, Nat.reduceMul]
    refine hK21 _ _ _ ?_
    refine rwp_seq fun K25 hK25 => ?_
    refine rwp_draw fun K26 hK26 => ?_
    refine dr0 3328 rfl (ok (mv (.ptr 704 0))) (by kernel_rfl) ?_
    refine dr0 3392 rfl (ok (chk_ptr _ _)) (by kernel_rfl) ?_
    refine dr0 3456 rfl (ok (fa_k 0 rfl)) (by kernel_rfl) ?_
    refine dr0 3520 rfl (ok (ld_v (v := .d (eU64 y23.v0)) rfl rfl rfl)) (by kernel_rfl) ?_
    refine dr0 3584 rfl (ok (mv (.ptr 704 0))) (by kernel_rfl) ?_
    refine dr0 3648 rfl (ok (chk_ptr _ _)) (by kernel_rfl) ?_
    refine dr0 3712 rfl (ok (fa_k 1 rfl)) (by kernel_rfl) ?_
    refine dr0 3776 rfl (ok (ld_v (v := .d (eU64 y23.v1)) rfl rfl rfl)) (by kernel_rfl) ?_
    refine dr0 3840 rfl (ok (xor64 _ _)) (by kernel_rfl) ?_
    refine dr0 3904 rfl (ok (mv (.ptr 704 0))) (by kernel_rfl) ?_
    refine dr0 3968 rfl (ok (chk_ptr _ _)) (by kernel_rfl) ?_
    refine dr0 4032 rfl (ok (fa_k 2 rfl)) (by kernel_rfl) ?_
    refine dr0 4096 rfl (ok (ld_v (v := .d (eU64 y23.v2)) rfl rfl rfl)) (by kernel_rfl) ?_
    refine dr0 4160 rfl (ok (xor64 _ _)) (by kernel_rfl) ?_
    refine dr0 4224 rfl (ok (mv (.ptr 704 0))) (by kernel_rfl) ?_
    refine dr0 4288 rfl (ok (chk_ptr _ _)) (by kernel_rfl) ?_
    refine dr0 4352 rfl (ok (fa_k 3 rfl)) (by kernel_rfl) ?_
    refine dr0 4416 rfl (ok (ld_v (v := .d (eU64 y23.v3)) rfl rfl rfl)) (by kernel_rfl) ?_
    refine dr0 4480 rfl (ok (xor64 _ _)) (by kernel_rfl) ?_
    refine dr0 4544 rfl (ok (mv (.d (eU64 (((y23.v0 ^^^ y23.v1) ^^^ y23.v2) ^^^ y23.v3))))) (by kernel_rfl) ?_
    refine hK26 _ _ ?_
    simp only [thenK, blockK, keepE, updM, List.filter_cons, List.filter_nil, List.nil_append, List.cons_append, List.map_cons, List.map_nil, envE, Mem.get, Nat.reduceEqDiff, reduceIte, Option.isNone_none, Option.isNone_some, Bool.false_eq_true, List.length_cons, List.length_nil, Nat.reduceAdd, Nat.reduceMul]
    refine hK25 _ _ _ ?_
    refine rwp_ret ?_
    obtain rfl := Option.some.inj h
    try simp only [thenK, blockK, reduceIte]
    exact Or.inl (end_ok trivial (rs_t (v := .d (eU64 (((y23.v0 ^^^ y23.v1) ^^^ y23.v2) ^^^ y23.v3))) rfl rs_nil) (en_d (to_d _) en_nil) ou_nil (by first | exact eok rfl rfl rfl rfl trivial | (refine eok ?_ ?_ ?_ ?_ ?_ <;> first | rfl | exact trivial | simp [retM, Mem.get, PV.renL, PV.ren, Blk.ren, comps, rhoR, rhoM, appN, PV.refsL, PV.refs, keys, nodupB, Blk.refs, allIn, Blk.bor])))
  · refine rwp_block fun K27 hK27 => ?_
    refine rwp_loop ([], []) 1984 (fun k env mem => ∃ (v28 : List (BitVec 8)) (v29 : BitVec 64) (v30 : BitVec 64) (v31 : BitVec 64) (v32 : BitVec 64), digestSumL2 a2 k v28 v29 v30 v31 v32 = some res ∧ env = [(2, .d ((eL 1 eU8) v28)), (7, .ptr 704 0), (8, .d (eU64 ((BitVec.ofInt 64 (a2.length : Int)) <<< 56)))] ∧ mem = [(704, .var .mine [.d (eU64 v29), .d (eU64 v30), .d (eU64 v31), .d (eU64 v32)])]) FUEL ⟨_, _, Settled.refl, _, _, ⟨_, _, _, _, _, h, rfl, rfl⟩, ⟨rfl, ⟨⟨rfl, rfl⟩, ⟨⟨rfl, rfl⟩, ⟨⟨rfl, rfl⟩, trivial⟩⟩⟩, ⟨⟨rfl, rfl⟩, trivial⟩⟩, rfl⟩ (fun k2 env1 mem1 hI K33 hK33 => ?_)
    obtain ⟨v28, v29, v30, v31, v32, h, rfl, rfl⟩ := hI
    cases k2 with
    | zero => simp [digestSumL2] at h
    | succ k2 =>
      rw [digestSumL2] at h
      refine rwp_seq fun K34 hK34 => ?_
      refine rwp_seq fun K35 hK35 => ?_
      refine rwp_region fun K36 hK36 => ?_
      refine st0 2048 rfl (ok (mv (.d ((eL 1 eU8) v28)))) ?_
      refine st0 2112 rfl (ok (lenL _ _)) ?_
      refine st0 2176 rfl (ok (geqI _ (8 : Int))) ?_
      refine hK36 _ _ ?_
      simp only [thenK, blockK, keepE, updM, List.filter_cons, List.filter_nil, List.nil_append, List.cons_append, List.map_cons, List.map_nil, envE, Mem.get, Nat.reduceEqDiff, reduceIte, Option.isNone_none, Option.isNone_some, Bool.false_eq_true, List.length_cons, List.length_nil, Nat.reduceAdd, Nat.reduceMul]
      refine hK35 _ _ _ ?_
      rcases Bool.eq_false_or_eq_true ((decide ((8 : Int) ≤ (v28.length : Int)))) with h37 | h37
      · replace h := ite_t h h37
        refine rwp_t (isT h37) ?_
        refine rwp_skip ?_
        refine hK34 _ _ _ ?_
        refine rwp_block fun K38 hK38 => ?_
        refine rwp_seq fun K39 hK39 => ?_
        refine rwp_region fun K40 hK40 => ?_
        refine st0 2240 rfl (ok (mv (.ptr 704 0))) ?_
        refine st0 2304 rfl (ok (mv (.d ((eL 1 eU8) v28)))) ?_
        obtain ⟨h41, h⟩ := asq_inv h
        refine st0 2368 rfl (ok (slL_h (xs := v28) (e := eU8) h41)) ?_
        obtain ⟨y42, h43, h⟩ := bind_inv h
        refine st0 2432 rfl (call_ok (v := .d (eU64 y42)) (u := []) (ar_d ((eL 1 eU8) (dropTake 0 (8 : Int).toNat v28)) ar_nil) rfl (digestlittleOK (dropTake 0 (8 : Int).toNat v28) y42 h43) rfl) ?_
        obtain ⟨y44, h45, h⟩ := bind_inv h
        refine st1 2496 rfl (mem' := [(704, .var .mine [.d (eU64 y44.v0), .d (eU64 y44.v1), .d (eU64 y44.v2), .d (eU64 y44.v3)])]) (call_ok (v := .tup []) (u := [(704, .var .mine [.d (eU64 y44.v0), .d (eU64 y44.v1), .d (eU64 y44.v2), .d (eU64 y44.v3)])]) (ar_p rfl rfl (ds_d _ (ds_d _ (ds_d _ (ds_d _ ds_nil)))) (ar_d (eU64 y42) ar_nil)) rfl (digeststatewordOK (TDigeststate.mk v29 v30 v31 v32) y42 y44 h45) rfl) rfl ?_
        refine hK40 _ _ ?_
        simp only [thenK, blockK, keepE, updM, List.filter_cons, List.filter_nil, List.nil_append, List.cons_append, List.map_cons, List.map_nil, envE, Mem.get, Nat.reduceEqDiff, reduceIte, Option.isNone_none, Option.isNone_some, Bool.false_eq_true, List.length_cons, List.length_nil, Nat.reduceAdd, Nat.reduceMul]
        refine hK39 _ _ _ ?_
        refine rwp_region fun K46 hK46 => ?_
        refine st0 2560 rfl (ok (mv (.d ((eL 1 eU8) v28)))) ?_
        obtain ⟨h47, h⟩ := asq_inv h
        refine st0 2624 rfl (ok (slL_l (xs := v28) (e := eU8) h47)) ?_
        refine st0 2688 rfl (ok (mv (.d ((eL 1 eU8) (dropTake (8 : Int).toNat v28.length v28))))) ?_
        refine hK46 _ _ ?_
        simp only [thenK, blockK, keepE, updM, List.filter_cons, List.filter_nil, List.nil_append, List.cons_append, List.map_cons, List.map_nil, envE, Mem.get, Nat.reduceEqDiff, reduceIte, Option.isNone_none, Option.isNone_some, Bool.false_eq_true, List.length_cons, List.length_nil, Nat.reduceAdd, Nat.reduceMul]
        refine hK38 _ _ _ ?_
        exact hK33.out _ _ _ k2 (Nat.lt_succ_self k2) ⟨_, _, Settled.refl, _, _, ⟨_, _, _, _, _, h, rfl, rfl⟩, ⟨rfl, ⟨⟨rfl, rfl⟩, ⟨⟨rfl, rfl⟩, ⟨⟨rfl, rfl⟩, trivial⟩⟩⟩, ⟨⟨rfl, rfl⟩, trivial⟩⟩, rfl⟩
      · replace h := ite_f h h37
        refine rwp_f (isF h37) ?_
        refine rwp_exit ?_
        refine hK27 _ _ _ ?_
        exact hK12 _ _ _ ⟨_, _, Settled.refl, _, _, ⟨_, _, _, _, _, h, rfl, rfl⟩, ⟨rfl, ⟨⟨rfl, rfl⟩, ⟨⟨rfl, rfl⟩, ⟨⟨rfl, rfl⟩, trivial⟩⟩⟩, ⟨⟨rfl, rfl⟩, trivial⟩⟩, rfl⟩

/-- passkey/digest.Mac -/
def digestMacH : Hints := ⟨[(0, [0, 1, 2]), (1, [6])], []⟩
def digestMacRc : RCode :=
  .seq (.region false [⟨some 6, .mv, [.k (.d (.int .u64 0))], none, []⟩] [0, 1, 2]) (.seq (.region false [⟨some 7, .mv, [.t 0], none, []⟩, ⟨some 8, .mv, [.t 1], none, []⟩, ⟨some 9,
  .cvt .u64, [.t 8], none, []⟩, ⟨some 10, .bin .add, [.k (.d (.int .u64 1)), .t 9], none, []⟩, ⟨some 11, .mv, [.t 2], none, []⟩, ⟨some 12, .call 19 false, [.t 7, .t 10, .t 11],
  none, []⟩, ⟨some 6, .mv, [.t 12], none, []⟩] [6]) .ret)
def digestMacRr : List RR := [.t 6]
theorem digestMacC : compFn Try.prog 14 digestMacH = some (digestMacRc, digestMacRr, 13) := by kernel_rfl
theorem digestMacOK (a0 : BitVec 64) (a1 : Int) (a2 : List (BitVec 8)) (res : BitVec 64) (h : digestMac a0 a1 a2 = some res) : CallOK Try.prog 14 [.d (eU64 a0), .d (eI a1), .d ((eL 1 eU8) a2)] [] (.d (eU64 res)) [] := by
  unfold digestMac at h
  refine callOK digestMacC fm rfl ?_
  simp only [initE, initM, nbor, List.map_cons, List.map_nil, Nat.reduceAdd]
  unfold digestMacRc
  refine rwp_seq fun K1 hK1 => ?_
  refine rwp_region fun K2 hK2 => ?_
  refine st0 128 rfl (ok (mv (.d (eU64 (0#64))))) ?_
  refine hK2 _ _ ?_
  simp only [thenK, blockK, keepE, updM, List.filter_cons, List.filter_nil, List.nil_append, List.cons_append, List.map_cons, List.map_nil, envE, Mem.get, Nat.reduceEqDiff, reduceIte, Option.isNone_none, Option.isNone_some, Bool.false_eq_true, List.length_cons, List.length_nil, Nat.reduceAdd, Nat.reduceMul]
  refine hK1 _ _ _ ?_
  refine rwp_seq fun K3 hK3 => ?_
  refine rwp_region fun K4 hK4 => ?_
  refine st0 192 rfl (ok (mv (.d (eU64 a0)))) ?_
  refine st0 256 rfl (ok (mv (.d (eI a1)))) ?_
  refine st0 320 rfl (ok (ofI64 _ a1)) ?_
  refine st0 384 rfl (ok (add64 (1#64) _)) ?_
  refine st0 448 rfl (ok (mv (.d ((eL 1 eU8) a2)))) ?_
  obtain ⟨y5, h6, h⟩ := bind_inv h
  refine st0 512 rfl (call_ok (v := .d (eU64 y5)) (u := []) (ar_d (eU64 a0) (ar_d (eU64 ((1#64) + (BitVec.ofInt 64 a1))) (ar_d ((eL 1 eU8) a2) ar_nil))) rfl (digestSumOK a0 ((1#64) + (BitVec.ofInt 64 a1)) a2 y5 h6) rfl) ?_
  refine st0 576 rfl (ok (mv (.d (eU64 y5)))) ?_
  refine hK4 _ _ ?_
  simp only [thenK, blockK, keepE, updM, List.filter_cons, List.filter_nil, List.nil_append, List.cons_append, List.map_cons, List.map_nil, envE, Mem.get, Nat.reduceEqDiff, reduceIte, Option.isNone_none, Option.isNone_some, Bool.false_eq_true, List.length_cons, List.length_nil, Nat.reduceAdd, Nat.reduceMul]
  refine hK3 _ _ _ ?_
  refine rwp_ret ?_
  obtain rfl := Option.some.inj h
  try simp only [thenK, blockK, reduceIte]
  exact Or.inl (end_ok trivial (rs_t (v := .d (eU64 y5)) rfl rs_nil) (en_d (to_d _) en_nil) ou_nil (by first | exact eok rfl rfl rfl rfl trivial | (refine eok ?_ ?_ ?_ ?_ ?_ <;> first | rfl | exact trivial | simp [retM, Mem.get, PV.renL, PV.ren, Blk.ren, comps, rhoR, rhoM, appN, PV.refsL, PV.refs, keys, nodupB, Blk.refs, allIn, Blk.bor])))

/-- passkey/challenge.Bytes -/
def challengeBytesH : Hints := ⟨[(0, [2, 3]), (1, [2, 3, 5]), (2, [2, 3, 5, 8]), (3, [2, 3, 5]), (4, [2, 3, 6]), (5, [4])], []⟩
def challengeBytesRc : RCode :=
  .seq (.region false [⟨some 2, .box, [.t 0], none, []⟩, ⟨some 3, .box, [.t 1], none, []⟩, ⟨some 4, .mv, [.k (.nil 1)], none, []⟩] [2, 3]) (.seq (.region false [⟨some 5, .mv, [.k (.d
  (.int .u64 0))], none, []⟩] [2, 3, 5]) (.seq (.seq (.region false [⟨some 7, .fa 3, [.t 3], none, []⟩, ⟨some 8, .load 1 false, [.t 7], none, []⟩] [2, 3, 5, 8]) (.cond (.t 8)
  (.region false [⟨some 5, .mv, [.k (.d (.int .u64 1))], none, []⟩] [2, 3, 5]) .skip)) (.seq (.region true [⟨some 9, .fa 0, [.t 3], none, []⟩, ⟨some 10, .load 1 false, [.t 9],
  none, [0]⟩, ⟨some 11, .cvt .u64, [.t 10], none, [0, 1]⟩, ⟨some 12, .fa 1, [.t 3], none, []⟩, ⟨some 13, .load 1 false, [.t 12], none, [3]⟩, ⟨some 14, .cvt .u64, [.t 13], none, [3,
  4]⟩, ⟨some 15, .mv, [.t 5], none, []⟩, ⟨some 16, .fa 4, [.t 3], none, []⟩, ⟨some 17, .load 1 false, [.t 16], none, [7]⟩, ⟨some 18, .cvt .u64, [.t 17], none, [7, 8]⟩, ⟨some 19,
  .bslice 1 false 4 [.d (.int .u64 0)] [0, 1, 2, 3], [.t 11, .t 14, .t 15, .t 18], none, [0, 1, 2, 3, 4, 5, 6, 7, 8, 9]⟩, ⟨some 20, .call 13 true, [.t 19], none, [0, 1, 2, 3, 4, 5,
  6, 7, 8, 9, 10]⟩, ⟨some 21, .fa 2, [.t 3], none, []⟩, ⟨some 22, .load 1 false, [.t 21], none, [12]⟩, ⟨some 23, .apps 140737488355328, [.t 20, .t 22], none, [0, 1, 2, 3, 4, 5, 6,
  7, 8, 9, 10, 11, 12, 13]⟩, ⟨some 6, .mv, [.t 23], none, [0, 1, 2, 3, 4, 5, 6, 7, 8, 9, 10, 11, 12, 13, 14]⟩] [2, 3, 6]) (.seq (.region true [⟨some 24, .fa 0, [.t 3], none, []⟩,
  ⟨some 25, .load 1 false, [.t 24], none, [0]⟩, ⟨some 26, .cvt .u64, [.t 25], none, [0, 1]⟩, ⟨some 27, .fa 0, [.t 2], none, []⟩, ⟨some 28, .load 1 false, [.t 27], none, [3]⟩, ⟨some
  29, .mv, [.t 6], none, []⟩, ⟨some 30, .call 14 false, [.t 28, .k (.d (.int .i64 17)), .t 29], none, [3, 4, 5]⟩, ⟨some 31, .bslice 1 false 2 [.d (.int .u64 0)] [0, 1], [.t 26, .t
  30], none, [0, 1, 2, 3, 4, 5, 6]⟩, ⟨some 32, .call 13 true, [.t 31], none, [0, 1, 2, 3, 4, 5, 6, 7]⟩, ⟨some 4, .mv, [.t 32], none, [0, 1, 2, 3, 4, 5, 6, 7, 8]⟩] [4]) .ret))))
def challengeBytesRr : List RR := [.t 4]
theorem challengeBytesC : compFn Try.prog 7 challengeBytesH = some (challengeBytesRc, challengeBytesRr, 33) := by kernel_rfl
theorem challengeBytesOK (a0 : TApiChallenges) (a1 : TApiChallenge) (res : List (BitVec 8)) (h : challengeBytes a0 a1 = some res) : CallOK Try.prog 7 [.d (eTApiChallenges a0), .d (eTApiChallenge a1)] [] (.ref 0 res.length 0 res.length) [(0, .row true 1 (res.map eU8))] := by
  unfold challengeBytes at h
  refine callOK challengeBytesC fm rfl ?_
  simp only [initE, initM, nbor, List.map_cons, List.map_nil, Nat.reduceAdd]
  unfold challengeBytesRc
  refine rwp_seq fun K1 hK1 => ?_
  refine rwp_region fun K2 hK2 => ?_
  refine st1 128 rfl (mem' := [(64, .var .mine [.d (eU64 a0.Secret), .d (eI a0.Count), .d ((eL 5 eTApiChallenge) a0.Open)])]) (ok (bx (ps := [.d (eU64 a0.Secret), .d (eI a0.Count), .d ((eL 5 eTApiChallenge) a0.Open)]) rfl rfl)) rfl ?_
  refine st1 192 rfl (mem' := [(128, .var .mine [.d (eI a1.Number), .d (eI a1.Kind), .d (eS a1.Account), .d (eB a1.Bound), .d (eI a1.Since)]), (64, .var .mine [.d (eU64 a0.Secret), .d (eI a0.Count), .d ((eL 5 eTApiChallenge) a0.Open)])]) (ok (bx (ps := [.d (eI a1.Number), .d (eI a1.Kind), .d (eS a1.Account), .d (eB a1.Bound), .d (eI a1.Since)]) rfl rfl)) rfl ?_
  refine st0 256 rfl (ok (mv (.nil 1))) ?_
  refine hK2 _ _ ?_
  simp only [thenK, blockK, keepE, updM, List.filter_cons, List.filter_nil, List.nil_append, List.cons_append, List.map_cons, List.map_nil, envE, Mem.get, Nat.reduceEqDiff, reduceIte, Option.isNone_none, Option.isNone_some, Bool.false_eq_true, List.length_cons, List.length_nil, Nat.reduceAdd, Nat.reduceMul]
  refine hK1 _ _ _ ?_
  refine rwp_seq fun K3 hK3 => ?_
  refine rwp_region fun K4 hK4 => ?_
  refine st0 320 rfl (ok (mv (.d (eU64 (0#64))))) ?_
  refine hK4 _ _ ?_
  simp only [thenK, blockK, keepE, updM, List.filter_cons, List.filter_nil, List.nil_append, List.cons_append, List.map_cons, List.map_nil, envE, Mem.get, Nat.reduceEqDiff, reduceIte, Option.isNone_none, Option.isNone_some, Bool.false_eq_true, List.length_cons, List.length_nil, Nat.reduceAdd, Nat.reduceMul]
  refine hK3 _ _ _ ?_
  refine rwp_join ([], []) 576 (fun env mem => ∃ (v5 : BitVec 64), challengeBytesJ1 a0 a1 v5 = some res ∧ env = [(2, .ptr 64 0), (3, .ptr 128 0), (5, .d (eU64 v5))] ∧ mem = [(64, .var .mine [.d (eU64 a0.Secret), .d (eI a0.Count), .d ((eL 5 eTApiChallenge) a0.Open)]), (128, .var .mine [.d (eI a1.Number), .d (eI a1.Kind), .d (eS a1.Account), .d (eB a1.Bound), .d (eI a1.Since)])]) (fun _ _ hI => ?_) (fun K6 hK6 => ?_)
  · obtain ⟨v5, h, rfl, rfl⟩ := hI
    unfold challengeBytesJ1 at h
    refine rwp_seq fun K7 hK7 => ?_
    refine rwp_draw fun K8 hK8 => ?_
    refine dr0 640 rfl (ok (fa_k 0 rfl)) (by kernel_rfl) ?_
    refine dr0 704 rfl (ok (ld_v (v := .d (eI a1.Number)) rfl rfl rfl)) (by kernel_rfl) ?_
    refine dr0 768 rfl (ok (ofI64 _ a1.Number)) (by kernel_rfl) ?_
    refine dr0 832 rfl (ok (fa_k 1 rfl)) (by kernel_rfl) ?_
    refine dr0 896 rfl (ok (ld_v (v := .d (eI a1.Kind)) rfl rfl rfl)) (by kernel_rfl) ?_
    refine dr0 960 rfl (ok (ofI64 _ a1.Kind)) (by kernel_rfl) ?_
    refine dr0 1024 rfl (ok (mv (.d (eU64 v5)))) (by kernel_rfl) ?_
    refine dr0 1088 rfl (ok (fa_k 4 rfl)) (by kernel_rfl) ?_
    refine dr0 1152 rfl (ok (ld_v (v := .d (eI a1.Since)) rfl rfl rfl)) (by kernel_rfl) ?_
    refine dr0 1216 rfl (ok (ofI64 _ a1.Since)) (by kernel_rfl) ?_
    refine dr1 1280 rfl (mem' := [(1216, .row true 1 (([(BitVec.ofInt 64 a1.Number), (BitVec.ofInt 64 a1.Kind), v5, (BitVec.ofInt 64 a1.Since)] : List (BitVec 64)).map eU64)), (64, .var .mine [.d (eU64 a0.Secret), .d (eI a0.Count), .d ((eL 5 eTApiChallenge) a0.Open)]), (128, .var .mine [.d (eI a1.Number), .d (eI a1.Kind), .d (eS a1.Account), .d (eB a1.Bound), .d (eI a1.Since)])]) (ok (bsl (e := eU64) (ys := ([(BitVec.ofInt 64 a1.Number), (BitVec.ofInt 64 a1.Kind), v5, (BitVec.ofInt 64 a1.Since)] : List (BitVec 64))) rfl rfl rfl)) rfl (by kernel_rfl) ?_
    obtain ⟨y9, h10, h⟩ := bind_inv h
    refine dr1 1344 rfl (mem' := [(1280, .row true 1 (y9.map eU8)), (1216, .row false 1 (([(BitVec.ofInt 64 a1.Number), (BitVec.ofInt 64 a1.Kind), v5, (BitVec.ofInt 64 a1.Since)] : List (BitVec 64)).map eU64)), (64, .var .mine [.d (eU64 a0.Secret), .d (eI a0.Count), .d ((eL 5 eTApiChallenge) a0.Open)]), (128, .var .mine [.d (eI a1.Number), .d (eI a1.Kind), .d (eS a1.Account), .d (eB a1.Bound), .d (eI a1.Since)])]) (call_ok (v := .ref 1280 y9.length 0 y9.length) (u := [(1280, .row true 1 (y9.map eU8)), (1216, .row false 1 (([(BitVec.ofInt 64 a1.Number), (BitVec.ofInt 64 a1.Kind), v5, (BitVec.ofInt 64 a1.Since)] : List (BitVec 64)).map eU64))]) (ar_to rfl (to_1 rfl (ds_r (ys := ([(BitVec.ofInt 64 a1.Number), (BitVec.ofInt 64 a1.Kind), v5, (BitVec.ofInt 64 a1.Since)] : List (BitVec 64))) rfl rfl rfl ds_nil)) ar_nil) rfl (digestWordsOK ([(BitVec.ofInt 64 a1.Number), (BitVec.ofInt 64 a1.Kind), v5, (BitVec.ofInt 64 a1.Since)] : List (BitVec 64)) y9 h10) rfl) rfl (by kernel_rfl) ?_
    refine dr0 1408 rfl (ok (fa_k 2 rfl)) (by kernel_rfl) ?_
    refine dr0 1472 rfl (ok (ld_v (v := .d (eS a1.Account)) rfl rfl rfl)) (by kernel_rfl) ?_
    obtain ⟨h11, h⟩ := asq_inv h
    refine dr1 1536 rfl (mem' := [(1280, .row true 1 ((y9 ++ a1.Account).map eU8)), (1216, .row false 1 (([(BitVec.ofInt 64 a1.Number), (BitVec.ofInt 64 a1.Kind), v5, (BitVec.ofInt 64 a1.Since)] : List (BitVec 64)).map eU64)), (64, .var .mine [.d (eU64 a0.Secret), .d (eI a0.Count), .d ((eL 5 eTApiChallenge) a0.Open)]), (128, .var .mine [.d (eI a1.Number), .d (eI a1.Kind), .d (eS a1.Account), .d (eB a1.Bound), .d (eI a1.Since)])]) (ok (apsR (t := a1.Account) (xs := y9) rfl rfl rfl h11)) rfl (by kernel_rfl) ?_
    refine dr0 1600 rfl (ok (mv (.ref 1280 (((y9 ++ a1.Account)).length) 0 (((y9 ++ a1.Account)).length)))) (by kernel_rfl) ?_
    refine hK8 _ _ ?_
    simp only [thenK, blockK, keepE, updM, List.filter_cons, List.filter_nil, List.nil_append, List.cons_append, List.map_cons, List.map_nil, envE, Mem.get, Nat.reduceEqDiff, reduceIte, Option.isNone_none, Option.isNone_some, Bool.false_eq_true, List.length_cons, List.length_nil, Nat.reduceAdd, Nat.reduceMul]
    refine hK7 _ _ _ ?_
    refine rwp_seq fun K12 hK12 => ?_
    refine rwp_draw fun K13 hK13 => ?_
    refine dr0 1664 rfl (ok (fa_k 0 rfl)) (by kernel_rfl) ?_
    refine dr0 1728 rfl (ok (ld_v (v := .d (eI a1.Number)) rfl rfl rfl)) (by kernel_rfl) ?_
    refine dr0 1792 rfl (ok (ofI64 _ a1.Number)) (by kernel_rfl) ?_
    refine dr0 1856 rfl (ok (fa_k 0 rfl)) (by kernel_rfl) ?_
    refine dr0 1920 rfl (ok (ld_v (v := .d (eU64 a0.Secret)) rfl rfl rfl)) (by kernel_rfl) ?_
    refine dr0 1984 rfl (ok (mv (.ref 1280 (((y9 ++ a1.Account)).length) 0 (((y9 ++ a1.Account)).length)))) (by kernel_rfl) ?_
    obtain ⟨y14, h15, h⟩ := bind_inv h
    refine dr0 2048 rfl (call_ok (v := .d (eU64 y14)) (u := []) (ar_d (eU64 a0.Secret) (ar_d (eI (17 : Int)) (ar_to rfl (to_1 rfl (ds_r (ys := (y9 ++ a1.Account)) rfl rfl rfl ds_nil)) ar_nil))) rfl (digestMacOK a0.Secret (17 : Int) (y9 ++ a1.Account) y14 h15) rfl) (by kernel_rfl) ?_
    refine dr1 2112 rfl (mem' := [(2048, .row true 1 (([(BitVec.ofInt 64 a1.Number), y14] : List (BitVec 64)).map eU64)), (1280, .row true 1 ((y9 ++ a1.Account).map eU8)), (1216, .row false 1 (([(BitVec.ofInt 64 a1.Number), (BitVec.ofInt 64 a1.Kind), v5, (BitVec.ofInt 64 a1.Since)] : List (BitVec 64)).map eU64)), (64, .var .mine [.d (eU64 a0.Secret), .d (eI a0.Count), .d ((eL 5 eTApiChallenge) a0.Open)]), (128, .var .mine [.d (eI a1.Number), .d (eI a1.Kind), .d (eS a1.Account), .d (eB a1.Bound), .d (eI a1.Since)])]) (ok (bsl (e := eU64) (ys := ([(BitVec.ofInt 64 a1.Number), y14] : List (BitVec 64))) rfl rfl rfl)) rfl (by kernel_rfl) ?_
    obtain ⟨y16, h17, h⟩ := bind_inv h
    refine dr1 2176 rfl (mem' := [(2112, .row true 1 (y16.map eU8)), (2048, .row false 1 (([(BitVec.ofInt 64 a1.Number), y14] : List (BitVec 64)).map eU64)), (1280, .row true 1 ((y9 ++ a1.Account).map eU8)), (1216, .row false 1 (([(BitVec.ofInt 64 a1.Number), (BitVec.ofInt 64 a1.Kind), v5, (BitVec.ofInt 64 a1.Since)] : List (BitVec 64)).map eU64)), (64, .var .mine [.d (eU64 a0.Secret), .d (eI a0.Count), .d ((eL 5 eTApiChallenge) a0.Open)]), (128, .var .mine [.d (eI a1.Number), .d (eI a1.Kind), .d (eS a1.Account), .d (eB a1.Bound), .d (eI a1.Since)])]) (call_ok (v := .ref 2112 y16.length 0 y16.length) (u := [(2112, .row true 1 (y16.map eU8)), (2048, .row false 1 (([(BitVec.ofInt 64 a1.Number), y14] : List (BitVec 64)).map eU64))]) (ar_to rfl (to_1 rfl (ds_r (ys := ([(BitVec.ofInt 64 a1.Number), y14] : List (BitVec 64))) rfl rfl rfl ds_nil)) ar_nil) rfl (digestWordsOK ([(BitVec.ofInt 64 a1.Number), y14] : List (BitVec 64)) y16 h17) rfl) rfl (by kernel_rfl) ?_
    refine dr0 2240 rfl (ok (mv (.ref 2112 y16.length 0 y16.length))) (by kernel_rfl) ?_
    refine hK13 _ _ ?_
    simp only [thenK, blockK, keepE, updM, List.filter_cons, List.filter_nil, List.nil_append, List.cons_append, List.map_cons, List.map_nil, envE, Mem.get, Nat.reduceEqDiff, reduceIte, Option.isNone_none, Option.isNone_some, Bool.false_eq_true, List.length_cons, List.length_nil, Nat.reduceAdd, Nat.reduceMul]
    refine hK12 _ _ _ ?_
    refine rwp_ret ?_
    obtain rfl := Option.some.inj h
    try simp only [thenK, blockK, reduceIte]
    exact Or.inl (end_ok trivial (rs_t (v := .ref 2112 y16.length 0 y16.length) rfl rs_nil) (en_ref en_nil) ou_nil (by first | exact eok rfl rfl rfl rfl (And.intro (And.intro rfl rfl) trivial) | (refine eok ?_ ?_ ?_ ?_ ?_ <;> first | rfl | exact (And.intro (And.intro rfl rfl) trivial) | simp [retM, Mem.get, PV.renL, PV.ren, Blk.ren, comps, rhoR, rhoM, appN, PV.refsL, PV.refs, keys, nodupB, Blk.refs, allIn, Blk.bor])))
  · refine rwp_seq fun K18 hK18 => ?_
    refine rwp_region fun K19 hK19 => ?_
    refine st0 384 rfl (ok (fa_k 3 rfl)) ?_
    refine st0 448 rfl (ok (ld_v (v := .d (eB a1.Bound)) rfl rfl rfl)) ?_
    refine hK19 _ _ ?_
    simp only [thenK, blockK, keepE, updM, List.filter_cons, List.filter_nil, List.nil_append, List.cons_append, List.map_cons, List.map_nil, envE, Mem.get, Nat.reduceEqDiff, reduceIte, Option.isNone_none, Option.isNone_some, Bool.false_eq_true, List.length_cons, List.length_nil, Nat.reduceAdd, Nat.reduceMul]
    refine hK18 _ _ _ ?_
    rcases Bool.eq_false_or_eq_true (a1.Bound) with h20 | h20
    · replace h := ite_t h h20
      refine rwp_t (isT h20) ?_
      refine rwp_region fun K21 hK21 => ?_
      refine st0 512 rfl (ok (mv (.d (eU64 (1#64))))) ?_
      refine hK21 _ _ ?_
      simp only [thenK, blockK, keepE, updM, List.filter_cons, List.filter_nil, List.nil_append, List.cons_append, List.map_cons, List.map_nil, envE, Mem.get, Nat.reduceEqDiff, reduceIte, Option.isNone_none, Option.isNone_some, Bool.false_eq_true, List.length_cons, List.length_nil, Nat.reduceAdd, Nat.reduceMul]
      exact hK6 _ _ _ ⟨_, _, Settled.refl, _, _, ⟨_, h, rfl, rfl⟩, ⟨rfl, ⟨⟨rfl, rfl⟩, ⟨⟨rfl, rfl⟩, ⟨⟨rfl, rfl⟩, trivial⟩⟩⟩, ⟨⟨rfl, rfl⟩, ⟨⟨rfl, rfl⟩, trivial⟩⟩⟩, rfl⟩
    · replace h := ite_f h h20
      refine rwp_f (isF h20) ?_
      refine rwp_skip ?_
      exact hK6 _ _ _ ⟨_, _, Settled.refl, _, _, ⟨_, h, rfl, rfl⟩, ⟨rfl, ⟨⟨rfl, rfl⟩, ⟨⟨rfl, rfl⟩, ⟨⟨rfl, rfl⟩, trivial⟩⟩⟩, ⟨⟨rfl, rfl⟩, ⟨⟨rfl, rfl⟩, trivial⟩⟩⟩, rfl⟩

end Go.Proofs.Ty
