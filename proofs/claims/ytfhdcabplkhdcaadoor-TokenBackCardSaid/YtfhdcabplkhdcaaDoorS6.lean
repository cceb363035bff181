/- Each Go function comes to what its plain function says. PRINTED by a program of this session (ty.py). -/
import Derived.Test.YtfhdcabplkhdcaaDoorS5
set_option linter.unusedVariables false
set_option linter.unusedSimpArgs false
set_option maxHeartbeats 4000000
set_option maxRecDepth 10000
namespace Go.Proofs.Ty
open Go Go.RW Go.Proofs
open Go.RW renaming thenK → n0, blockK → n1, keepE → n2, updM → n3, envE → n4
open Go.RW.Mem renaming get → n5
open List renaming filter_cons → n6, filter_nil → n7, nil_append → n8, cons_append → n9, map_cons → n10, map_nil → n11, length_cons → n12, length_nil → n13
open Option renaming isNone_none → n14, isNone_some → n15
open Bool renaming false_eq_true → n16
open Nat renaming reduceEqDiff → n17, reduceAdd → n18, reduceMul → n19
/-- passkey/passkeyref1.Sum -/
def passkeyref1SumH : Hints := ⟨[(0, [0, 1, 2]), (1, [2, 7]), (2, [2, 7, 8]), (3, [2, 7, 8, 24]), (5, [2, 7, 8, 9]), (6, [2, 7, 8, 9, 10]), (7, [2, 7, 8, 9, 10, 28]), (9, [2, 7, 8, 9, 10, 11]), (10, [2, 7, 8, 9, 10, 11, 36]), (11, [2, 7, 8, 9, 10, 11]), (12, [2, 7, 8, 9, 10, 11, 44]), (13, [2, 7, 8, 9, 10, 11]), (14, [2, 7, 8, 9, 10]), (8, [2, 7, 8, 9, 10]), (15, [2, 7, 8, 9]), (16, [2, 7, 8, 9]), (17, [2, 7, 8]), (4, [2, 7, 8]), (18, [7]), (19, [7]), (20, [6])], []⟩
def passkeyref1SumRc : RCode :=
  .seq (.region false [⟨some 6, .mv, [.k (.d (.int .u64 0))], none, []⟩] [0, 1, 2]) (.seq (.region false [⟨some 12, .mv, [.t 0], none, []⟩, ⟨some 13, .bin .xor, [.t 12, .k (.d (.int
  .u64 8317987319222330741))], none, []⟩, ⟨some 14, .mv, [.t 1], none, []⟩, ⟨some 15, .bin .xor, [.t 14, .k (.d (.int .u64 7237128888997146477))], none, []⟩, ⟨some 16, .mv, [.t 0],
  none, []⟩, ⟨some 17, .bin .xor, [.t 16, .k (.d (.int .u64 7816392313619706465))], none, []⟩, ⟨some 18, .mv, [.t 1], none, []⟩, ⟨some 19, .bin .xor, [.t 18, .k (.d (.int .u64
  8387220255154660723))], none, []⟩, ⟨some 20, .build [.d (.int .u64 0), .d (.int .u64 0), .d (.int .u64 0), .d (.int .u64 0)] [(0, 1), (1, 1), (2, 1), (3, 1)], [.t 13, .t 15, .t
  17, .t 19], none, []⟩, ⟨some 7, .alloc [.d (.int .u64 0), .d (.int .u64 0), .d (.int .u64 0), .d (.int .u64 0)], [], none, []⟩, ⟨none, .store 4, [.t 7, .t 20], none, []⟩] [2, 7])
  (.seq (.seq (.region false [⟨some 8, .mv, [.k (.d (.int .i64 0))], none, []⟩] [2, 7, 8]) (.block 0 (.loop [] (.seq (.seq (.region false [⟨some 21, .mv, [.t 8], none, []⟩, ⟨some
  22, .mv, [.t 2], none, []⟩, ⟨some 23, .len, [.t 22], none, []⟩, ⟨some 24, .bin .leq, [.t 21, .t 23], none, []⟩] [2, 7, 8, 24]) (.cond (.t 24) .skip (.exit 0))) (.seq (.block 1
  (.seq (.region false [⟨some 9, .mv, [.k (.d (.int .u64 0))], none, []⟩] [2, 7, 8, 9]) (.seq (.seq (.region false [⟨some 10, .mv, [.k (.d (.int .i64 7))], none, []⟩] [2, 7, 8, 9,
  10]) (.block 2 (.loop [] (.seq (.seq (.region false [⟨some 27, .mv, [.t 10], none, []⟩, ⟨some 28, .bin .geq, [.t 27, .k (.d (.int .i64 0))], none, []⟩] [2, 7, 8, 9, 10, 28])
  (.cond (.t 28) .skip (.exit 2))) (.seq (.block 3 (.seq (.region false [⟨some 11, .mv, [.k (.d (.int .u8 0))], none, []⟩] [2, 7, 8, 9, 10, 11]) (.seq (.seq (.region false [⟨some
  31, .mv, [.t 8], none, []⟩, ⟨some 32, .mv, [.t 10], none, []⟩, ⟨some 33, .bin .add, [.t 31, .t 32], none, []⟩, ⟨some 34, .mv, [.t 2], none, []⟩, ⟨some 35, .len, [.t 34], none,
  []⟩, ⟨some 36, .bin .lss, [.t 33, .t 35], none, []⟩] [2, 7, 8, 9, 10, 11, 36]) (.cond (.t 36) (.region false [⟨some 37, .mv, [.t 2], none, []⟩, ⟨some 38, .mv, [.t 8], none, []⟩,
  ⟨some 39, .mv, [.t 10], none, []⟩, ⟨some 40, .bin .add, [.t 38, .t 39], none, []⟩, ⟨some 41, .ia 1, [.t 37, .t 40], none, []⟩, ⟨some 42, .load 1 false, [.t 41], none, []⟩, ⟨some
  11, .mv, [.t 42], none, []⟩] [2, 7, 8, 9, 10, 11]) (.seq (.region false [⟨some 43, .mv, [.t 10], none, []⟩, ⟨some 44, .bin .eql, [.t 43, .k (.d (.int .i64 7))], none, []⟩] [2, 7,
  8, 9, 10, 11, 44]) (.cond (.t 44) (.region false [⟨some 45, .mv, [.t 2], none, []⟩, ⟨some 46, .len, [.t 45], none, []⟩, ⟨some 47, .cvt .u8, [.t 46], none, []⟩, ⟨some 11, .mv, [.t
  47], none, []⟩] [2, 7, 8, 9, 10, 11]) .skip)))) (.region false [⟨some 48, .mv, [.t 9], none, []⟩, ⟨some 49, .bin .shl, [.t 48, .k (.d (.int .u64 8))], none, []⟩, ⟨some 50, .mv,
  [.t 11], none, []⟩, ⟨some 51, .cvt .u64, [.t 50], none, []⟩, ⟨some 52, .bin .or, [.t 49, .t 51], none, []⟩, ⟨some 9, .mv, [.t 52], none, []⟩] [2, 7, 8, 9, 10])))) (.region false
  [⟨some 29, .mv, [.t 10], none, []⟩, ⟨some 30, .bin .sub, [.t 29, .k (.d (.int .i64 1))], none, []⟩, ⟨some 10, .mv, [.t 30], none, []⟩] [2, 7, 8, 9, 10])))))) (.seq (.region false
  [⟨some 53, .iarr 4 1, [.t 7, .k (.d (.int .i64 3))], none, []⟩, ⟨some 54, .load 1 false, [.t 53], none, []⟩, ⟨some 55, .mv, [.t 9], none, []⟩, ⟨some 56, .bin .xor, [.t 54, .t
  55], none, []⟩, ⟨some 57, .iarr 4 1, [.t 7, .k (.d (.int .i64 3))], none, []⟩, ⟨none, .store 1, [.t 57, .t 56], none, []⟩] [2, 7, 8, 9]) (.seq (.region false [⟨some 58, .load 4
  true, [.t 7], none, []⟩, ⟨some 59, .call 58 false, [.t 58], none, []⟩, ⟨some 60, .call 58 false, [.t 59], none, []⟩, ⟨none, .store 4, [.t 7, .t 60], none, []⟩] [2, 7, 8, 9])
  (.region false [⟨some 61, .iarr 4 1, [.t 7, .k (.d (.int .i64 0))], none, []⟩, ⟨some 62, .load 1 false, [.t 61], none, []⟩, ⟨some 63, .mv, [.t 9], none, []⟩, ⟨some 64, .bin .xor,
  [.t 62, .t 63], none, []⟩, ⟨some 65, .iarr 4 1, [.t 7, .k (.d (.int .i64 0))], none, []⟩, ⟨none, .store 1, [.t 65, .t 64], none, []⟩] [2, 7, 8])))))) (.region false [⟨some 25,
  .mv, [.t 8], none, []⟩, ⟨some 26, .bin .add, [.t 25, .k (.d (.int .i64 8))], none, []⟩, ⟨some 8, .mv, [.t 26], none, []⟩] [2, 7, 8])))))) (.seq (.region false [⟨some 66, .iarr 4
  1, [.t 7, .k (.d (.int .i64 2))], none, []⟩, ⟨some 67, .load 1 false, [.t 66], none, []⟩, ⟨some 68, .bin .xor, [.t 67, .k (.d (.int .u64 255))], none, []⟩, ⟨some 69, .iarr 4 1,
  [.t 7, .k (.d (.int .i64 2))], none, []⟩, ⟨none, .store 1, [.t 69, .t 68], none, []⟩] [7]) (.seq (.region false [⟨some 70, .load 4 true, [.t 7], none, []⟩, ⟨some 71, .call 58
  false, [.t 70], none, []⟩, ⟨some 72, .call 58 false, [.t 71], none, []⟩, ⟨some 73, .call 58 false, [.t 72], none, []⟩, ⟨some 74, .call 58 false, [.t 73], none, []⟩, ⟨none, .store
  4, [.t 7, .t 74], none, []⟩] [7]) (.seq (.region false [⟨some 75, .iarr 4 1, [.t 7, .k (.d (.int .i64 0))], none, []⟩, ⟨some 76, .load 1 false, [.t 75], none, []⟩, ⟨some 77,
  .iarr 4 1, [.t 7, .k (.d (.int .i64 1))], none, []⟩, ⟨some 78, .load 1 false, [.t 77], none, []⟩, ⟨some 79, .bin .xor, [.t 76, .t 78], none, []⟩, ⟨some 80, .iarr 4 1, [.t 7, .k
  (.d (.int .i64 2))], none, []⟩, ⟨some 81, .load 1 false, [.t 80], none, []⟩, ⟨some 82, .bin .xor, [.t 79, .t 81], none, []⟩, ⟨some 83, .iarr 4 1, [.t 7, .k (.d (.int .i64 3))],
  none, []⟩, ⟨some 84, .load 1 false, [.t 83], none, []⟩, ⟨some 85, .bin .xor, [.t 82, .t 84], none, []⟩, ⟨some 6, .mv, [.t 85], none, []⟩] [6]) .ret)))))
def passkeyref1SumRr : List RR := [.t 6]
theorem passkeyref1SumC : compFn Tryd.prog 45 passkeyref1SumH = some (passkeyref1SumRc, passkeyref1SumRr, 86) := by kernel_rfl
theorem passkeyref1SumOK (a0 : BitVec 64) (a1 : BitVec 64) (a2 : List (BitVec 8)) (res : BitVec 64) (h : passkeyref1Sum a0 a1 a2 = some res) : CallOK Tryd.prog 45 [.d (eU64 a0), .d (eU64 a1), .d ((eL 1 eU8) a2)] [] (.d (eU64 res)) [] := by
  unfold passkeyref1Sum at h
  refine callOK passkeyref1SumC fm rfl ?_
  simp only [initE, initM, nbor, List.map_cons, List.map_nil, Nat.reduceAdd]
  unfold passkeyref1SumRc
  refine rwp_seq fun K1 hK1 => ?_
  refine rwp_region fun K2 hK2 => ?_
  refine st0 128 rfl (ok (mv (.d (eU64 (0#64))))) ?_
  refine hK2 _ _ ?_
  simp only [n0, n1, n2, n3, n4, n5, n6, n7, n8, n9, n10, n11, n12, n13, n14, n15, n16, n17, n18, n19, reduceIte]
  refine hK1 _ _ _ ?_
  refine rwp_seq fun K3 hK3 => ?_
  refine rwp_region fun K4 hK4 => ?_
  refine st0 192 rfl (ok (mv (.d (eU64 a0)))) ?_
  refine st0 256 rfl (ok (xor64 _ (8317987319222330741#64))) ?_
  refine st0 320 rfl (ok (mv (.d (eU64 a1)))) ?_
  refine st0 384 rfl (ok (xor64 _ (7237128888997146477#64))) ?_
  refine st0 448 rfl (ok (mv (.d (eU64 a0)))) ?_
  refine st0 512 rfl (ok (xor64 _ (7816392313619706465#64))) ?_
  refine st0 576 rfl (ok (mv (.d (eU64 a1)))) ?_
  refine st0 640 rfl (ok (xor64 _ (8387220255154660723#64))) ?_
  refine st0 704 rfl (ok (bld (v := .d (.agg [eU64 (a0 ^^^ (8317987319222330741#64)), eU64 (a1 ^^^ (7237128888997146477#64)), eU64 (a0 ^^^ (7816392313619706465#64)), eU64 (a1 ^^^ (8387220255154660723#64))])) rfl rfl)) ?_
  refine st1 768 rfl (mem' := [(704, .var .mine [.d (eU64 (0#64)), .d (eU64 (0#64)), .d (eU64 (0#64)), .d (eU64 (0#64))])]) (ok (alc (zs := [.d (eU64 (0#64)), .d (eU64 (0#64)), .d (eU64 (0#64)), .d (eU64 (0#64))]))) rfl ?_
  refine stn 832 rfl (mem' := [(704, .var .mine [.d (eU64 (a0 ^^^ (8317987319222330741#64))), .d (eU64 (a1 ^^^ (7237128888997146477#64))), .d (eU64 (a0 ^^^ (7816392313619706465#64))), .d (eU64 (a1 ^^^ (8387220255154660723#64)))])]) (ok (sto_v (ps' := [.d (eU64 (a0 ^^^ (8317987319222330741#64))), .d (eU64 (a1 ^^^ (7237128888997146477#64))), .d (eU64 (a0 ^^^ (7816392313619706465#64))), .d (eU64 (a1 ^^^ (8387220255154660723#64)))]) rfl rfl rfl rfl)) rfl ?_
  refine hK4 _ _ ?_
  simp only [n0, n1, n2, n3, n4, n5, n6, n7, n8, n9, n10, n11, n12, n13, n14, n15, n16, n17, n18, n19, reduceIte]
  refine hK3 _ _ _ ?_
  refine rwp_join ([], []) 4992 (fun env mem => ∃ (v5 : BitVec 64) (v6 : BitVec 64) (v7 : BitVec 64) (v8 : BitVec 64), passkeyref1SumJ1 v5 v6 v7 v8 = some res ∧ env = [(7, .ptr 704 0)] ∧ mem = [(704, .var .mine [.d (eU64 v5), .d (eU64 v6), .d (eU64 v7), .d (eU64 v8)])]) (fun _ _ hI => ?_) (fun K9 hK9 => ?_)
  · obtain ⟨v5, v6, v7, v8, h, rfl, rfl⟩ := hI
    unfold passkeyref1SumJ1 at h
    refine rwp_seq fun K10 hK10 => ?_
    refine rwp_region fun K11 hK11 => ?_
    refine st0 5056 rfl (ok (iarr_k 2 (by decide) rfl)) ?_
    refine st0 5120 rfl (ok (ld_v (v := .d (eU64 v7)) rfl rfl rfl)) ?_
    refine st0 5184 rfl (ok (xor64 _ (255#64))) ?_
    refine st0 5248 rfl (ok (iarr_k 2 (by decide) rfl)) ?_
    refine stn 5312 rfl (mem' := [(704, .var .mine [.d (eU64 v5), .d (eU64 v6), .d (eU64 (v7 ^^^ (255#64))), .d (eU64 v8)])]) (ok (sto_v (ps' := [.d (eU64 v5), .d (eU64 v6), .d (eU64 (v7 ^^^ (255#64))), .d (eU64 v8)]) rfl rfl rfl rfl)) rfl ?_
    refine hK11 _ _ ?_
    simp only [n0, n1, n2, n3, n4, n5, n6, n7, n8, n9, n10, n11, n12, n13, n14, n15, n16, n17, n18, n19, reduceIte]
    refine hK10 _ _ _ ?_
    refine rwp_seq fun K12 hK12 => ?_
    refine rwp_region fun K13 hK13 => ?_
    refine st0 5376 rfl (ok (ld_v (v := .d (.agg [eU64 v5, eU64 v6, eU64 (v7 ^^^ (255#64)), eU64 v8])) rfl rfl rfl)) ?_
    obtain ⟨y14, h15, h⟩ := bind_inv h
    refine st0 5440 rfl (call_ok (v := .d (eTA4BitVec64 y14)) (u := []) (ar_d (eTA4BitVec64 (TA4BitVec64.mk v5 v6 (v7 ^^^ (255#64)) v8)) ar_nil) rfl (passkeyref1roundOK (TA4BitVec64.mk v5 v6 (v7 ^^^ (255#64)) v8) y14 h15) rfl) ?_
    obtain ⟨y16, h17, h⟩ := bind_inv h
    refine st0 5504 rfl (call_ok (v := .d (eTA4BitVec64 y16)) (u := []) (ar_d (eTA4BitVec64 y14) ar_nil) rfl (passkeyref1roundOK y14 y16 h17) rfl) ?_
    obtain ⟨y18, h19, h⟩ := bind_inv h
    refine st0 5568 rfl (call_ok (v := .d (eTA4BitVec64 y18)) (u := []) (ar_d (eTA4BitVec64 y16) ar_nil) rfl (passkeyref1roundOK y16 y18 h19) rfl) ?_
    obtain ⟨y20, h21, h⟩ := bind_inv h
    refine st0 5632 rfl (call_ok (v := .d (eTA4BitVec64 y20)) (u := []) (ar_d (eTA4BitVec64 y18) ar_nil) rfl (passkeyref1roundOK y18 y20 h21) rfl) ?_
    refine stn 5696 rfl (mem' := [(704, .var .mine [.d (eU64 y20.c0), .d (eU64 y20.c1), .d (eU64 y20.c2), .d (eU64 y20.c3)])]) (ok (sto_v (ps' := [.d (eU64 y20.c0), .d (eU64 y20.c1), .d (eU64 y20.c2), .d (eU64 y20.c3)]) rfl rfl rfl rfl)) rfl ?_
    refine hK13 _ _ ?_
    simp only [n0, n1, n2, n3, n4, n5, n6, n7, n8, n9, n10, n11, n12, n13, n14, n15, n16, n17, n18, n19, reduceIte]
    refine hK12 _ _ _ ?_
    refine rwp_seq fun K22 hK22 => ?_
    refine rwp_region fun K23 hK23 => ?_
    refine st0 5760 rfl (ok (iarr_k 0 (by decide) rfl)) ?_
    refine st0 5824 rfl (ok (ld_v (v := .d (eU64 y20.c0)) rfl rfl rfl)) ?_
    refine st0 5888 rfl (ok (iarr_k 1 (by decide) rfl)) ?_
    refine st0 5952 rfl (ok (ld_v (v := .d (eU64 y20.c1)) rfl rfl rfl)) ?_
    refine st0 6016 rfl (ok (xor64 _ _)) ?_
    refine st0 6080 rfl (ok (iarr_k 2 (by decide) rfl)) ?_
    refine st0 6144 rfl (ok (ld_v (v := .d (eU64 y20.c2)) rfl rfl rfl)) ?_
    refine st0 6208 rfl (ok (xor64 _ _)) ?_
    refine st0 6272 rfl (ok (iarr_k 3 (by decide) rfl)) ?_
    refine st0 6336 rfl (ok (ld_v (v := .d (eU64 y20.c3)) rfl rfl rfl)) ?_
    refine st0 6400 rfl (ok (xor64 _ _)) ?_
    refine st0 6464 rfl (ok (mv (.d (eU64 (((y20.c0 ^^^ y20.c1) ^^^ y20.c2) ^^^ y20.c3))))) ?_
    refine hK23 _ _ ?_
    simp only [n0, n1, n2, n3, n4, n5, n6, n7, n8, n9, n10, n11, n12, n13, n14, n15, n16, n17, n18, n19, reduceIte]
    refine hK22 _ _ _ ?_
    refine rwp_ret ?_
    obtain rfl := Option.some.inj h
    try simp only [thenK, blockK, reduceIte]
    exact Or.inl (end_ok trivial (rs_t (v := .d (eU64 (((y20.c0 ^^^ y20.c1) ^^^ y20.c2) ^^^ y20.c3))) rfl rs_nil) (en_d (to_d _) en_nil) ou_nil (by first | exact eok rfl rfl rfl rfl trivial | (refine eok ?_ ?_ ?_ ?_ ?_ <;> first | rfl | exact trivial | simp [retM, Mem.get, PV.renL, PV.ren, Blk.ren, comps, rhoR, rhoM, appN, PV.refsL, PV.refs, keys, nodupB, Blk.refs, allIn, Blk.bor])))
  · refine rwp_seq fun K24 hK24 => ?_
    refine rwp_region fun K25 hK25 => ?_
    refine st0 896 rfl (ok (mv (.d (eI (0 : Int))))) ?_
    refine hK25 _ _ ?_
    simp only [n0, n1, n2, n3, n4, n5, n6, n7, n8, n9, n10, n11, n12, n13, n14, n15, n16, n17, n18, n19, reduceIte]
    refine hK24 _ _ _ ?_
    refine rwp_block fun K26 hK26 => ?_
    refine rwp_loop ([], []) 4672 (fun k env mem => ∃ (v27 : BitVec 64) (v28 : BitVec 64) (v29 : BitVec 64) (v30 : BitVec 64) (v31 : Int), passkeyref1SumL2 a2 k v27 v28 v29 v30 v31 = some res ∧ env = [(2, .d ((eL 1 eU8) a2)), (7, .ptr 704 0), (8, .d (eI v31))] ∧ mem = [(704, .var .mine [.d (eU64 v27), .d (eU64 v28), .d (eU64 v29), .d (eU64 v30)])]) FUEL ⟨_, _, Settled.refl, _, _, ⟨_, _, _, _, _, h, rfl, rfl⟩, ⟨rfl, ⟨⟨rfl, rfl⟩, ⟨⟨rfl, rfl⟩, ⟨⟨rfl, rfl⟩, trivial⟩⟩⟩, ⟨⟨rfl, rfl⟩, trivial⟩⟩, rfl⟩ (fun k2 env1 mem1 hI K32 hK32 => ?_)
    obtain ⟨v27, v28, v29, v30, v31, h, rfl, rfl⟩ := hI
    cases k2 with
    | zero => simp [passkeyref1SumL2] at h
    | succ k2 =>
      rw [passkeyref1SumL2] at h
      refine rwp_seq fun K33 hK33 => ?_
      refine rwp_seq fun K34 hK34 => ?_
      refine rwp_region fun K35 hK35 => ?_
      refine st0 4736 rfl (ok (mv (.d (eI v31)))) ?_
      refine st0 4800 rfl (ok (mv (.d ((eL 1 eU8) a2)))) ?_
      refine st0 4864 rfl (ok (lenL _ _)) ?_
      refine st0 4928 rfl (ok (leqI _ _)) ?_
      refine hK35 _ _ ?_
      simp only [n0, n1, n2, n3, n4, n5, n6, n7, n8, n9, n10, n11, n12, n13, n14, n15, n16, n17, n18, n19, reduceIte]
      refine hK34 _ _ _ ?_
      rcases Bool.eq_false_or_eq_true ((decide (v31 ≤ (a2.length : Int)))) with h36 | h36
      · replace h := ite_t h h36
        refine rwp_t (isT h36) ?_
        refine rwp_skip ?_
        refine hK33 _ _ _ ?_
        refine rwp_join ([], []) 8128 (fun env mem => ∃ (v37 : BitVec 64) (v38 : BitVec 64) (v39 : BitVec 64) (v40 : BitVec 64), passkeyref1SumJ3 (passkeyref1SumL2 a2 k2) v31 v37 v38 v39 v40 = some res ∧ env = [(2, .d ((eL 1 eU8) a2)), (7, .ptr 704 0), (8, .d (eI v31))] ∧ mem = [(704, .var .mine [.d (eU64 v37), .d (eU64 v38), .d (eU64 v39), .d (eU64 v40)])]) (fun _ _ hI => ?_) (fun K41 hK41 => ?_)
        · obtain ⟨v37, v38, v39, v40, h, rfl, rfl⟩ := hI
          unfold passkeyref1SumJ3 at h
          refine rwp_region fun K42 hK42 => ?_
          refine st0 8192 rfl (ok (mv (.d (eI v31)))) ?_
          refine st0 8256 rfl (ok (addI _ (8 : Int))) ?_
          refine st0 8320 rfl (ok (mv (.d (eI (w64 (v31 + (8 : Int))))))) ?_
          refine hK42 _ _ ?_
          simp only [n0, n1, n2, n3, n4, n5, n6, n7, n8, n9, n10, n11, n12, n13, n14, n15, n16, n17, n18, n19, reduceIte]
          exact hK32.out _ _ _ k2 (Nat.lt_succ_self k2) ⟨_, _, Settled.refl, _, _, ⟨_, _, _, _, _, h, rfl, rfl⟩, ⟨rfl, ⟨⟨rfl, rfl⟩, ⟨⟨rfl, rfl⟩, ⟨⟨rfl, rfl⟩, trivial⟩⟩⟩, ⟨⟨rfl, rfl⟩, trivial⟩⟩, rfl⟩
        · refine rwp_block fun K43 hK43 => ?_
          refine rwp_seq fun K44 hK44 => ?_
          refine rwp_region fun K45 hK45 => ?_
          refine st0 4992 rfl (ok (mv (.d (eU64 (0#64))))) ?_
          refine hK45 _ _ ?_
          simp only [n0, n1, n2, n3, n4, n5, n6, n7, n8, n9, n10, n11, n12, n13, n14, n15, n16, n17, n18, n19, reduceIte]
          refine hK44 _ _ _ ?_
          refine rwp_join ([], []) 7040 (fun env mem => ∃ (v46 : BitVec 64), passkeyref1SumJ4 (passkeyref1SumL2 a2 k2) v27 v28 v29 v30 v31 v46 = some res ∧ env = [(2, .d ((eL 1 eU8) a2)), (7, .ptr 704 0), (8, .d (eI v31)), (9, .d (eU64 v46))] ∧ mem = [(704, .var .mine [.d (eU64 v27), .d (eU64 v28), .d (eU64 v29), .d (eU64 v30)])]) (fun _ _ hI => ?_) (fun K47 hK47 => ?_)
          · obtain ⟨v46, h, rfl, rfl⟩ := hI
            unfold passkeyref1SumJ4 at h
            refine rwp_seq fun K48 hK48 => ?_
            refine rwp_region fun K49 hK49 => ?_
            refine st0 7104 rfl (ok (iarr_k 3 (by decide) rfl)) ?_
            refine st0 7168 rfl (ok (ld_v (v := .d (eU64 v30)) rfl rfl rfl)) ?_
            refine st0 7232 rfl (ok (mv (.d (eU64 v46)))) ?_
            refine st0 7296 rfl (ok (xor64 _ _)) ?_
            refine st0 7360 rfl (ok (iarr_k 3 (by decide) rfl)) ?_
            refine stn 7424 rfl (mem' := [(704, .var .mine [.d (eU64 v27), .d (eU64 v28), .d (eU64 v29), .d (eU64 (v30 ^^^ v46))])]) (ok (sto_v (ps' := [.d (eU64 v27), .d (eU64 v28), .d (eU64 v29), .d (eU64 (v30 ^^^ v46))]) rfl rfl rfl rfl)) rfl ?_
            refine hK49 _ _ ?_
            simp only [n0, n1, n2, n3, n4, n5, n6, n7, n8, n9, n10, n11, n12, n13, n14, n15, n16, n17, n18, n19, reduceIte]
            refine hK48 _ _ _ ?_
            refine rwp_seq fun K50 hK50 => ?_
            refine rwp_region fun K51 hK51 => ?_
            refine st0 7488 rfl (ok (ld_v (v := .d (.agg [eU64 v27, eU64 v28, eU64 v29, eU64 (v30 ^^^ v46)])) rfl rfl rfl)) ?_
            obtain ⟨y52, h53, h⟩ := bind_inv h
            refine st0 7552 rfl (call_ok (v := .d (eTA4BitVec64 y52)) (u := []) (ar_d (eTA4BitVec64 (TA4BitVec64.mk v27 v28 v29 (v30 ^^^ v46))) ar_nil) rfl (passkeyref1roundOK (TA4BitVec64.mk v27 v28 v29 (v30 ^^^ v46)) y52 h53) rfl) ?_
            obtain ⟨y54, h55, h⟩ := bind_inv h
            refine st0 7616 rfl (call_ok (v := .d (eTA4BitVec64 y54)) (u := []) (ar_d (eTA4BitVec64 y52) ar_nil) rfl (passkeyref1roundOK y52 y54 h55) rfl) ?_
            refine stn 7680 rfl (mem' := [(704, .var .mine [.d (eU64 y54.c0), .d (eU64 y54.c1), .d (eU64 y54.c2), .d (eU64 y54.c3)])]) (ok (sto_v (ps' := [.d (eU64 y54.c0), .d (eU64 y54.c1), .d (eU64 y54.c2), .d (eU64 y54.c3)]) rfl rfl rfl rfl)) rfl ?_
            refine hK51 _ _ ?_
            simp only [n0, n1, n2, n3, n4, n5, n6, n7, n8, n9, n10, n11, n12, n13, n14, n15, n16, n17, n18, n19, reduceIte]
            refine hK50 _ _ _ ?_
            refine rwp_region fun K56 hK56 => ?_
            refine st0 7744 rfl (ok (iarr_k 0 (by decide) rfl)) ?_
            refine st0 7808 rfl (ok (ld_v (v := .d (eU64 y54.c0)) rfl rfl rfl)) ?_
            refine st0 7872 rfl (ok (mv (.d (eU64 v46)))) ?_
            refine st0 7936 rfl (ok (xor64 _ _)) ?_
            refine st0 8000 rfl (ok (iarr_k 0 (by decide) rfl)) ?_
            refine stn 8064 rfl (mem' := [(704, .var .mine [.d (eU64 (y54.c0 ^^^ v46)), .d (eU64 y54.c1), .d (eU64 y54.c2), .d (eU64 y54.c3)])]) (ok (sto_v (ps' := [.d (eU64 (y54.c0 ^^^ v46)), .d (eU64 y54.c1), .d (eU64 y54.c2), .d (eU64 y54.c3)]) rfl rfl rfl rfl)) rfl ?_
            refine hK56 _ _ ?_
            simp only [n0, n1, n2, n3, n4, n5, n6, n7, n8, n9, n10, n11, n12, n13, n14, n15, n16, n17, n18, n19, reduceIte]
            refine hK43 _ _ _ ?_
            exact hK41 _ _ _ ⟨_, _, Settled.refl, _, _, ⟨_, _, _, _, h, rfl, rfl⟩, ⟨rfl, ⟨⟨rfl, rfl⟩, ⟨⟨rfl, rfl⟩, ⟨⟨rfl, rfl⟩, trivial⟩⟩⟩, ⟨⟨rfl, rfl⟩, trivial⟩⟩, rfl⟩
          · refine rwp_seq fun K57 hK57 => ?_
            refine rwp_region fun K58 hK58 => ?_
            refine st0 5056 rfl (ok (mv (.d (eI (7 : Int))))) ?_
            refine hK58 _ _ ?_
            simp only [n0, n1, n2, n3, n4, n5, n6, n7, n8, n9, n10, n11, n12, n13, n14, n15, n16, n17, n18, n19, reduceIte]
            refine hK57 _ _ _ ?_
            refine rwp_block fun K59 hK59 => ?_
            refine rwp_loop ([], []) 6848 (fun k env mem => ∃ (v60 : BitVec 64) (v61 : Int), passkeyref1SumL5 (passkeyref1SumL2 a2 k2) a2 v27 v28 v29 v30 v31 k v60 v61 = some res ∧ env = [(2, .d ((eL 1 eU8) a2)), (7, .ptr 704 0), (8, .d (eI v31)), (9, .d (eU64 v60)), (10, .d (eI v61))] ∧ mem = [(704, .var .mine [.d (eU64 v27), .d (eU64 v28), .d (eU64 v29), .d (eU64 v30)])]) FUEL ⟨_, _, Settled.refl, _, _, ⟨_, _, h, rfl, rfl⟩, ⟨rfl, ⟨⟨rfl, rfl⟩, ⟨⟨rfl, rfl⟩, ⟨⟨rfl, rfl⟩, ⟨⟨rfl, rfl⟩, ⟨⟨rfl, rfl⟩, trivial⟩⟩⟩⟩⟩, ⟨⟨rfl, rfl⟩, trivial⟩⟩, rfl⟩ (fun k5 env1 mem1 hI K62 hK62 => ?_)
            obtain ⟨v60, v61, h, rfl, rfl⟩ := hI
            cases k5 with
            | zero => simp [passkeyref1SumL5] at h
            | succ k5 =>
              rw [passkeyref1SumL5] at h
              refine rwp_seq fun K63 hK63 => ?_
              refine rwp_seq fun K64 hK64 => ?_
              refine rwp_region fun K65 hK65 => ?_
              refine st0 6912 rfl (ok (mv (.d (eI v61)))) ?_
              refine st0 6976 rfl (ok (geqI _ (0 : Int))) ?_
              refine hK65 _ _ ?_
              simp only [n0, n1, n2, n3, n4, n5, n6, n7, n8, n9, n10, n11, n12, n13, n14, n15, n16, n17, n18, n19, reduceIte]
              refine hK64 _ _ _ ?_
              rcases Bool.eq_false_or_eq_true ((decide ((0 : Int) ≤ v61))) with h66 | h66
              · replace h := ite_t h h66
                refine rwp_t (isT h66) ?_
                refine rwp_skip ?_
                refine hK63 _ _ _ ?_
                refine rwp_seq fun K67 hK67 => ?_
                refine rwp_block fun K68 hK68 => ?_
                refine rwp_seq fun K69 hK69 => ?_
                refine rwp_region fun K70 hK70 => ?_
                refine st0 7040 rfl (ok (mv (.d (eU8 (0#8))))) ?_
                refine hK70 _ _ ?_
                simp only [n0, n1, n2, n3, n4, n5, n6, n7, n8, n9, n10, n11, n12, n13, n14, n15, n16, n17, n18, n19, reduceIte]
                refine hK69 _ _ _ ?_
                refine rwp_join ([], []) 7936 (fun env mem => ∃ (v71 : BitVec 8), passkeyref1SumJ6 (passkeyref1SumL5 (passkeyref1SumL2 a2 k2) a2 v27 v28 v29 v30 v31 k5) v60 v61 v71 = some res ∧ env = [(2, .d ((eL 1 eU8) a2)), (7, .ptr 704 0), (8, .d (eI v31)), (9, .d (eU64 v60)), (10, .d (eI v61)), (11, .d (eU8 v71))] ∧ mem = [(704, .var .mine [.d (eU64 v27), .d (eU64 v28), .d (eU64 v29), .d (eU64 v30)])]) (fun _ _ hI => ?_) (fun K72 hK72 => ?_)
                · obtain ⟨v71, h, rfl, rfl⟩ := hI
                  unfold passkeyref1SumJ6 at h
                  refine rwp_region fun K73 hK73 => ?_
                  refine st0 8000 rfl (ok (mv (.d (eU64 v60)))) ?_
                  refine st0 8064 rfl (ok (shlL64 _ 8 rfl)) ?_
                  refine st0 8128 rfl (ok (mv (.d (eU8 v71)))) ?_
                  refine st0 8192 rfl (ok (cvt8_64 _)) ?_
                  refine st0 8256 rfl (ok (or64 _ _)) ?_
                  refine st0 8320 rfl (ok (mv (.d (eU64 ((v60 <<< 8) ||| (v71.setWidth 64)))))) ?_
                  refine hK73 _ _ ?_
                  simp only [n0, n1, n2, n3, n4, n5, n6, n7, n8, n9, n10, n11, n12, n13, n14, n15, n16, n17, n18, n19, reduceIte]
                  refine hK68 _ _ _ ?_
                  refine hK67 _ _ _ ?_
                  refine rwp_region fun K74 hK74 => ?_
                  refine st0 8384 rfl (ok (mv (.d (eI v61)))) ?_
                  refine st0 8448 rfl (ok (subI _ (1 : Int))) ?_
                  refine st0 8512 rfl (ok (mv (.d (eI (w64 (v61 - (1 : Int))))))) ?_
                  refine hK74 _ _ ?_
                  simp only [n0, n1, n2, n3, n4, n5, n6, n7, n8, n9, n10, n11, n12, n13, n14, n15, n16, n17, n18, n19, reduceIte]
                  exact hK62.out _ _ _ k5 (Nat.lt_succ_self k5) ⟨_, _, Settled.refl, _, _, ⟨_, _, h, rfl, rfl⟩, ⟨rfl, ⟨⟨rfl, rfl⟩, ⟨⟨rfl, rfl⟩, ⟨⟨rfl, rfl⟩, ⟨⟨rfl, rfl⟩, ⟨⟨rfl, rfl⟩, trivial⟩⟩⟩⟩⟩, ⟨⟨rfl, rfl⟩, trivial⟩⟩, rfl⟩
                · refine rwp_seq fun K75 hK75 => ?_
                  refine rwp_region fun K76 hK76 => ?_
                  refine st0 7104 rfl (ok (mv (.d (eI v31)))) ?_
                  refine st0 7168 rfl (ok (mv (.d (eI v61)))) ?_
                  refine st0 7232 rfl (ok (addI _ _)) ?_
                  refine st0 7296 rfl (ok (mv (.d ((eL 1 eU8) a2)))) ?_
                  refine st0 7360 rfl (ok (lenL _ _)) ?_
                  refine st0 7424 rfl (ok (lssI _ _)) ?_
                  refine hK76 _ _ ?_
                  simp only [n0, n1, n2, n3, n4, n5, n6, n7, n8, n9, n10, n11, n12, n13, n14, n15, n16, n17, n18, n19, reduceIte]
                  refine hK75 _ _ _ ?_
                  rcases Bool.eq_false_or_eq_true ((decide ((w64 (v31 + v61)) < (a2.length : Int)))) with h77 | h77
                  · replace h := ite_t h h77
                    refine rwp_t (isT h77) ?_
                    refine rwp_region fun K78 hK78 => ?_
                    refine st0 7488 rfl (ok (mv (.d ((eL 1 eU8) a2)))) ?_
                    refine st0 7552 rfl (ok (mv (.d (eI v31)))) ?_
                    refine st0 7616 rfl (ok (mv (.d (eI v61)))) ?_
                    refine st0 7680 rfl (ok (addI _ _)) ?_
                    obtain ⟨h79, h⟩ := asq_inv h
                    refine st0 7744 rfl (ok (iaL (e := eU8) (xs := a2) 0#8 h79)) ?_
                    refine st0 7808 rfl (ok (ld_i (v := eU8 (a2.getD (w64 (v31 + v61)).toNat 0#8)) rfl rfl)) ?_
                    refine st0 7872 rfl (ok (mv (.d (eU8 (a2.getD (w64 (v31 + v61)).toNat 0#8))))) ?_
                    refine hK78 _ _ ?_
                    simp only [n0, n1, n2, n3, n4, n5, n6, n7, n8, n9, n10, n11, n12, n13, n14, n15, n16, n17, n18, n19, reduceIte]
                    exact hK72 _ _ _ ⟨_, _, Settled.refl, _, _, ⟨_, h, rfl, rfl⟩, ⟨rfl, ⟨⟨rfl, rfl⟩, ⟨⟨rfl, rfl⟩, ⟨⟨rfl, rfl⟩, ⟨⟨rfl, rfl⟩, ⟨⟨rfl, rfl⟩, ⟨⟨rfl, rfl⟩, trivial⟩⟩⟩⟩⟩⟩, ⟨⟨rfl, rfl⟩, trivial⟩⟩, rfl⟩
                  · replace h := ite_f h h77
                    refine rwp_f (isF h77) ?_
                    refine rwp_seq fun K80 hK80 => ?_
                    refine rwp_region fun K81 hK81 => ?_
                    refine st0 7488 rfl (ok (mv (.d (eI v61)))) ?_
                    refine st0 7552 rfl (ok (eqlI _ (7 : Int))) ?_
                    refine hK81 _ _ ?_
                    simp only [n0, n1, n2, n3, n4, n5, n6, n7, n8, n9, n10, n11, n12, n13, n14, n15, n16, n17, n18, n19, reduceIte]
                    refine hK80 _ _ _ ?_
                    rcases Bool.eq_false_or_eq_true ((v61 == (7 : Int))) with h82 | h82
                    · replace h := ite_t h h82
                      refine rwp_t (isT h82) ?_
                      refine rwp_region fun K83 hK83 => ?_
                      refine st0 7616 rfl (ok (mv (.d ((eL 1 eU8) a2)))) ?_
                      refine st0 7680 rfl (ok (lenL _ _)) ?_
                      refine st0 7744 rfl (ok (ofI8 _ (a2.length : Int))) ?_
                      refine st0 7808 rfl (ok (mv (.d (eU8 (BitVec.ofInt 8 (a2.length : Int)))))) ?_
                      refine hK83 _ _ ?_
                      simp only [n0, n1, n2, n3, n4, n5, n6, n7, n8, n9, n10, n11, n12, n13, n14, n15, n16, n17, n18, n19, reduceIte]
                      exact hK72 _ _ _ ⟨_, _, Settled.refl, _, _, ⟨_, h, rfl, rfl⟩, ⟨rfl, ⟨⟨rfl, rfl⟩, ⟨⟨rfl, rfl⟩, ⟨⟨rfl, rfl⟩, ⟨⟨rfl, rfl⟩, ⟨⟨rfl, rfl⟩, ⟨⟨rfl, rfl⟩, trivial⟩⟩⟩⟩⟩⟩, ⟨⟨rfl, rfl⟩, trivial⟩⟩, rfl⟩
                    · replace h := ite_f h h82
                      refine rwp_f (isF h82) ?_
                      refine rwp_skip ?_
                      exact hK72 _ _ _ ⟨_, _, Settled.refl, _, _, ⟨_, h, rfl, rfl⟩, ⟨rfl, ⟨⟨rfl, rfl⟩, ⟨⟨rfl, rfl⟩, ⟨⟨rfl, rfl⟩, ⟨⟨rfl, rfl⟩, ⟨⟨rfl, rfl⟩, ⟨⟨rfl, rfl⟩, trivial⟩⟩⟩⟩⟩⟩, ⟨⟨rfl, rfl⟩, trivial⟩⟩, rfl⟩
              · replace h := ite_f h h66
                refine rwp_f (isF h66) ?_
                refine rwp_exit ?_
                refine hK59 _ _ _ ?_
                exact hK47 _ _ _ ⟨_, _, Settled.refl, _, _, ⟨_, h, rfl, rfl⟩, ⟨rfl, ⟨⟨rfl, rfl⟩, ⟨⟨rfl, rfl⟩, ⟨⟨rfl, rfl⟩, ⟨⟨rfl, rfl⟩, trivial⟩⟩⟩⟩, ⟨⟨rfl, rfl⟩, trivial⟩⟩, rfl⟩
      · replace h := ite_f h h36
        refine rwp_f (isF h36) ?_
        refine rwp_exit ?_
        refine hK26 _ _ _ ?_
        exact hK9 _ _ _ ⟨_, _, Settled.refl, _, _, ⟨_, _, _, _, h, rfl, rfl⟩, ⟨rfl, ⟨⟨rfl, rfl⟩, trivial⟩, ⟨⟨rfl, rfl⟩, trivial⟩⟩, rfl⟩

/-- passkey/passkeyref1.Mac -/
def passkeyref1MacH : Hints := ⟨[(0, [0, 1, 2]), (1, [6])], []⟩
def passkeyref1MacRc : RCode :=
  .seq (.region false [⟨some 6, .mv, [.k (.d (.int .u64 0))], none, []⟩] [0, 1, 2]) (.seq (.region false [⟨some 7, .mv, [.t 0], none, []⟩, ⟨some 8, .mv, [.t 1], none, []⟩, ⟨some 9,
  .cvt .u64, [.t 8], none, []⟩, ⟨some 10, .bin .add, [.k (.d (.int .u64 1)), .t 9], none, []⟩, ⟨some 11, .mv, [.t 2], none, []⟩, ⟨some 12, .call 45 false, [.t 7, .t 10, .t 11],
  none, []⟩, ⟨some 6, .mv, [.t 12], none, []⟩] [6]) .ret)
def passkeyref1MacRr : List RR := [.t 6]
theorem passkeyref1MacC : compFn Tryd.prog 34 passkeyref1MacH = some (passkeyref1MacRc, passkeyref1MacRr, 13) := by kernel_rfl
theorem passkeyref1MacOK (a0 : BitVec 64) (a1 : Int) (a2 : List (BitVec 8)) (res : BitVec 64) (h : passkeyref1Mac a0 a1 a2 = some res) : CallOK Tryd.prog 34 [.d (eU64 a0), .d (eI a1), .d ((eL 1 eU8) a2)] [] (.d (eU64 res)) [] := by
  unfold passkeyref1Mac at h
  refine callOK passkeyref1MacC fm rfl ?_
  simp only [initE, initM, nbor, List.map_cons, List.map_nil, Nat.reduceAdd]
  unfold passkeyref1MacRc
  refine rwp_seq fun K1 hK1 => ?_
  refine rwp_region fun K2 hK2 => ?_
  refine st0 128 rfl (ok (mv (.d (eU64 (0#64))))) ?_
  refine hK2 _ _ ?_
  simp only [n0, n1, n2, n3, n4, n5, n6, n7, n8, n9, n10, n11, n12, n13, n14, n15, n16, n17, n18, n19, reduceIte]
  refine hK1 _ _ _ ?_
  refine rwp_seq fun K3 hK3 => ?_
  refine rwp_region fun K4 hK4 => ?_
  refine st0 192 rfl (ok (mv (.d (eU64 a0)))) ?_
  refine st0 256 rfl (ok (mv (.d (eI a1)))) ?_
  refine st0 320 rfl (ok (ofI64 _ a1)) ?_
  refine st0 384 rfl (ok (add64 (1#64) _)) ?_
  refine st0 448 rfl (ok (mv (.d ((eL 1 eU8) a2)))) ?_
  obtain ⟨y5, h6, h⟩ := bind_inv h
  refine st0 512 rfl (call_ok (v := .d (eU64 y5)) (u := []) (ar_d (eU64 a0) (ar_d (eU64 ((1#64) + (BitVec.ofInt 64 a1))) (ar_d ((eL 1 eU8) a2) ar_nil))) rfl (passkeyref1SumOK a0 ((1#64) + (BitVec.ofInt 64 a1)) a2 y5 h6) rfl) ?_
  refine st0 576 rfl (ok (mv (.d (eU64 y5)))) ?_
  refine hK4 _ _ ?_
  simp only [n0, n1, n2, n3, n4, n5, n6, n7, n8, n9, n10, n11, n12, n13, n14, n15, n16, n17, n18, n19, reduceIte]
  refine hK3 _ _ _ ?_
  refine rwp_ret ?_
  obtain rfl := Option.some.inj h
  try simp only [thenK, blockK, reduceIte]
  exact Or.inl (end_ok trivial (rs_t (v := .d (eU64 y5)) rfl rs_nil) (en_d (to_d _) en_nil) ou_nil (by first | exact eok rfl rfl rfl rfl trivial | (refine eok ?_ ?_ ?_ ?_ ?_ <;> first | rfl | exact trivial | simp [retM, Mem.get, PV.renL, PV.ren, Blk.ren, comps, rhoR, rhoM, appN, PV.refsL, PV.refs, keys, nodupB, Blk.refs, allIn, Blk.bor])))

/-- passkey/passkeyref3.Stream -/
def passkeyref3StreamH : Hints := ⟨[(0, [0, 1, 2]), (1, [0, 1, 2]), (2, [0, 1, 2, 7]), (3, [0, 1, 2, 7, 8]), (4, [0, 1, 2, 7, 8, 15]), (6, [0, 1, 2, 7, 8]), (5, [0, 1, 2, 7, 8]), (7, [6])], []⟩
def passkeyref3StreamRc : RCode :=
  .seq (.region false [⟨some 6, .mv, [.k (.nil 1)], none, []⟩] [0, 1, 2]) (.seq (.region false [⟨some 9, .mv, [.t 2], none, []⟩, ⟨some 10, .mx, [.t 9, .k (.d (.int .i64 0))], none,
  []⟩, ⟨some 11, .mn, [.t 10, .k (.d (.int .i64 1024))], none, []⟩, ⟨some 2, .mv, [.t 11], none, []⟩] [0, 1, 2]) (.seq (.region false [⟨some 7, .mv, [.k (.nil 1)], none, []⟩] [0,
  1, 2, 7]) (.seq (.seq (.region false [⟨some 8, .mv, [.k (.d (.int .i64 0))], none, []⟩] [0, 1, 2, 7, 8]) (.block 0 (.loop [] (.seq (.seq (.region false [⟨some 12, .mv, [.t 7],
  none, []⟩, ⟨some 13, .len, [.t 12], none, []⟩, ⟨some 14, .mv, [.t 2], none, []⟩, ⟨some 15, .bin .lss, [.t 13, .t 14], none, []⟩] [0, 1, 2, 7, 8, 15]) (.cond (.t 15) .skip (.exit
  0))) (.seq (.block 1 (.region false [⟨some 18, .mv, [.t 7], none, []⟩, ⟨some 19, .mv, [.t 0], none, []⟩, ⟨some 20, .mv, [.t 1], none, []⟩, ⟨some 21, .mv, [.t 8], none, []⟩, ⟨some
  22, .cvt .u64, [.t 21], none, []⟩, ⟨some 23, .bslice 1 false 2 [.d (.int .u64 0)] [0, 1], [.t 20, .t 22], none, []⟩, ⟨some 24, .call 31 true, [.t 23], none, []⟩, ⟨some 25, .call
  34 false, [.t 19, .k (.d (.int .i64 5)), .t 24], none, []⟩, ⟨some 26, .bslice 1 false 1 [.d (.int .u64 0)] [0], [.t 25], none, []⟩, ⟨some 27, .call 31 true, [.t 26], none, []⟩,
  ⟨some 28, .app 1 140737488355328, [.t 18, .t 27], none, []⟩, ⟨some 7, .mv, [.t 28], none, []⟩] [0, 1, 2, 7, 8])) (.region false [⟨some 16, .mv, [.t 8], none, []⟩, ⟨some 17, .bin
  .add, [.t 16, .k (.d (.int .i64 1))], none, []⟩, ⟨some 8, .mv, [.t 17], none, []⟩] [0, 1, 2, 7, 8])))))) (.seq (.region false [⟨some 29, .mv, [.t 7], none, []⟩, ⟨some 30, .mv,
  [.t 2], none, []⟩, ⟨some 31, .slice 1 false true false, [.t 29, .t 30], none, []⟩, ⟨some 6, .mv, [.t 31], none, []⟩] [6]) .ret))))
def passkeyref3StreamRr : List RR := [.t 6]
theorem passkeyref3StreamC : compFn Tryd.prog 43 passkeyref3StreamH = some (passkeyref3StreamRc, passkeyref3StreamRr, 32) := by kernel_rfl
theorem passkeyref3StreamOK (a0 : BitVec 64) (a1 : BitVec 64) (a2 : Int) (res : List (BitVec 8)) (h : passkeyref3Stream a0 a1 a2 = some res) : CallOK Tryd.prog 43 [.d (eU64 a0), .d (eU64 a1), .d (eI a2)] [] (.d ((eL 1 eU8) res)) [] := by
  unfold passkeyref3Stream at h
  refine callOK passkeyref3StreamC fm rfl ?_
  simp only [initE, initM, nbor, List.map_cons, List.map_nil, Nat.reduceAdd]
  unfold passkeyref3StreamRc
  refine rwp_seq fun K1 hK1 => ?_
  refine rwp_region fun K2 hK2 => ?_
  refine st0 128 rfl (ok (mv (.nil 1))) ?_
  refine hK2 _ _ ?_
  simp only [n0, n1, n2, n3, n4, n5, n6, n7, n8, n9, n10, n11, n12, n13, n14, n15, n16, n17, n18, n19, reduceIte]
  refine hK1 _ _ _ ?_
  refine rwp_seq fun K3 hK3 => ?_
  refine rwp_region fun K4 hK4 => ?_
  refine st0 192 rfl (ok (mv (.d (eI a2)))) ?_
  refine st0 256 rfl (ok (maxI _ (0 : Int))) ?_
  obtain ⟨v5, h6, h⟩ := lett_inv h
  refine st0e 320 rfl (ok (minI _ (1024 : Int))) (congrArg (fun z => PV.d (eI z)) h6) ?_
  refine st0 384 rfl (ok (mv (.d (eI v5)))) ?_
  refine hK4 _ _ ?_
  simp only [n0, n1, n2, n3, n4, n5, n6, n7, n8, n9, n10, n11, n12, n13, n14, n15, n16, n17, n18, n19, reduceIte]
  refine hK3 _ _ _ ?_
  refine rwp_seq fun K7 hK7 => ?_
  refine rwp_region fun K8 hK8 => ?_
  refine st0 448 rfl (ok (mv (.nil 1))) ?_
  refine hK8 _ _ ?_
  simp only [n0, n1, n2, n3, n4, n5, n6, n7, n8, n9, n10, n11, n12, n13, n14, n15, n16, n17, n18, n19, reduceIte]
  refine hK7 _ _ _ ?_
  refine rwp_join ([], []) 2240 (fun env mem => ∃ (v9 : List (BitVec 8)), passkeyref3StreamJ1 v5 v9 = some res ∧ env = [(2, .d (eI v5)), (7, .ref 1857 v9.length 0 v9.length)] ∧ mem = [(1857, .row true 1 (v9.map eU8))]) (fun _ _ hI => ?_) (fun K10 hK10 => ?_)
  · obtain ⟨v9, h, rfl, rfl⟩ := hI
    unfold passkeyref3StreamJ1 at h
    refine rwp_seq fun K11 hK11 => ?_
    refine rwp_region fun K12 hK12 => ?_
    refine st0 2304 rfl (ok (mv (.ref 1857 v9.length 0 v9.length))) ?_
    refine st0 2368 rfl (ok (mv (.d (eI v5)))) ?_
    obtain ⟨h13, h⟩ := asq_inv h
    refine st0 2432 rfl (ok (slR_h (ys := v9.map eU8) rfl (by simp) h13)) ?_
    refine st0 2496 rfl (ok (mv (.ref 1857 v9.length (0 + 0) (v5.toNat - 0)))) ?_
    refine hK12 _ _ ?_
    simp only [n0, n1, n2, n3, n4, n5, n6, n7, n8, n9, n10, n11, n12, n13, n14, n15, n16, n17, n18, n19, reduceIte]
    refine hK11 _ _ _ ?_
    refine rwp_ret ?_
    obtain rfl := Option.some.inj h
    try simp only [thenK, blockK, reduceIte]
    exact Or.inl (end_ok trivial (rs_t (v := .ref 1857 v9.length (0 + 0) (v5.toNat - 0)) rfl rs_nil) (en_d (to_1 rfl (ds_p (ys := v9) rfl rfl ds_nil)) en_nil) ou_nil (by first | exact eok rfl rfl rfl rfl trivial | (refine eok ?_ ?_ ?_ ?_ ?_ <;> first | rfl | exact trivial | simp [retM, Mem.get, PV.renL, PV.ren, Blk.ren, comps, rhoR, rhoM, appN, PV.refsL, PV.refs, keys, nodupB, Blk.refs, allIn, Blk.bor])))
  · refine rwp_seq fun K14 hK14 => ?_
    refine rwp_region fun K15 hK15 => ?_
    refine st0 512 rfl (ok (mv (.d (eI (0 : Int))))) ?_
    refine hK15 _ _ ?_
    simp only [n0, n1, n2, n3, n4, n5, n6, n7, n8, n9, n10, n11, n12, n13, n14, n15, n16, n17, n18, n19, reduceIte]
    refine hK14 _ _ _ ?_
    refine rwp_block fun K16 hK16 => ?_
    refine rwp_loop ([(7, 1857)], []) 1920 (fun k env mem => ∃ (v17 : List (BitVec 8)) (v18 : Int), passkeyref3StreamL2 a0 a1 v5 k v17 v18 = some res ∧ env = [(0, .d (eU64 a0)), (1, .d (eU64 a1)), (2, .d (eI v5)), (7, .ref 1857 v17.length 0 v17.length), (8, .d (eI v18))] ∧ mem = [(1857, .row true 1 (v17.map eU8))]) FUEL ⟨_, _, Settled.refl, _, _, ⟨_, _, h, rfl, rfl⟩, ⟨rfl, ⟨⟨rfl, rfl⟩, ⟨⟨rfl, rfl⟩, ⟨⟨rfl, rfl⟩, ⟨⟨rfl, rfl⟩, ⟨⟨rfl, rfl⟩, trivial⟩⟩⟩⟩⟩, ⟨⟨rfl, rfl⟩, trivial⟩⟩, rfl⟩ (fun k2 env1 mem1 hI K19 hK19 => ?_)
    obtain ⟨v17, v18, h, rfl, rfl⟩ := hI
    cases k2 with
    | zero => simp [passkeyref3StreamL2] at h
    | succ k2 =>
      rw [passkeyref3StreamL2] at h
      refine rwp_seq fun K20 hK20 => ?_
      refine rwp_seq fun K21 hK21 => ?_
      refine rwp_region fun K22 hK22 => ?_
      refine st0 1984 rfl (ok (mv (.ref 1857 v17.length 0 v17.length))) ?_
      refine st0 2048 rfl (ok (lenR _ _ _ _)) ?_
      refine st0 2112 rfl (ok (mv (.d (eI v5)))) ?_
      refine st0 2176 rfl (ok (lssI _ _)) ?_
      refine hK22 _ _ ?_
      simp only [n0, n1, n2, n3, n4, n5, n6, n7, n8, n9, n10, n11, n12, n13, n14, n15, n16, n17, n18, n19, reduceIte]
      refine hK21 _ _ _ ?_
      rcases Bool.eq_false_or_eq_true ((decide ((v17.length : Int) < v5))) with h23 | h23
      · replace h := ite_t h h23
        refine rwp_t (isT h23) ?_
        refine rwp_skip ?_
        refine hK20 _ _ _ ?_
        refine rwp_seq fun K24 hK24 => ?_
        refine rwp_block fun K25 hK25 => ?_
        refine rwp_region fun K26 hK26 => ?_
        refine st0 2240 rfl (ok (mv (.ref 1857 v17.length 0 v17.length))) ?_
        refine st0 2304 rfl (ok (mv (.d (eU64 a0)))) ?_
        refine st0 2368 rfl (ok (mv (.d (eU64 a1)))) ?_
        refine st0 2432 rfl (ok (mv (.d (eI v18)))) ?_
        refine st0 2496 rfl (ok (ofI64 _ v18)) ?_
        refine st1 2560 rfl (mem' := [(2496, .row true 1 (([a1, (BitVec.ofInt 64 v18)] : List (BitVec 64)).map eU64)), (1857, .row true 1 (v17.map eU8))]) (ok (bsl (e := eU64) (ys := ([a1, (BitVec.ofInt 64 v18)] : List (BitVec 64))) rfl rfl rfl)) rfl ?_
        obtain ⟨y27, h28, h⟩ := bind_inv h
        refine st1 2624 rfl (mem' := [(2560, .row true 1 (y27.map eU8)), (2496, .row false 1 (([a1, (BitVec.ofInt 64 v18)] : List (BitVec 64)).map eU64)), (1857, .row true 1 (v17.map eU8))]) (call_ok (v := .ref 2560 y27.length 0 y27.length) (u := [(2560, .row true 1 (y27.map eU8)), (2496, .row false 1 (([a1, (BitVec.ofInt 64 v18)] : List (BitVec 64)).map eU64))]) (ar_to rfl (to_1 rfl (ds_r (ys := ([a1, (BitVec.ofInt 64 v18)] : List (BitVec 64))) rfl rfl rfl ds_nil)) ar_nil) rfl (passkeyref1WordsOK ([a1, (BitVec.ofInt 64 v18)] : List (BitVec 64)) y27 h28) rfl) rfl ?_
        obtain ⟨y29, h30, h⟩ := bind_inv h
        refine st0 2688 rfl (call_ok (v := .d (eU64 y29)) (u := []) (ar_d (eU64 a0) (ar_d (eI (5 : Int)) (ar_to rfl (to_1 rfl (ds_r (ys := y27) rfl rfl rfl ds_nil)) ar_nil))) rfl (passkeyref1MacOK a0 (5 : Int) y27 y29 h30) rfl) ?_
        refine st1 2752 rfl (mem' := [(2688, .row true 1 (([y29] : List (BitVec 64)).map eU64)), (2560, .row true 1 (y27.map eU8)), (2496, .row false 1 (([a1, (BitVec.ofInt 64 v18)] : List (BitVec 64)).map eU64)), (1857, .row true 1 (v17.map eU8))]) (ok (bsl (e := eU64) (ys := ([y29] : List (BitVec 64))) rfl rfl rfl)) rfl ?_
        obtain ⟨y31, h32, h⟩ := bind_inv h
        refine st1 2816 rfl (mem' := [(2752, .row true 1 (y31.map eU8)), (2688, .row false 1 (([y29] : List (BitVec 64)).map eU64)), (2560, .row true 1 (y27.map eU8)), (2496, .row false 1 (([a1, (BitVec.ofInt 64 v18)] : List (BitVec 64)).map eU64)), (1857, .row true 1 (v17.map eU8))]) (call_ok (v := .ref 2752 y31.length 0 y31.length) (u := [(2752, .row true 1 (y31.map eU8)), (2688, .row false 1 (([y29] : List (BitVec 64)).map eU64))]) (ar_to rfl (to_1 rfl (ds_r (ys := ([y29] : List (BitVec 64))) rfl rfl rfl ds_nil)) ar_nil) rfl (passkeyref1WordsOK ([y29] : List (BitVec 64)) y31 h32) rfl) rfl ?_
        obtain ⟨h33, h⟩ := asq_inv h
        refine st1 2880 rfl (mem' := [(1857, .row true 1 ((v17 ++ y31).map eU8)), (2752, .row true 1 (y31.map eU8)), (2688, .row false 1 (([y29] : List (BitVec 64)).map eU64)), (2560, .row true 1 (y27.map eU8)), (2496, .row false 1 (([a1, (BitVec.ofInt 64 v18)] : List (BitVec 64)).map eU64))]) (ok (appR (e := eU8) (xs := v17) (ys := y31) (contR (xs := y31) rfl rfl rfl) rfl rfl rfl h33)) rfl ?_
        refine st0 2944 rfl (ok (mv (.ref 1857 (((v17 ++ y31)).length) 0 (((v17 ++ y31)).length)))) ?_
        refine hK26 _ _ ?_
        simp only [n0, n1, n2, n3, n4, n5, n6, n7, n8, n9, n10, n11, n12, n13, n14, n15, n16, n17, n18, n19, reduceIte]
        refine hK25 _ _ _ ?_
        refine hK24 _ _ _ ?_
        refine rwp_region fun K34 hK34 => ?_
        refine st0 3008 rfl (ok (mv (.d (eI v18)))) ?_
        refine st0 3072 rfl (ok (addI _ (1 : Int))) ?_
        refine st0 3136 rfl (ok (mv (.d (eI (w64 (v18 + (1 : Int))))))) ?_
        refine hK34 _ _ ?_
        simp only [n0, n1, n2, n3, n4, n5, n6, n7, n8, n9, n10, n11, n12, n13, n14, n15, n16, n17, n18, n19, reduceIte]
        exact hK19.out _ _ _ k2 (Nat.lt_succ_self k2) ⟨_, _, Settled.refl, _, _, ⟨_, _, h, rfl, rfl⟩, ⟨rfl, ⟨⟨rfl, rfl⟩, ⟨⟨rfl, rfl⟩, ⟨⟨rfl, rfl⟩, ⟨⟨rfl, rfl⟩, ⟨⟨rfl, rfl⟩, trivial⟩⟩⟩⟩⟩, ⟨⟨rfl, rfl⟩, trivial⟩⟩, rfl⟩
      · replace h := ite_f h h23
        refine rwp_f (isF h23) ?_
        refine rwp_exit ?_
        refine hK16 _ _ _ ?_
        exact hK10 _ _ _ ⟨_, _, Settled.refl, _, _, ⟨_, h, rfl, rfl⟩, ⟨rfl, ⟨⟨rfl, rfl⟩, ⟨⟨rfl, rfl⟩, trivial⟩⟩, ⟨⟨rfl, rfl⟩, trivial⟩⟩, rfl⟩

/-- passkey/passkeyref3.mix -/
def passkeyref3mixH : Hints := ⟨[(0, [0, 1, 2]), (1, [2, 7]), (2, [2, 7, 8]), (3, [2, 7, 8, 9]), (4, [2, 7, 8, 9, 18]), (6, [2, 7, 8, 9]), (5, [2, 7, 8, 9]), (7, [6])], []⟩
def passkeyref3mixRc : RCode :=
  .seq (.region false [⟨some 6, .mv, [.k (.nil 1)], none, []⟩] [0, 1, 2]) (.seq (.region false [⟨some 10, .mv, [.t 0], none, []⟩, ⟨some 11, .mv, [.t 1], none, []⟩, ⟨some 12, .mv, [.t
  2], none, []⟩, ⟨some 13, .len, [.t 12], none, []⟩, ⟨some 14, .call 43 true, [.t 10, .t 11, .t 13], none, []⟩, ⟨some 7, .mv, [.t 14], none, []⟩] [2, 7]) (.seq (.region false
  [⟨some 8, .mv, [.k (.nil 1)], none, []⟩] [2, 7, 8]) (.seq (.seq (.region false [⟨some 9, .mv, [.k (.d (.int .i64 0))], none, []⟩] [2, 7, 8, 9]) (.block 0 (.loop [] (.seq (.seq
  (.region false [⟨some 15, .mv, [.t 9], none, []⟩, ⟨some 16, .mv, [.t 2], none, []⟩, ⟨some 17, .len, [.t 16], none, []⟩, ⟨some 18, .bin .lss, [.t 15, .t 17], none, []⟩] [2, 7, 8,
  9, 18]) (.cond (.t 18) .skip (.exit 0))) (.seq (.block 1 (.region true [⟨some 21, .mv, [.t 8], none, []⟩, ⟨some 22, .mv, [.t 2], none, []⟩, ⟨some 23, .mv, [.t 9], none, []⟩,
  ⟨some 24, .ia 1, [.t 22, .t 23], none, [1, 2]⟩, ⟨some 25, .load 1 false, [.t 24], none, [1, 2, 3]⟩, ⟨some 26, .mv, [.t 7], none, []⟩, ⟨some 27, .mv, [.t 9], none, []⟩, ⟨some 28,
  .ia 1, [.t 26, .t 27], none, [5, 6]⟩, ⟨some 29, .load 1 false, [.t 28], none, [5, 6, 7]⟩, ⟨some 30, .bin .xor, [.t 25, .t 29], none, [1, 2, 3, 4, 5, 6, 7, 8]⟩, ⟨some 31, .bslice
  1 false 1 [.d (.int .u8 0)] [0], [.t 30], none, [1, 2, 3, 4, 5, 6, 7, 8, 9]⟩, ⟨some 32, .app 1 140737488355328, [.t 21, .t 31], none, [0, 1, 2, 3, 4, 5, 6, 7, 8, 9, 10]⟩, ⟨some
  8, .mv, [.t 32], none, [0, 1, 2, 3, 4, 5, 6, 7, 8, 9, 10, 11]⟩] [2, 7, 8, 9])) (.region false [⟨some 19, .mv, [.t 9], none, []⟩, ⟨some 20, .bin .add, [.t 19, .k (.d (.int .i64
  1))], none, []⟩, ⟨some 9, .mv, [.t 20], none, []⟩] [2, 7, 8, 9])))))) (.seq (.region false [⟨some 33, .mv, [.t 8], none, []⟩, ⟨some 6, .mv, [.t 33], none, []⟩] [6]) .ret))))
def passkeyref3mixRr : List RR := [.t 6]
theorem passkeyref3mixC : compFn Tryd.prog 30 passkeyref3mixH = some (passkeyref3mixRc, passkeyref3mixRr, 34) := by kernel_rfl
theorem passkeyref3mixOK (a0 : BitVec 64) (a1 : BitVec 64) (a2 : List (BitVec 8)) (res : List (BitVec 8)) (h : passkeyref3mix a0 a1 a2 = some res) : CallOK Tryd.prog 30 [.d (eU64 a0), .d (eU64 a1), .d ((eL 1 eU8) a2)] [] (.ref 0 res.length 0 res.length) [(0, .row true 1 (res.map eU8))] := by
  unfold passkeyref3mix at h
  refine callOK passkeyref3mixC fm rfl ?_
  simp only [initE, initM, nbor, List.map_cons, List.map_nil, Nat.reduceAdd]
  unfold passkeyref3mixRc
  refine rwp_seq fun K1 hK1 => ?_
  refine rwp_region fun K2 hK2 => ?_
  refine st0 128 rfl (ok (mv (.nil 1))) ?_
  refine hK2 _ _ ?_
  simp only [n0, n1, n2, n3, n4, n5, n6, n7, n8, n9, n10, n11, n12, n13, n14, n15, n16, n17, n18, n19, reduceIte]
  refine hK1 _ _ _ ?_
  refine rwp_seq fun K3 hK3 => ?_
  refine rwp_region fun K4 hK4 => ?_
  refine st0 192 rfl (ok (mv (.d (eU64 a0)))) ?_
  refine st0 256 rfl (ok (mv (.d (eU64 a1)))) ?_
  refine st0 320 rfl (ok (mv (.d ((eL 1 eU8) a2)))) ?_
  refine st0 384 rfl (ok (lenL _ _)) ?_
  obtain ⟨y5, h6, h⟩ := bind_inv h
  refine st0 448 rfl (call_ok (v := .d ((eL 1 eU8) y5)) (u := []) (ar_d (eU64 a0) (ar_d (eU64 a1) (ar_d (eI (a2.length : Int)) ar_nil))) rfl (passkeyref3StreamOK a0 a1 (a2.length : Int) y5 h6) rfl) ?_
  refine st0 512 rfl (ok (mv (.d ((eL 1 eU8) y5)))) ?_
  refine hK4 _ _ ?_
  simp only [n0, n1, n2, n3, n4, n5, n6, n7, n8, n9, n10, n11, n12, n13, n14, n15, n16, n17, n18, n19, reduceIte]
  refine hK3 _ _ _ ?_
  refine rwp_seq fun K7 hK7 => ?_
  refine rwp_region fun K8 hK8 => ?_
  refine st0 576 rfl (ok (mv (.nil 1))) ?_
  refine hK8 _ _ ?_
  simp only [n0, n1, n2, n3, n4, n5, n6, n7, n8, n9, n10, n11, n12, n13, n14, n15, n16, n17, n18, n19, reduceIte]
  refine hK7 _ _ _ ?_
  refine rwp_join ([], []) 2432 (fun env mem => ∃ (v9 : List (BitVec 8)), passkeyref3mixJ1 v9 = some res ∧ env = [(8, .ref 2049 v9.length 0 v9.length)] ∧ mem = [(2049, .row true 1 (v9.map eU8))]) (fun _ _ hI => ?_) (fun K10 hK10 => ?_)
  · obtain ⟨v9, h, rfl, rfl⟩ := hI
    unfold passkeyref3mixJ1 at h
    refine rwp_seq fun K11 hK11 => ?_
    refine rwp_region fun K12 hK12 => ?_
    refine st0 2496 rfl (ok (mv (.ref 2049 v9.length 0 v9.length))) ?_
    refine st0 2560 rfl (ok (mv (.ref 2049 v9.length 0 v9.length))) ?_
    refine hK12 _ _ ?_
    simp only [n0, n1, n2, n3, n4, n5, n6, n7, n8, n9, n10, n11, n12, n13, n14, n15, n16, n17, n18, n19, reduceIte]
    refine hK11 _ _ _ ?_
    refine rwp_ret ?_
    obtain rfl := Option.some.inj h
    try simp only [thenK, blockK, reduceIte]
    exact Or.inl (end_ok trivial (rs_t (v := .ref 2049 v9.length 0 v9.length) rfl rs_nil) (en_ref en_nil) ou_nil (by first | exact eok rfl rfl rfl rfl (And.intro (And.intro rfl rfl) trivial) | (refine eok ?_ ?_ ?_ ?_ ?_ <;> first | rfl | exact (And.intro (And.intro rfl rfl) trivial) | simp [retM, Mem.get, PV.renL, PV.ren, Blk.ren, comps, rhoR, rhoM, appN, PV.refsL, PV.refs, keys, nodupB, Blk.refs, allIn, Blk.bor])))
  · refine rwp_seq fun K13 hK13 => ?_
    refine rwp_region fun K14 hK14 => ?_
    refine st0 640 rfl (ok (mv (.d (eI (0 : Int))))) ?_
    refine hK14 _ _ ?_
    simp only [n0, n1, n2, n3, n4, n5, n6, n7, n8, n9, n10, n11, n12, n13, n14, n15, n16, n17, n18, n19, reduceIte]
    refine hK13 _ _ _ ?_
    refine rwp_block fun K15 hK15 => ?_
    refine rwp_loop ([(8, 2049)], []) 2112 (fun k env mem => ∃ (v16 : List (BitVec 8)) (v17 : Int), passkeyref3mixL2 a2 y5 k v16 v17 = some res ∧ env = [(2, .d ((eL 1 eU8) a2)), (7, .d ((eL 1 eU8) y5)), (8, .ref 2049 v16.length 0 v16.length), (9, .d (eI v17))] ∧ mem = [(2049, .row true 1 (v16.map eU8))]) FUEL ⟨_, _, Settled.refl, _, _, ⟨_, _, h, rfl, rfl⟩, ⟨rfl, ⟨⟨rfl, rfl⟩, ⟨⟨rfl, rfl⟩, ⟨⟨rfl, rfl⟩, ⟨⟨rfl, rfl⟩, trivial⟩⟩⟩⟩, ⟨⟨rfl, rfl⟩, trivial⟩⟩, rfl⟩ (fun k2 env1 mem1 hI K18 hK18 => ?_)
    obtain ⟨v16, v17, h, rfl, rfl⟩ := hI
    cases k2 with
    | zero => simp [passkeyref3mixL2] at h
    | succ k2 =>
      rw [passkeyref3mixL2] at h
      refine rwp_seq fun K19 hK19 => ?_
      refine rwp_seq fun K20 hK20 => ?_
      refine rwp_region fun K21 hK21 => ?_
      refine st0 2176 rfl (ok (mv (.d (eI v17)))) ?_
      refine st0 2240 rfl (ok (mv (.d ((eL 1 eU8) a2)))) ?_
      refine st0 2304 rfl (ok (lenL _ _)) ?_
      refine st0 2368 rfl (ok (lssI _ _)) ?_
      refine hK21 _ _ ?_
      simp only [n0, n1, n2, n3, n4, n5, n6, n7, n8, n9, n10, n11, n12, n13, n14, n15, n16, n17, n18, n19, reduceIte]
      refine hK20 _ _ _ ?_
      rcases Bool.eq_false_or_eq_true ((decide (v17 < (a2.length : Int)))) with h22 | h22
      · replace h := ite_t h h22
        refine rwp_t (isT h22) ?_
        refine rwp_skip ?_
        refine hK19 _ _ _ ?_
        refine rwp_seq fun K23 hK23 => ?_
        refine rwp_block fun K24 hK24 => ?_
        refine rwp_draw fun K25 hK25 => ?_
        refine dr0 2432 rfl (ok (mv (.ref 2049 v16.length 0 v16.length))) (by kernel_rfl) ?_
        refine dr0 2496 rfl (ok (mv (.d ((eL 1 eU8) a2)))) (by kernel_rfl) ?_
        refine dr0 2560 rfl (ok (mv (.d (eI v17)))) (by kernel_rfl) ?_
        obtain ⟨h26, h⟩ := asq_inv h
        refine dr0 2624 rfl (ok (iaL (e := eU8) (xs := a2) 0#8 h26)) (by kernel_rfl) ?_
        refine dr0 2688 rfl (ok (ld_i (v := eU8 (a2.getD v17.toNat 0#8)) rfl rfl)) (by kernel_rfl) ?_
        refine dr0 2752 rfl (ok (mv (.d ((eL 1 eU8) y5)))) (by kernel_rfl) ?_
        refine dr0 2816 rfl (ok (mv (.d (eI v17)))) (by kernel_rfl) ?_
        obtain ⟨h27, h⟩ := asq_inv h
        refine dr0 2880 rfl (ok (iaL (e := eU8) (xs := y5) 0#8 h27)) (by kernel_rfl) ?_
        refine dr0 2944 rfl (ok (ld_i (v := eU8 (y5.getD v17.toNat 0#8)) rfl rfl)) (by kernel_rfl) ?_
        refine dr0 3008 rfl (ok (xor8 _ _)) (by kernel_rfl) ?_
        refine dr1 3072 rfl (mem' := [(3008, .row true 1 (([((a2.getD v17.toNat 0#8) ^^^ (y5.getD v17.toNat 0#8))] : List (BitVec 8)).map eU8)), (2049, .row true 1 (v16.map eU8))]) (ok (bsl (e := eU8) (ys := ([((a2.getD v17.toNat 0#8) ^^^ (y5.getD v17.toNat 0#8))] : List (BitVec 8))) rfl rfl rfl)) rfl (by kernel_rfl) ?_
        obtain ⟨h28, h⟩ := asq_inv h
        refine dr1 3136 rfl (mem' := [(2049, .row true 1 ((v16 ++ ([((a2.getD v17.toNat 0#8) ^^^ (y5.getD v17.toNat 0#8))] : List (BitVec 8))).map eU8)), (3008, .row true 1 (([((a2.getD v17.toNat 0#8) ^^^ (y5.getD v17.toNat 0#8))] : List (BitVec 8)).map eU8))]) (ok (appR (e := eU8) (xs := v16) (ys := ([((a2.getD v17.toNat 0#8) ^^^ (y5.getD v17.toNat 0#8))] : List (BitVec 8))) (contR (xs := ([((a2.getD v17.toNat 0#8) ^^^ (y5.getD v17.toNat 0#8))] : List (BitVec 8))) rfl rfl rfl) rfl rfl rfl h28)) rfl (by kernel_rfl) ?_
        refine dr0 3200 rfl (ok (mv (.ref 2049 (((v16 ++ ([((a2.getD v17.toNat 0#8) ^^^ (y5.getD v17.toNat 0#8))] : List (BitVec 8)))).length) 0 (((v16 ++ ([((a2.getD v17.toNat 0#8) ^^^ (y5.getD v17.toNat 0#8))] : List (BitVec 8)))).length)))) (by kernel_rfl) ?_
        refine hK25 _ _ ?_
        simp only [n0, n1, n2, n3, n4, n5, n6, n7, n8, n9, n10, n11, n12, n13, n14, n15, n16, n17, n18, n19, reduceIte]
        refine hK24 _ _ _ ?_
        refine hK23 _ _ _ ?_
        refine rwp_region fun K29 hK29 => ?_
        refine st0 3264 rfl (ok (mv (.d (eI v17)))) ?_
        refine st0 3328 rfl (ok (addI _ (1 : Int))) ?_
        refine st0 3392 rfl (ok (mv (.d (eI (w64 (v17 + (1 : Int))))))) ?_
        refine hK29 _ _ ?_
        simp only [n0, n1, n2, n3, n4, n5, n6, n7, n8, n9, n10, n11, n12, n13, n14, n15, n16, n17, n18, n19, reduceIte]
        exact hK18.out _ _ _ k2 (Nat.lt_succ_self k2) ⟨_, _, Settled.refl, _, _, ⟨_, _, h, rfl, rfl⟩, ⟨rfl, ⟨⟨rfl, rfl⟩, ⟨⟨rfl, rfl⟩, ⟨⟨rfl, rfl⟩, ⟨⟨rfl, rfl⟩, trivial⟩⟩⟩⟩, ⟨⟨rfl, rfl⟩, trivial⟩⟩, rfl⟩
      · replace h := ite_f h h22
        refine rwp_f (isF h22) ?_
        refine rwp_exit ?_
        refine hK15 _ _ _ ?_
        exact hK10 _ _ _ ⟨_, _, Settled.refl, _, _, ⟨_, h, rfl, rfl⟩, ⟨rfl, ⟨⟨rfl, rfl⟩, trivial⟩, ⟨⟨rfl, rfl⟩, trivial⟩⟩, rfl⟩

/-- passkey/passkeyref3.tag -/
def passkeyref3tagH : Hints := ⟨[(0, [0, 1, 2, 3]), (1, [0, 2, 3, 9]), (2, [8])], []⟩
def passkeyref3tagRc : RCode :=
  .seq (.region false [⟨some 8, .mv, [.k (.d (.int .u64 0))], none, []⟩] [0, 1, 2, 3]) (.seq (.region false [⟨some 10, .mv, [.t 1], none, []⟩, ⟨some 11, .mv, [.t 2], none, []⟩, ⟨some
  12, .len, [.t 11], none, []⟩, ⟨some 13, .cvt .u64, [.t 12], none, []⟩, ⟨some 14, .bslice 1 false 2 [.d (.int .u64 0)] [0, 1], [.t 10, .t 13], none, []⟩, ⟨some 15, .call 31 true,
  [.t 14], none, []⟩, ⟨some 9, .mv, [.t 15], none, []⟩] [0, 2, 3, 9]) (.seq (.region false [⟨some 16, .mv, [.t 0], none, []⟩, ⟨some 17, .mv, [.t 9], none, []⟩, ⟨some 18, .mv, [.t
  2], none, []⟩, ⟨some 19, .app 1 140737488355328, [.t 17, .t 18], none, []⟩, ⟨some 20, .mv, [.t 3], none, []⟩, ⟨some 21, .app 1 140737488355328, [.t 19, .t 20], none, []⟩, ⟨some
  22, .call 34 false, [.t 16, .k (.d (.int .i64 6)), .t 21], none, []⟩, ⟨some 8, .mv, [.t 22], none, []⟩] [8]) .ret))
def passkeyref3tagRr : List RR := [.t 8]
theorem passkeyref3tagC : compFn Tryd.prog 32 passkeyref3tagH = some (passkeyref3tagRc, passkeyref3tagRr, 23) := by kernel_rfl
theorem passkeyref3tagOK (a0 : BitVec 64) (a1 : BitVec 64) (a2 : List (BitVec 8)) (a3 : List (BitVec 8)) (res : BitVec 64) (h : passkeyref3tag a0 a1 a2 a3 = some res) : CallOK Tryd.prog 32 [.d (eU64 a0), .d (eU64 a1), .d ((eL 1 eU8) a2), .d ((eL 1 eU8) a3)] [] (.d (eU64 res)) [] := by
  unfold passkeyref3tag at h
  refine callOK passkeyref3tagC fm rfl ?_
  simp only [initE, initM, nbor, List.map_cons, List.map_nil, Nat.reduceAdd]
  unfold passkeyref3tagRc
  refine rwp_seq fun K1 hK1 => ?_
  refine rwp_region fun K2 hK2 => ?_
  refine st0 128 rfl (ok (mv (.d (eU64 (0#64))))) ?_
  refine hK2 _ _ ?_
  simp only [n0, n1, n2, n3, n4, n5, n6, n7, n8, n9, n10, n11, n12, n13, n14, n15, n16, n17, n18, n19, reduceIte]
  refine hK1 _ _ _ ?_
  refine rwp_seq fun K3 hK3 => ?_
  refine rwp_region fun K4 hK4 => ?_
  refine st0 192 rfl (ok (mv (.d (eU64 a1)))) ?_
  refine st0 256 rfl (ok (mv (.d ((eL 1 eU8) a2)))) ?_
  refine st0 320 rfl (ok (lenL _ _)) ?_
  refine st0 384 rfl (ok (ofI64 _ (a2.length : Int))) ?_
  refine st1 448 rfl (mem' := [(384, .row true 1 (([a1, (BitVec.ofInt 64 (a2.length : Int))] : List (BitVec 64)).map eU64))]) (ok (bsl (e := eU64) (ys := ([a1, (BitVec.ofInt 64 (a2.length : Int))] : List (BitVec 64))) rfl rfl rfl)) rfl ?_
  obtain ⟨y5, h6, h⟩ := bind_inv h
  refine st1 512 rfl (mem' := [(448, .row true 1 (y5.map eU8)), (384, .row false 1 (([a1, (BitVec.ofInt 64 (a2.length : Int))] : List (BitVec 64)).map eU64))]) (call_ok (v := .ref 448 y5.length 0 y5.length) (u := [(448, .row true 1 (y5.map eU8)), (384, .row false 1 (([a1, (BitVec.ofInt 64 (a2.length : Int))] : List (BitVec 64)).map eU64))]) (ar_to rfl (to_1 rfl (ds_r (ys := ([a1, (BitVec.ofInt 64 (a2.length : Int))] : List (BitVec 64))) rfl rfl rfl ds_nil)) ar_nil) rfl (passkeyref1WordsOK ([a1, (BitVec.ofInt 64 (a2.length : Int))] : List (BitVec 64)) y5 h6) rfl) rfl ?_
  refine st0 576 rfl (ok (mv (.ref 448 y5.length 0 y5.length))) ?_
  refine hK4 _ _ ?_
  simp only [n0, n1, n2, n3, n4, n5, n6, n7, n8, n9, n10, n11, n12, n13, n14, n15, n16, n17, n18, n19, reduceIte]
  refine hK3 _ _ _ ?_
  refine rwp_seq fun K7 hK7 => ?_
  refine rwp_region fun K8 hK8 => ?_
  refine st0 640 rfl (ok (mv (.d (eU64 a0)))) ?_
  refine st0 704 rfl (ok (mv (.ref 448 y5.length 0 y5.length))) ?_
  refine st0 768 rfl (ok (mv (.d ((eL 1 eU8) a2)))) ?_
  obtain ⟨h9, h⟩ := asq_inv h
  refine st1 832 rfl (mem' := [(448, .row true 1 ((y5 ++ a2).map eU8)), (384, .row false 1 (([a1, (BitVec.ofInt 64 (a2.length : Int))] : List (BitVec 64)).map eU64))]) (ok (appR (e := eU8) (xs := y5) (ys := a2) contL rfl rfl rfl h9)) rfl ?_
  refine st0 896 rfl (ok (mv (.d ((eL 1 eU8) a3)))) ?_
  obtain ⟨h10, h⟩ := asq_inv h
  refine st1 960 rfl (mem' := [(448, .row true 1 (((y5 ++ a2) ++ a3).map eU8)), (384, .row false 1 (([a1, (BitVec.ofInt 64 (a2.length : Int))] : List (BitVec 64)).map eU64))]) (ok (appR (e := eU8) (xs := (y5 ++ a2)) (ys := a3) contL rfl rfl rfl h10)) rfl ?_
  obtain ⟨y11, h12, h⟩ := bind_inv h
  refine st0 1024 rfl (call_ok (v := .d (eU64 y11)) (u := []) (ar_d (eU64 a0) (ar_d (eI (6 : Int)) (ar_to rfl (to_1 rfl (ds_r (ys := ((y5 ++ a2) ++ a3)) rfl rfl rfl ds_nil)) ar_nil))) rfl (passkeyref1MacOK a0 (6 : Int) ((y5 ++ a2) ++ a3) y11 h12) rfl) ?_
  refine st0 1088 rfl (ok (mv (.d (eU64 y11)))) ?_
  refine hK8 _ _ ?_
  simp only [n0, n1, n2, n3, n4, n5, n6, n7, n8, n9, n10, n11, n12, n13, n14, n15, n16, n17, n18, n19, reduceIte]
  refine hK7 _ _ _ ?_
  refine rwp_ret ?_
  obtain rfl := Option.some.inj h
  try simp only [thenK, blockK, reduceIte]
  exact Or.inl (end_ok trivial (rs_t (v := .d (eU64 y11)) rfl rs_nil) (en_d (to_d _) en_nil) ou_nil (by first | exact eok rfl rfl rfl rfl trivial | (refine eok ?_ ?_ ?_ ?_ ?_ <;> first | rfl | exact trivial | simp [retM, Mem.get, PV.renL, PV.ren, Blk.ren, comps, rhoR, rhoM, appN, PV.refsL, PV.refs, keys, nodupB, Blk.refs, allIn, Blk.bor])))

end Go.Proofs.Ty
