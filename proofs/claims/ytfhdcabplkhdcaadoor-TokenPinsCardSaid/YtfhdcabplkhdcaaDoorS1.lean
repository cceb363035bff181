/- Each Go function comes to what its plain function says. PRINTED by a program of this session (ty.py). -/
import Derived.Test.YtfhdcabplkhdcaaDoorS0
set_option linter.unusedVariables false
set_option linter.unusedSimpArgs false
set_option maxHeartbeats 4000000
set_option maxRecDepth 10000
namespace Go.Proofs.Ty
open Go Go.RW Go.Proofs
open Go.RW renaming thenK → n0, blockK → n1, keepE → n2, updM → n3, envE → n4
open Go.RW.Mem renaming get → n5
open List renaming filter_cons → n6, filter_nil → n7, nil_append → n8, cons_append → n9, map_cons → n10, map_nil → n11, length_cons → n12, length_nil → n13
open Option renaming isNone_none → n14, isNone_some → n15
open Bool renaming false_eq_true → n16
open Nat renaming reduceEqDiff → n17, reduceAdd → n18, reduceMul → n19
/-- passkey/digest.Sum -/
def digestSumH : Hints := ⟨[(0, [0, 1, 2]), (1, [2, 7]), (2, [2, 7, 8]), (3, [2, 7, 8, 25]), (4, [2, 7, 8]), (5, [2, 7, 8]), (6, [7]), (7, [7]), (8, [7]), (9, [6])], []⟩
def digestSumRc : RCode :=
  .seq (.region false [⟨some 6, .mv, [.k (.d (.int .u64 0))], none, []⟩] [0, 1, 2]) (.seq (.region false [⟨some 9, .mv, [.t 0], none, []⟩, ⟨some 10, .bin .xor, [.t 9, .k (.d (.int
  .u64 8317987319222330741))], none, []⟩, ⟨some 11, .mv, [.t 1], none, []⟩, ⟨some 12, .bin .xor, [.t 11, .k (.d (.int .u64 7237128888997146477))], none, []⟩, ⟨some 13, .mv, [.t 0],
  none, []⟩, ⟨some 14, .bin .xor, [.t 13, .k (.d (.int .u64 7816392313619706465))], none, []⟩, ⟨some 15, .mv, [.t 1], none, []⟩, ⟨some 16, .bin .xor, [.t 15, .k (.d (.int .u64
  8387220255154660723))], none, []⟩, ⟨some 17, .build [.d (.int .u64 0), .d (.int .u64 0), .d (.int .u64 0), .d (.int .u64 0)] [(0, 1), (1, 1), (2, 1), (3, 1)], [.t 10, .t 12, .t
  14, .t 16], none, []⟩, ⟨some 18, .box, [.t 17], none, []⟩, ⟨some 7, .mv, [.t 18], none, []⟩] [2, 7]) (.seq (.region false [⟨some 19, .mv, [.t 2], none, []⟩, ⟨some 20, .len, [.t
  19], none, []⟩, ⟨some 21, .cvt .u64, [.t 20], none, []⟩, ⟨some 22, .bin .shl, [.t 21, .k (.d (.int .u64 56))], none, []⟩, ⟨some 8, .mv, [.t 22], none, []⟩] [2, 7, 8]) (.seq
  (.block 0 (.loop [] (.seq (.seq (.region false [⟨some 23, .mv, [.t 2], none, []⟩, ⟨some 24, .len, [.t 23], none, []⟩, ⟨some 25, .bin .geq, [.t 24, .k (.d (.int .i64 8))], none,
  []⟩] [2, 7, 8, 25]) (.cond (.t 25) .skip (.exit 0))) (.block 1 (.seq (.region false [⟨some 26, .mv, [.t 7], none, []⟩, ⟨some 27, .mv, [.t 2], none, []⟩, ⟨some 28, .slice 1 false
  true false, [.t 27, .k (.d (.int .i64 8))], none, []⟩, ⟨some 29, .call 60 false, [.t 28], none, []⟩, ⟨some 30, .call 59 false, [.t 26, .t 29], none, []⟩] [2, 7, 8]) (.region
  false [⟨some 31, .mv, [.t 2], none, []⟩, ⟨some 32, .slice 1 true false false, [.t 31, .k (.d (.int .i64 8))], none, []⟩, ⟨some 2, .mv, [.t 32], none, []⟩] [2, 7, 8])))))) (.seq
  (.region false [⟨some 33, .mv, [.t 7], none, []⟩, ⟨some 34, .mv, [.t 8], none, []⟩, ⟨some 35, .mv, [.t 2], none, []⟩, ⟨some 36, .call 60 false, [.t 35], none, []⟩, ⟨some 37, .bin
  .or, [.t 34, .t 36], none, []⟩, ⟨some 38, .call 59 false, [.t 33, .t 37], none, []⟩] [7]) (.seq (.region false [⟨some 39, .mv, [.t 7], none, []⟩, ⟨some 40, .chk, [.t 39], none,
  []⟩, ⟨some 41, .fa 2, [.t 40], none, []⟩, ⟨some 42, .load 1 false, [.t 41], none, []⟩, ⟨some 43, .bin .xor, [.t 42, .k (.d (.int .u64 255))], none, []⟩, ⟨some 44, .chk, [.t 39],
  none, []⟩, ⟨some 45, .fa 2, [.t 44], none, []⟩, ⟨none, .store 1, [.t 45, .t 43], none, []⟩] [7]) (.seq (.region false [⟨some 46, .mv, [.t 7], none, []⟩, ⟨some 47, .call 61 false,
  [.t 46, .k (.d (.int .i64 4))], none, []⟩] [7]) (.seq (.region true [⟨some 48, .mv, [.t 7], none, []⟩, ⟨some 49, .chk, [.t 48], none, [0]⟩, ⟨some 50, .fa 0, [.t 49], none, [0,
  1]⟩, ⟨some 51, .load 1 false, [.t 50], none, [0, 1, 2]⟩, ⟨some 52, .mv, [.t 7], none, []⟩, ⟨some 53, .chk, [.t 52], none, [4]⟩, ⟨some 54, .fa 1, [.t 53], none, [4, 5]⟩, ⟨some 55,
  .load 1 false, [.t 54], none, [4, 5, 6]⟩, ⟨some 56, .bin .xor, [.t 51, .t 55], none, [0, 1, 2, 3, 4, 5, 6, 7]⟩, ⟨some 57, .mv, [.t 7], none, []⟩, ⟨some 58, .chk, [.t 57], none,
  [9]⟩, ⟨some 59, .fa 2, [.t 58], none, [9, 10]⟩, ⟨some 60, .load 1 false, [.t 59], none, [9, 10, 11]⟩, ⟨some 61, .bin .xor, [.t 56, .t 60], none, [0, 1, 2, 3, 4, 5, 6, 7, 8, 9,
  10, 11, 12]⟩, ⟨some 62, .mv, [.t 7], none, []⟩, ⟨some 63, .chk, [.t 62], none, [14]⟩, ⟨some 64, .fa 3, [.t 63], none, [14, 15]⟩, ⟨some 65, .load 1 false, [.t 64], none, [14, 15,
  16]⟩, ⟨some 66, .bin .xor, [.t 61, .t 65], none, [0, 1, 2, 3, 4, 5, 6, 7, 8, 9, 10, 11, 12, 13, 14, 15, 16, 17]⟩, ⟨some 6, .mv, [.t 66], none, [0, 1, 2, 3, 4, 5, 6, 7, 8, 9, 10,
  11, 12, 13, 14, 15, 16, 17, 18]⟩] [6]) .ret)))))))
def digestSumRr : List RR := [.t 6]
theorem digestSumC : compFn Tryd.prog 46 digestSumH = some (digestSumRc, digestSumRr, 67) := by kernel_rfl
theorem digestSumOK (a0 : BitVec 64) (a1 : BitVec 64) (a2 : List (BitVec 8)) (res : BitVec 64) (h : digestSum a0 a1 a2 = some res) : CallOK Tryd.prog 46 [.d (eU64 a0), .d (eU64 a1), .d ((eL 1 eU8) a2)] [] (.d (eU64 res)) [] := by
  unfold digestSum at h
  refine callOK digestSumC fm rfl ?_
  simp only [initE, initM, nbor, List.map_cons, List.map_nil, Nat.reduceAdd]
  unfold digestSumRc
  refine rwp_seq fun K1 hK1 => ?_
  refine rwp_region fun K2 hK2 => ?_
  refine st0 128 rfl (ok (mv (.d (eU64 (0#64))))) ?_
  refine hK2 _ _ ?_
  simp only [n0, n1, n2, n3, n4, n5, n6, n7, n8, n9, n10, n11, n12, n13, n14, n15, n16, n17, n18, n19, reduceIte]
  refine hK1 _ _ _ ?_
  refine rwp_seq fun K3 hK3 => ?_
  refine rwp_region fun K4 hK4 => ?_
  refine st0 192 rfl (ok (mv (.d (eU64 a0)))) ?_
  refine st0 256 rfl (ok (xor64 _ (8317987319222330741#64))) ?_
  refine st0 320 rfl (ok (mv (.d (eU64 a1)))) ?_
  refine st0 384 rfl (ok (xor64 _ (7237128888997146477#64))) ?_
  refine st0 448 rfl (ok (mv (.d (eU64 a0)))) ?_
  refine st0 512 rfl (ok (xor64 _ (7816392313619706465#64))) ?_
  refine st0 576 rfl (ok (mv (.d (eU64 a1)))) ?_
  refine st0 640 rfl (ok (xor64 _ (8387220255154660723#64))) ?_
  refine st0 704 rfl (ok (bld (v := .d (.agg [eU64 (a0 ^^^ (8317987319222330741#64)), eU64 (a1 ^^^ (7237128888997146477#64)), eU64 (a0 ^^^ (7816392313619706465#64)), eU64 (a1 ^^^ (8387220255154660723#64))])) rfl rfl)) ?_
  refine st1 768 rfl (mem' := [(704, .var .mine [.d (eU64 (a0 ^^^ (8317987319222330741#64))), .d (eU64 (a1 ^^^ (7237128888997146477#64))), .d (eU64 (a0 ^^^ (7816392313619706465#64))), .d (eU64 (a1 ^^^ (8387220255154660723#64)))])]) (ok (bx (ps := [.d (eU64 (a0 ^^^ (8317987319222330741#64))), .d (eU64 (a1 ^^^ (7237128888997146477#64))), .d (eU64 (a0 ^^^ (7816392313619706465#64))), .d (eU64 (a1 ^^^ (8387220255154660723#64)))]) rfl rfl)) rfl ?_
  refine st0 832 rfl (ok (mv (.ptr 704 0))) ?_
  refine hK4 _ _ ?_
  simp only [n0, n1, n2, n3, n4, n5, n6, n7, n8, n9, n10, n11, n12, n13, n14, n15, n16, n17, n18, n19, reduceIte]
  refine hK3 _ _ _ ?_
  refine rwp_seq fun K5 hK5 => ?_
  refine rwp_region fun K6 hK6 => ?_
  refine st0 896 rfl (ok (mv (.d ((eL 1 eU8) a2)))) ?_
  refine st0 960 rfl (ok (lenL _ _)) ?_
  refine st0 1024 rfl (ok (ofI64 _ (a2.length : Int))) ?_
  refine st0 1088 rfl (ok (shlL64 _ 56 rfl)) ?_
  refine st0 1152 rfl (ok (mv (.d (eU64 ((BitVec.ofInt 64 (a2.length : Int)) <<< 56))))) ?_
  refine hK6 _ _ ?_
  simp only [n0, n1, n2, n3, n4, n5, n6, n7, n8, n9, n10, n11, n12, n13, n14, n15, n16, n17, n18, n19, reduceIte]
  refine hK5 _ _ _ ?_
  refine rwp_join ([], []) 2240 (fun env mem => ∃ (v7 : List (BitVec 8)) (v8 : BitVec 64) (v9 : BitVec 64) (v10 : BitVec 64) (v11 : BitVec 64), digestSumJ1 a2 v7 v8 v9 v10 v11 = some res ∧ env = [(2, .d ((eL 1 eU8) v7)), (7, .ptr 704 0), (8, .d (eU64 ((BitVec.ofInt 64 (a2.length : Int)) <<< 56)))] ∧ mem = [(704, .var .mine [.d (eU64 v8), .d (eU64 v9), .d (eU64 v10), .d (eU64 v11)])]) (fun _ _ hI => ?_) (fun K12 hK12 => ?_)
  · obtain ⟨v7, v8, v9, v10, v11, h, rfl, rfl⟩ := hI
    unfold digestSumJ1 at h
    refine rwp_seq fun K13 hK13 => ?_
    refine rwp_region fun K14 hK14 => ?_
    refine st0 2304 rfl (ok (mv (.ptr 704 0))) ?_
    refine st0 2368 rfl (ok (mv (.d (eU64 ((BitVec.ofInt 64 (a2.length : Int)) <<< 56))))) ?_
    refine st0 2432 rfl (ok (mv (.d ((eL 1 eU8) v7)))) ?_
    obtain ⟨y15, h16, h⟩ := bind_inv h
    refine st0 2496 rfl (call_ok (v := .d (eU64 y15)) (u := []) (ar_d ((eL 1 eU8) v7) ar_nil) rfl (digestlittleOK v7 y15 h16) rfl) ?_
    refine st0 2560 rfl (ok (or64 _ _)) ?_
    obtain ⟨y17, h18, h⟩ := bind_inv h
    refine st1 2624 rfl (mem' := [(704, .var .mine [.d (eU64 y17.v0), .d (eU64 y17.v1), .d (eU64 y17.v2), .d (eU64 y17.v3)])]) (call_ok (v := .tup []) (u := [(704, .var .mine [.d (eU64 y17.v0), .d (eU64 y17.v1), .d (eU64 y17.v2), .d (eU64 y17.v3)])]) (ar_p rfl rfl (ds_d _ (ds_d _ (ds_d _ (ds_d _ ds_nil)))) (ar_d (eU64 (((BitVec.ofInt 64 (a2.length : Int)) <<< 56) ||| y15)) ar_nil)) rfl (digeststatewordOK (TDigeststate.mk v8 v9 v10 v11) (((BitVec.ofInt 64 (a2.length : Int)) <<< 56) ||| y15) y17 h18) rfl) rfl ?_
    refine hK14 _ _ ?_
    simp only [n0, n1, n2, n3, n4, n5, n6, n7, n8, n9, n10, n11, n12, n13, n14, n15, n16, n17, n18, n19, reduceIte]
    refine hK13 _ _ _ ?_
    refine rwp_seq fun K19 hK19 => ?_
    refine rwp_region fun K20 hK20 => ?_
    refine st0 2688 rfl (ok (mv (.ptr 704 0))) ?_
    refine st0 2752 rfl (ok (chk_ptr _ _)) ?_
    refine st0 2816 rfl (ok (fa_k 2 rfl)) ?_
    refine st0 2880 rfl (ok (ld_v (v := .d (eU64 y17.v2)) rfl rfl rfl)) ?_
    refine st0 2944 rfl (ok (xor64 _ (255#64))) ?_
    refine st0 3008 rfl (ok (chk_ptr _ _)) ?_
    refine st0 3072 rfl (ok (fa_k 2 rfl)) ?_
    refine stn 3136 rfl (mem' := [(704, .var .mine [.d (eU64 y17.v0), .d (eU64 y17.v1), .d (eU64 (y17.v2 ^^^ (255#64))), .d (eU64 y17.v3)])]) (ok (sto_v (ps' := [.d (eU64 y17.v0), .d (eU64 y17.v1), .d (eU64 (y17.v2 ^^^ (255#64))), .d (eU64 y17.v3)]) rfl rfl rfl rfl)) rfl ?_
    refine hK20 _ _ ?_
    simp only [n0, n1, n2, n3, n4, n5, n6, n7, n8, n9, n10, n11, n12, n13, n14, n15, n16, n17, n18, n19, reduceIte]
    refine hK19 _ _ _ ?_
    refine rwp_seq fun K21 hK21 => ?_
    refine rwp_region fun K22 hK22 => ?_
    refine st0 3200 rfl (ok (mv (.ptr 704 0))) ?_
    obtain ⟨y23, h24, h⟩ := bind_inv h
    refine st1 3264 rfl (mem' := [(704, .var .mine [.d (eU64 y23.v0), .d (eU64 y23.v1), .d (eU64 y23.v2), .d (eU64 y23.v3)])]) (call_ok (v := .tup []) (u := [(704, .var .mine [.d (eU64 y23.v0), .d (eU64 y23.v1), .d (eU64 y23.v2), .d (eU64 y23.v3)])]) (ar_p rfl rfl (ds_d _ (ds_d _ (ds_d _ (ds_d _ ds_nil)))) (ar_d (eI (4 : Int)) ar_nil)) rfl (digeststateroundOK (TDigeststate.mk y17.v0 y17.v1 (y17.v2 ^^^ (255#64)) y17.v3) (4 : Int) y23 h24) rfl) rfl ?_
    refine hK22 _ _ ?_
    simp only [n0, n1, n2, n3, n4, n5, n6, n7, n8, n9, n10, n11, n12, n13, n14, n15, n16, n17, n18, n19, reduceIte]
    refine hK21 _ _ _ ?_
    refine rwp_seq fun K25 hK25 => ?_
    refine rwp_draw fun K26 hK26 => ?_
    refine dr0 3328 rfl (ok (mv (.ptr 704 0))) (by kernel_rfl) ?_
    refine dr0 3392 rfl (ok (chk_ptr _ _)) (by kernel_rfl) ?_
    refine dr0 3456 rfl (ok (fa_k 0 rfl)) (by kernel_rfl) ?_
    refine dr0 3520 rfl (ok (ld_v (v := .d (eU64 y23.v0)) rfl rfl rfl)) (by kernel_rfl) ?_
    refine dr0 3584 rfl (ok (mv (.ptr 704 0))) (by kernel_rfl) ?_
    refine dr0 3648 rfl (ok (chk_ptr _ _)) (by kernel_rfl) ?_
    refine dr0 3712 rfl (ok (fa_k 1 rfl)) (by kernel_rfl) ?_
    refine dr0 3776 rfl (ok (ld_v (v := .d (eU64 y23.v1)) rfl rfl rfl)) (by kernel_rfl) ?_
    refine dr0 3840 rfl (ok (xor64 _ _)) (by kernel_rfl) ?_
    refine dr0 3904 rfl (ok (mv (.ptr 704 0))) (by kernel_rfl) ?_
    refine dr0 3968 rfl (ok (chk_ptr _ _)) (by kernel_rfl) ?_
    refine dr0 4032 rfl (ok (fa_k 2 rfl)) (by kernel_rfl) ?_
    refine dr0 4096 rfl (ok (ld_v (v := .d (eU64 y23.v2)) rfl rfl rfl)) (by kernel_rfl) ?_
    refine dr0 4160 rfl (ok (xor64 _ _)) (by kernel_rfl) ?_
    refine dr0 4224 rfl (ok (mv (.ptr 704 0))) (by kernel_rfl) ?_
    refine dr0 4288 rfl (ok (chk_ptr _ _)) (by kernel_rfl) ?_
    refine dr0 4352 rfl (ok (fa_k 3 rfl)) (by kernel_rfl) ?_
    refine dr0 4416 rfl (ok (ld_v (v := .d (eU64 y23.v3)) rfl rfl rfl)) (by kernel_rfl) ?_
    refine dr0 4480 rfl (ok (xor64 _ _)) (by kernel_rfl) ?_
    refine dr0 4544 rfl (ok (mv (.d (eU64 (((y23.v0 ^^^ y23.v1) ^^^ y23.v2) ^^^ y23.v3))))) (by kernel_rfl) ?_
    refine hK26 _ _ ?_
    simp only [n0, n1, n2, n3, n4, n5, n6, n7, n8, n9, n10, n11, n12, n13, n14, n15, n16, n17, n18, n19, reduceIte]
    refine hK25 _ _ _ ?_
    refine rwp_ret ?_
    obtain rfl := Option.some.inj h
    try simp only [thenK, blockK, reduceIte]
    exact Or.inl (end_ok trivial (rs_t (v := .d (eU64 (((y23.v0 ^^^ y23.v1) ^^^ y23.v2) ^^^ y23.v3))) rfl rs_nil) (en_d (to_d _) en_nil) ou_nil (by first | exact eok rfl rfl rfl rfl trivial | (refine eok ?_ ?_ ?_ ?_ ?_ <;> first | rfl | exact trivial | simp [retM, Mem.get, PV.renL, PV.ren, Blk.ren, comps, rhoR, rhoM, appN, PV.refsL, PV.refs, keys, nodupB, Blk.refs, allIn, Blk.bor])))
  · refine rwp_block fun K27 hK27 => ?_
    refine rwp_loop ([], []) 1984 (fun k env mem => ∃ (v28 : List (BitVec 8)) (v29 : BitVec 64) (v30 : BitVec 64) (v31 : BitVec 64) (v32 : BitVec 64), digestSumL2 a2 k v28 v29 v30 v31 v32 = some res ∧ env = [(2, .d ((eL 1 eU8) v28)), (7, .ptr 704 0), (8, .d (eU64 ((BitVec.ofInt 64 (a2.length : Int)) <<< 56)))] ∧ mem = [(704, .var .mine [.d (eU64 v29), .d (eU64 v30), .d (eU64 v31), .d (eU64 v32)])]) FUEL ⟨_, _, Settled.refl, _, _, ⟨_, _, _, _, _, h, rfl, rfl⟩, ⟨rfl, ⟨⟨rfl, rfl⟩, ⟨⟨rfl, rfl⟩, ⟨⟨rfl, rfl⟩, trivial⟩⟩⟩, ⟨⟨rfl, rfl⟩, trivial⟩⟩, rfl⟩ (fun k2 env1 mem1 hI K33 hK33 => ?_)
    obtain ⟨v28, v29, v30, v31, v32, h, rfl, rfl⟩ := hI
    cases k2 with
    | zero => simp [digestSumL2] at h
    | succ k2 =>
      rw [digestSumL2] at h
      refine rwp_seq fun K34 hK34 => ?_
      refine rwp_seq fun K35 hK35 => ?_
      refine rwp_region fun K36 hK36 => ?_
      refine st0 2048 rfl (ok (mv (.d ((eL 1 eU8) v28)))) ?_
      refine st0 2112 rfl (ok (lenL _ _)) ?_
      refine st0 2176 rfl (ok (geqI _ (8 : Int))) ?_
      refine hK36 _ _ ?_
      simp only [n0, n1, n2, n3, n4, n5, n6, n7, n8, n9, n10, n11, n12, n13, n14, n15, n16, n17, n18, n19, reduceIte]
      refine hK35 _ _ _ ?_
      rcases Bool.eq_false_or_eq_true ((decide ((8 : Int) ≤ (v28.length : Int)))) with h37 | h37
      · replace h := ite_t h h37
        refine rwp_t (isT h37) ?_
        refine rwp_skip ?_
        refine hK34 _ _ _ ?_
        refine rwp_block fun K38 hK38 => ?_
        refine rwp_seq fun K39 hK39 => ?_
        refine rwp_region fun K40 hK40 => ?_
        refine st0 2240 rfl (ok (mv (.ptr 704 0))) ?_
        refine st0 2304 rfl (ok (mv (.d ((eL 1 eU8) v28)))) ?_
        obtain ⟨h41, h⟩ := asq_inv h
        refine st0 2368 rfl (ok (slL_h (xs := v28) (e := eU8) h41)) ?_
        obtain ⟨y42, h43, h⟩ := bind_inv h
        refine st0 2432 rfl (call_ok (v := .d (eU64 y42)) (u := []) (ar_d ((eL 1 eU8) (dropTake 0 (8 : Int).toNat v28)) ar_nil) rfl (digestlittleOK (dropTake 0 (8 : Int).toNat v28) y42 h43) rfl) ?_
        obtain ⟨y44, h45, h⟩ := bind_inv h
        refine st1 2496 rfl (mem' := [(704, .var .mine [.d (eU64 y44.v0), .d (eU64 y44.v1), .d (eU64 y44.v2), .d (eU64 y44.v3)])]) (call_ok (v := .tup []) (u := [(704, .var .mine [.d (eU64 y44.v0), .d (eU64 y44.v1), .d (eU64 y44.v2), .d (eU64 y44.v3)])]) (ar_p rfl rfl (ds_d _ (ds_d _ (ds_d _ (ds_d _ ds_nil)))) (ar_d (eU64 y42) ar_nil)) rfl (digeststatewordOK (TDigeststate.mk v29 v30 v31 v32) y42 y44 h45) rfl) rfl ?_
        refine hK40 _ _ ?_
        simp only [n0, n1, n2, n3, n4, n5, n6, n7, n8, n9, n10, n11, n12, n13, n14, n15, n16, n17, n18, n19, reduceIte]
        refine hK39 _ _ _ ?_
        refine rwp_region fun K46 hK46 => ?_
        refine st0 2560 rfl (ok (mv (.d ((eL 1 eU8) v28)))) ?_
        obtain ⟨h47, h⟩ := asq_inv h
        refine st0 2624 rfl (ok (slL_l (xs := v28) (e := eU8) h47)) ?_
        refine st0 2688 rfl (ok (mv (.d ((eL 1 eU8) (dropTake (8 : Int).toNat v28.length v28))))) ?_
        refine hK46 _ _ ?_
        simp only [n0, n1, n2, n3, n4, n5, n6, n7, n8, n9, n10, n11, n12, n13, n14, n15, n16, n17, n18, n19, reduceIte]
        refine hK38 _ _ _ ?_
        exact hK33.out _ _ _ k2 (Nat.lt_succ_self k2) ⟨_, _, Settled.refl, _, _, ⟨_, _, _, _, _, h, rfl, rfl⟩, ⟨rfl, ⟨⟨rfl, rfl⟩, ⟨⟨rfl, rfl⟩, ⟨⟨rfl, rfl⟩, trivial⟩⟩⟩, ⟨⟨rfl, rfl⟩, trivial⟩⟩, rfl⟩
      · replace h := ite_f h h37
        refine rwp_f (isF h37) ?_
        refine rwp_exit ?_
        refine hK27 _ _ _ ?_
        exact hK12 _ _ _ ⟨_, _, Settled.refl, _, _, ⟨_, _, _, _, _, h, rfl, rfl⟩, ⟨rfl, ⟨⟨rfl, rfl⟩, ⟨⟨rfl, rfl⟩, ⟨⟨rfl, rfl⟩, trivial⟩⟩⟩, ⟨⟨rfl, rfl⟩, trivial⟩⟩, rfl⟩

/-- passkey/digest.Mac -/
def digestMacH : Hints := ⟨[(0, [0, 1, 2]), (1, [6])], []⟩
def digestMacRc : RCode :=
  .seq (.region false [⟨some 6, .mv, [.k (.d (.int .u64 0))], none, []⟩] [0, 1, 2]) (.seq (.region false [⟨some 7, .mv, [.t 0], none, []⟩, ⟨some 8, .mv, [.t 1], none, []⟩, ⟨some 9,
  .cvt .u64, [.t 8], none, []⟩, ⟨some 10, .bin .add, [.k (.d (.int .u64 1)), .t 9], none, []⟩, ⟨some 11, .mv, [.t 2], none, []⟩, ⟨some 12, .call 46 false, [.t 7, .t 10, .t 11],
  none, []⟩, ⟨some 6, .mv, [.t 12], none, []⟩] [6]) .ret)
def digestMacRr : List RR := [.t 6]
theorem digestMacC : compFn Tryd.prog 35 digestMacH = some (digestMacRc, digestMacRr, 13) := by kernel_rfl
theorem digestMacOK (a0 : BitVec 64) (a1 : Int) (a2 : List (BitVec 8)) (res : BitVec 64) (h : digestMac a0 a1 a2 = some res) : CallOK Tryd.prog 35 [.d (eU64 a0), .d (eI a1), .d ((eL 1 eU8) a2)] [] (.d (eU64 res)) [] := by
  unfold digestMac at h
  refine callOK digestMacC fm rfl ?_
  simp only [initE, initM, nbor, List.map_cons, List.map_nil, Nat.reduceAdd]
  unfold digestMacRc
  refine rwp_seq fun K1 hK1 => ?_
  refine rwp_region fun K2 hK2 => ?_
  refine st0 128 rfl (ok (mv (.d (eU64 (0#64))))) ?_
  refine hK2 _ _ ?_
  simp only [n0, n1, n2, n3, n4, n5, n6, n7, n8, n9, n10, n11, n12, n13, n14, n15, n16, n17, n18, n19, reduceIte]
  refine hK1 _ _ _ ?_
  refine rwp_seq fun K3 hK3 => ?_
  refine rwp_region fun K4 hK4 => ?_
  refine st0 192 rfl (ok (mv (.d (eU64 a0)))) ?_
  refine st0 256 rfl (ok (mv (.d (eI a1)))) ?_
  refine st0 320 rfl (ok (ofI64 _ a1)) ?_
  refine st0 384 rfl (ok (add64 (1#64) _)) ?_
  refine st0 448 rfl (ok (mv (.d ((eL 1 eU8) a2)))) ?_
  obtain ⟨y5, h6, h⟩ := bind_inv h
  refine st0 512 rfl (call_ok (v := .d (eU64 y5)) (u := []) (ar_d (eU64 a0) (ar_d (eU64 ((1#64) + (BitVec.ofInt 64 a1))) (ar_d ((eL 1 eU8) a2) ar_nil))) rfl (digestSumOK a0 ((1#64) + (BitVec.ofInt 64 a1)) a2 y5 h6) rfl) ?_
  refine st0 576 rfl (ok (mv (.d (eU64 y5)))) ?_
  refine hK4 _ _ ?_
  simp only [n0, n1, n2, n3, n4, n5, n6, n7, n8, n9, n10, n11, n12, n13, n14, n15, n16, n17, n18, n19, reduceIte]
  refine hK3 _ _ _ ?_
  refine rwp_ret ?_
  obtain rfl := Option.some.inj h
  try simp only [thenK, blockK, reduceIte]
  exact Or.inl (end_ok trivial (rs_t (v := .d (eU64 y5)) rfl rs_nil) (en_d (to_d _) en_nil) ou_nil (by first | exact eok rfl rfl rfl rfl trivial | (refine eok ?_ ?_ ?_ ?_ ?_ <;> first | rfl | exact trivial | simp [retM, Mem.get, PV.renL, PV.ren, Blk.ren, comps, rhoR, rhoM, appN, PV.refsL, PV.refs, keys, nodupB, Blk.refs, allIn, Blk.bor])))

/-- passkey/seal.Stream -/
def sealStreamH : Hints := ⟨[(0, [0, 1, 2]), (1, [0, 1, 2]), (2, [0, 1, 2, 7]), (3, [0, 1, 2, 7, 8]), (4, [0, 1, 2, 7, 8, 15]), (6, [0, 1, 2, 7, 8]), (5, [0, 1, 2, 7, 8]), (7, [6])], []⟩
def sealStreamRc : RCode :=
  .seq (.region false [⟨some 6, .mv, [.k (.nil 1)], none, []⟩] [0, 1, 2]) (.seq (.region false [⟨some 9, .mv, [.t 2], none, []⟩, ⟨some 10, .mn, [.t 9, .k (.d (.int .i64 1024))],
  none, []⟩, ⟨some 11, .mx, [.k (.d (.int .i64 0)), .t 10], none, []⟩, ⟨some 2, .mv, [.t 11], none, []⟩] [0, 1, 2]) (.seq (.region false [⟨some 7, .mv, [.k (.nil 1)], none, []⟩]
  [0, 1, 2, 7]) (.seq (.seq (.region false [⟨some 8, .mv, [.k (.d (.int .u64 0))], none, []⟩] [0, 1, 2, 7, 8]) (.block 0 (.loop [] (.seq (.seq (.region false [⟨some 12, .mv, [.t
  7], none, []⟩, ⟨some 13, .len, [.t 12], none, []⟩, ⟨some 14, .mv, [.t 2], none, []⟩, ⟨some 15, .bin .lss, [.t 13, .t 14], none, []⟩] [0, 1, 2, 7, 8, 15]) (.cond (.t 15) .skip
  (.exit 0))) (.seq (.block 1 (.region false [⟨some 18, .mv, [.t 7], none, []⟩, ⟨some 19, .mv, [.t 0], none, []⟩, ⟨some 20, .mv, [.t 1], none, []⟩, ⟨some 21, .mv, [.t 8], none,
  []⟩, ⟨some 22, .bslice 1 false 2 [.d (.int .u64 0)] [0, 1], [.t 20, .t 21], none, []⟩, ⟨some 23, .call 36 true, [.t 22], none, []⟩, ⟨some 24, .call 35 false, [.t 19, .k (.d (.int
  .i64 5)), .t 23], none, []⟩, ⟨some 25, .bslice 1 false 1 [.d (.int .u64 0)] [0], [.t 24], none, []⟩, ⟨some 26, .call 36 true, [.t 25], none, []⟩, ⟨some 27, .app 1
  140737488355328, [.t 18, .t 26], none, []⟩, ⟨some 7, .mv, [.t 27], none, []⟩] [0, 1, 2, 7, 8])) (.region false [⟨some 16, .mv, [.t 8], none, []⟩, ⟨some 17, .bin .add, [.t 16, .k
  (.d (.int .u64 1))], none, []⟩, ⟨some 8, .mv, [.t 17], none, []⟩] [0, 1, 2, 7, 8])))))) (.seq (.region false [⟨some 28, .mv, [.t 7], none, []⟩, ⟨some 29, .mv, [.t 2], none, []⟩,
  ⟨some 30, .slice 1 false true false, [.t 28, .t 29], none, []⟩, ⟨some 6, .mv, [.t 30], none, []⟩] [6]) .ret))))
def sealStreamRr : List RR := [.t 6]
theorem sealStreamC : compFn Tryd.prog 57 sealStreamH = some (sealStreamRc, sealStreamRr, 31) := by kernel_rfl
theorem sealStreamOwnOK (a0 : BitVec 64) (a1 : BitVec 64) (a2 : Int) (res : List (BitVec 8)) (h : sealStreamOwn a0 a1 a2 = some res) : CallOK Tryd.prog 57 [.d (eU64 a0), .d (eU64 a1), .d (eI a2)] [] (.ref 0 res.length 0 res.length) [(0, .row true 1 (res.map eU8))] := by
  unfold sealStreamOwn at h
  refine callOK sealStreamC fm rfl ?_
  simp only [initE, initM, nbor, List.map_cons, List.map_nil, Nat.reduceAdd]
  unfold sealStreamRc
  refine rwp_seq fun K1 hK1 => ?_
  refine rwp_region fun K2 hK2 => ?_
  refine st0 128 rfl (ok (mv (.nil 1))) ?_
  refine hK2 _ _ ?_
  simp only [n0, n1, n2, n3, n4, n5, n6, n7, n8, n9, n10, n11, n12, n13, n14, n15, n16, n17, n18, n19, reduceIte]
  refine hK1 _ _ _ ?_
  refine rwp_seq fun K3 hK3 => ?_
  refine rwp_region fun K4 hK4 => ?_
  refine st0 192 rfl (ok (mv (.d (eI a2)))) ?_
  refine st0 256 rfl (ok (minI _ (1024 : Int))) ?_
  obtain ⟨v5, h6, h⟩ := lett_inv h
  refine st0e 320 rfl (ok (maxI (0 : Int) _)) (congrArg (fun z => PV.d (eI z)) h6) ?_
  refine st0 384 rfl (ok (mv (.d (eI v5)))) ?_
  refine hK4 _ _ ?_
  simp only [n0, n1, n2, n3, n4, n5, n6, n7, n8, n9, n10, n11, n12, n13, n14, n15, n16, n17, n18, n19, reduceIte]
  refine hK3 _ _ _ ?_
  refine rwp_seq fun K7 hK7 => ?_
  refine rwp_region fun K8 hK8 => ?_
  refine st0 448 rfl (ok (mv (.nil 1))) ?_
  refine hK8 _ _ ?_
  simp only [n0, n1, n2, n3, n4, n5, n6, n7, n8, n9, n10, n11, n12, n13, n14, n15, n16, n17, n18, n19, reduceIte]
  refine hK7 _ _ _ ?_
  refine rwp_join ([], []) 2176 (fun env mem => ∃ (v9 : List (BitVec 8)), sealStreamOwnJ1 v5 v9 = some res ∧ env = [(2, .d (eI v5)), (7, .ref 1793 v9.length 0 v9.length)] ∧ mem = [(1793, .row true 1 (v9.map eU8))]) (fun _ _ hI => ?_) (fun K10 hK10 => ?_)
  · obtain ⟨v9, h, rfl, rfl⟩ := hI
    unfold sealStreamOwnJ1 at h
    refine rwp_seq fun K11 hK11 => ?_
    refine rwp_region fun K12 hK12 => ?_
    refine st0 2240 rfl (ok (mv (.ref 1793 v9.length 0 v9.length))) ?_
    refine st0 2304 rfl (ok (mv (.d (eI v5)))) ?_
    obtain ⟨h13, h⟩ := asq_inv h
    refine st0 2368 rfl (ok (slR_h (ys := v9.map eU8) rfl (by simp) h13)) ?_
    refine st0 2432 rfl (ok (mv (.ref 1793 v9.length (0 + 0) (v5.toNat - 0)))) ?_
    refine hK12 _ _ ?_
    simp only [n0, n1, n2, n3, n4, n5, n6, n7, n8, n9, n10, n11, n12, n13, n14, n15, n16, n17, n18, n19, reduceIte]
    refine hK11 _ _ _ ?_
    refine rwp_ret ?_
    obtain ⟨h14, h⟩ := asq_inv h
    obtain rfl := Option.some.inj h
    try simp only [thenK, blockK, reduceIte]
    refine Or.inr ⟨_, _, 2624, trunc_t (e := eU8) (xs := v9) 6 1793 2560 rfl rfl rfl rfl h14 Settled.refl, rfl, ?_⟩
    exact end_ok trivial (rs_t (v := .ref 2560 ((v9.take (v5.toNat - 0))).length 0 ((v9.take (v5.toNat - 0))).length) rfl rs_nil) (en_ref en_nil) ou_nil (by first | exact eok rfl rfl rfl rfl (And.intro (And.intro rfl rfl) trivial) | (refine eok ?_ ?_ ?_ ?_ ?_ <;> first | rfl | exact (And.intro (And.intro rfl rfl) trivial) | simp [retM, Mem.get, PV.renL, PV.ren, Blk.ren, comps, rhoR, rhoM, appN, PV.refsL, PV.refs, keys, nodupB, Blk.refs, allIn, Blk.bor]))
  · refine rwp_seq fun K15 hK15 => ?_
    refine rwp_region fun K16 hK16 => ?_
    refine st0 512 rfl (ok (mv (.d (eU64 (0#64))))) ?_
    refine hK16 _ _ ?_
    simp only [n0, n1, n2, n3, n4, n5, n6, n7, n8, n9, n10, n11, n12, n13, n14, n15, n16, n17, n18, n19, reduceIte]
    refine hK15 _ _ _ ?_
    refine rwp_block fun K17 hK17 => ?_
    refine rwp_loop ([(7, 1793)], []) 1856 (fun k env mem => ∃ (v18 : List (BitVec 8)) (v19 : BitVec 64), sealStreamOwnL2 a0 a1 v5 k v18 v19 = some res ∧ env = [(0, .d (eU64 a0)), (1, .d (eU64 a1)), (2, .d (eI v5)), (7, .ref 1793 v18.length 0 v18.length), (8, .d (eU64 v19))] ∧ mem = [(1793, .row true 1 (v18.map eU8))]) FUEL ⟨_, _, Settled.refl, _, _, ⟨_, _, h, rfl, rfl⟩, ⟨rfl, ⟨⟨rfl, rfl⟩, ⟨⟨rfl, rfl⟩, ⟨⟨rfl, rfl⟩, ⟨⟨rfl, rfl⟩, ⟨⟨rfl, rfl⟩, trivial⟩⟩⟩⟩⟩, ⟨⟨rfl, rfl⟩, trivial⟩⟩, rfl⟩ (fun k2 env1 mem1 hI K20 hK20 => ?_)
    obtain ⟨v18, v19, h, rfl, rfl⟩ := hI
    cases k2 with
    | zero => simp [sealStreamOwnL2] at h
    | succ k2 =>
      rw [sealStreamOwnL2] at h
      refine rwp_seq fun K21 hK21 => ?_
      refine rwp_seq fun K22 hK22 => ?_
      refine rwp_region fun K23 hK23 => ?_
      refine st0 1920 rfl (ok (mv (.ref 1793 v18.length 0 v18.length))) ?_
      refine st0 1984 rfl (ok (lenR _ _ _ _)) ?_
      refine st0 2048 rfl (ok (mv (.d (eI v5)))) ?_
      refine st0 2112 rfl (ok (lssI _ _)) ?_
      refine hK23 _ _ ?_
      simp only [n0, n1, n2, n3, n4, n5, n6, n7, n8, n9, n10, n11, n12, n13, n14, n15, n16, n17, n18, n19, reduceIte]
      refine hK22 _ _ _ ?_
      rcases Bool.eq_false_or_eq_true ((decide ((v18.length : Int) < v5))) with h24 | h24
      · replace h := ite_t h h24
        refine rwp_t (isT h24) ?_
        refine rwp_skip ?_
        refine hK21 _ _ _ ?_
        refine rwp_seq fun K25 hK25 => ?_
        refine rwp_block fun K26 hK26 => ?_
        refine rwp_region fun K27 hK27 => ?_
        refine st0 2176 rfl (ok (mv (.ref 1793 v18.length 0 v18.length))) ?_
        refine st0 2240 rfl (ok (mv (.d (eU64 a0)))) ?_
        refine st0 2304 rfl (ok (mv (.d (eU64 a1)))) ?_
        refine st0 2368 rfl (ok (mv (.d (eU64 v19)))) ?_
        refine st1 2432 rfl (mem' := [(2368, .row true 1 (([a1, v19] : List (BitVec 64)).map eU64)), (1793, .row true 1 (v18.map eU8))]) (ok (bsl (e := eU64) (ys := ([a1, v19] : List (BitVec 64))) rfl rfl rfl)) rfl ?_
        obtain ⟨y28, h29, h⟩ := bind_inv h
        refine st1 2496 rfl (mem' := [(2432, .row true 1 (y28.map eU8)), (2368, .row false 1 (([a1, v19] : List (BitVec 64)).map eU64)), (1793, .row true 1 (v18.map eU8))]) (call_ok (v := .ref 2432 y28.length 0 y28.length) (u := [(2432, .row true 1 (y28.map eU8)), (2368, .row false 1 (([a1, v19] : List (BitVec 64)).map eU64))]) (ar_to rfl (to_1 rfl (ds_r (ys := ([a1, v19] : List (BitVec 64))) rfl rfl rfl ds_nil)) ar_nil) rfl (digestWordsOK ([a1, v19] : List (BitVec 64)) y28 h29) rfl) rfl ?_
        obtain ⟨y30, h31, h⟩ := bind_inv h
        refine st0 2560 rfl (call_ok (v := .d (eU64 y30)) (u := []) (ar_d (eU64 a0) (ar_d (eI (5 : Int)) (ar_to rfl (to_1 rfl (ds_r (ys := y28) rfl rfl rfl ds_nil)) ar_nil))) rfl (digestMacOK a0 (5 : Int) y28 y30 h31) rfl) ?_
        refine st1 2624 rfl (mem' := [(2560, .row true 1 (([y30] : List (BitVec 64)).map eU64)), (2432, .row true 1 (y28.map eU8)), (2368, .row false 1 (([a1, v19] : List (BitVec 64)).map eU64)), (1793, .row true 1 (v18.map eU8))]) (ok (bsl (e := eU64) (ys := ([y30] : List (BitVec 64))) rfl rfl rfl)) rfl ?_
        obtain ⟨y32, h33, h⟩ := bind_inv h
        refine st1 2688 rfl (mem' := [(2624, .row true 1 (y32.map eU8)), (2560, .row false 1 (([y30] : List (BitVec 64)).map eU64)), (2432, .row true 1 (y28.map eU8)), (2368, .row false 1 (([a1, v19] : List (BitVec 64)).map eU64)), (1793, .row true 1 (v18.map eU8))]) (call_ok (v := .ref 2624 y32.length 0 y32.length) (u := [(2624, .row true 1 (y32.map eU8)), (2560, .row false 1 (([y30] : List (BitVec 64)).map eU64))]) (ar_to rfl (to_1 rfl (ds_r (ys := ([y30] : List (BitVec 64))) rfl rfl rfl ds_nil)) ar_nil) rfl (digestWordsOK ([y30] : List (BitVec 64)) y32 h33) rfl) rfl ?_
        obtain ⟨h34, h⟩ := asq_inv h
        refine st1 2752 rfl (mem' := [(1793, .row true 1 ((v18 ++ y32).map eU8)), (2624, .row true 1 (y32.map eU8)), (2560, .row false 1 (([y30] : List (BitVec 64)).map eU64)), (2432, .row true 1 (y28.map eU8)), (2368, .row false 1 (([a1, v19] : List (BitVec 64)).map eU64))]) (ok (appR (e := eU8) (xs := v18) (ys := y32) (contR (xs := y32) rfl rfl rfl) rfl rfl rfl h34)) rfl ?_
        refine st0 2816 rfl (ok (mv (.ref 1793 (((v18 ++ y32)).length) 0 (((v18 ++ y32)).length)))) ?_
        refine hK27 _ _ ?_
        simp only [n0, n1, n2, n3, n4, n5, n6, n7, n8, n9, n10, n11, n12, n13, n14, n15, n16, n17, n18, n19, reduceIte]
        refine hK26 _ _ _ ?_
        refine hK25 _ _ _ ?_
        refine rwp_region fun K35 hK35 => ?_
        refine st0 2880 rfl (ok (mv (.d (eU64 v19)))) ?_
        refine st0 2944 rfl (ok (add64 _ (1#64))) ?_
        refine st0 3008 rfl (ok (mv (.d (eU64 (v19 + (1#64)))))) ?_
        refine hK35 _ _ ?_
        simp only [n0, n1, n2, n3, n4, n5, n6, n7, n8, n9, n10, n11, n12, n13, n14, n15, n16, n17, n18, n19, reduceIte]
        exact hK20.out _ _ _ k2 (Nat.lt_succ_self k2) ⟨_, _, Settled.refl, _, _, ⟨_, _, h, rfl, rfl⟩, ⟨rfl, ⟨⟨rfl, rfl⟩, ⟨⟨rfl, rfl⟩, ⟨⟨rfl, rfl⟩, ⟨⟨rfl, rfl⟩, ⟨⟨rfl, rfl⟩, trivial⟩⟩⟩⟩⟩, ⟨⟨rfl, rfl⟩, trivial⟩⟩, rfl⟩
      · replace h := ite_f h h24
        refine rwp_f (isF h24) ?_
        refine rwp_exit ?_
        refine hK17 _ _ _ ?_
        exact hK10 _ _ _ ⟨_, _, Settled.refl, _, _, ⟨_, h, rfl, rfl⟩, ⟨rfl, ⟨⟨rfl, rfl⟩, ⟨⟨rfl, rfl⟩, trivial⟩⟩, ⟨⟨rfl, rfl⟩, trivial⟩⟩, rfl⟩

/-- passkey/seal.mixed -/
def sealmixedH : Hints := ⟨[(0, [0, 1, 2]), (1, [2, 7]), (2, [2, 7, 15, 16]), (3, [2, 7, 15, 16, 17]), (4, [2, 7, 8, 15, 16]), (5, [2, 7, 15, 16]), (6, [2, 7, 15, 16]), (7, [6])], []⟩
def sealmixedRc : RCode :=
  .seq (.region false [⟨some 6, .mv, [.k (.nil 1)], none, []⟩] [0, 1, 2]) (.seq (.region false [⟨some 9, .mv, [.t 0], none, []⟩, ⟨some 10, .mv, [.t 1], none, []⟩, ⟨some 11, .mv, [.t
  2], none, []⟩, ⟨some 12, .len, [.t 11], none, []⟩, ⟨some 13, .call 57 true, [.t 9, .t 10, .t 12], none, []⟩, ⟨some 7, .mv, [.t 13], none, []⟩] [2, 7]) (.seq (.seq (.region false
  [⟨some 14, .mv, [.t 7], none, []⟩, ⟨some 15, .len, [.t 14], none, []⟩, ⟨some 16, .mv, [.k (.d (.int .i64 0))], none, []⟩] [2, 7, 15, 16]) (.block 0 (.loop [] (.seq (.region false
  [⟨some 17, .bin .lss, [.t 16, .t 15], none, []⟩] [2, 7, 15, 16, 17]) (.seq (.cond (.t 17) .skip (.exit 0)) (.seq (.block 1 (.seq (.region false [⟨some 18, .mv, [.t 16], none,
  []⟩, ⟨some 8, .mv, [.t 18], none, []⟩] [2, 7, 8, 15, 16]) (.region true [⟨some 19, .mv, [.t 7], none, []⟩, ⟨some 20, .mv, [.t 8], none, []⟩, ⟨some 21, .ia 1, [.t 19, .t 20],
  none, [0, 1]⟩, ⟨some 22, .load 1 false, [.t 21], none, [0, 1, 2]⟩, ⟨some 23, .mv, [.t 2], none, []⟩, ⟨some 24, .mv, [.t 8], none, []⟩, ⟨some 25, .ia 1, [.t 23, .t 24], none, [4,
  5]⟩, ⟨some 26, .load 1 false, [.t 25], none, [4, 5, 6]⟩, ⟨some 27, .bin .xor, [.t 22, .t 26], none, [0, 1, 2, 3, 4, 5, 6, 7]⟩, ⟨some 28, .ia 1, [.t 19, .t 20], none, [0, 1, 2, 3,
  4, 5, 6, 7, 8]⟩, ⟨none, .store 1, [.t 28, .t 27], none, [0, 1, 2, 3, 4, 5, 6, 7, 8, 9]⟩] [2, 7, 15, 16]))) (.region false [⟨some 29, .bin .add, [.t 16, .k (.d (.int .i64 1))],
  none, []⟩, ⟨some 16, .mv, [.t 29], none, []⟩] [2, 7, 15, 16]))))))) (.seq (.region false [⟨some 30, .mv, [.t 7], none, []⟩, ⟨some 6, .mv, [.t 30], none, []⟩] [6]) .ret)))
def sealmixedRr : List RR := [.t 6]
theorem sealmixedC : compFn Tryd.prog 41 sealmixedH = some (sealmixedRc, sealmixedRr, 31) := by kernel_rfl
theorem sealmixedOK (a0 : BitVec 64) (a1 : BitVec 64) (a2 : List (BitVec 8)) (res : List (BitVec 8)) (h : sealmixed a0 a1 a2 = some res) : CallOK Tryd.prog 41 [.d (eU64 a0), .d (eU64 a1), .d ((eL 1 eU8) a2)] [] (.ref 0 res.length 0 res.length) [(0, .row true 1 (res.map eU8))] := by
  unfold sealmixed at h
  refine callOK sealmixedC fm rfl ?_
  simp only [initE, initM, nbor, List.map_cons, List.map_nil, Nat.reduceAdd]
  unfold sealmixedRc
  refine rwp_seq fun K1 hK1 => ?_
  refine rwp_region fun K2 hK2 => ?_
  refine st0 128 rfl (ok (mv (.nil 1))) ?_
  refine hK2 _ _ ?_
  simp only [n0, n1, n2, n3, n4, n5, n6, n7, n8, n9, n10, n11, n12, n13, n14, n15, n16, n17, n18, n19, reduceIte]
  refine hK1 _ _ _ ?_
  refine rwp_seq fun K3 hK3 => ?_
  refine rwp_region fun K4 hK4 => ?_
  refine st0 192 rfl (ok (mv (.d (eU64 a0)))) ?_
  refine st0 256 rfl (ok (mv (.d (eU64 a1)))) ?_
  refine st0 320 rfl (ok (mv (.d ((eL 1 eU8) a2)))) ?_
  refine st0 384 rfl (ok (lenL _ _)) ?_
  obtain ⟨y5, h6, h⟩ := bind_inv h
  refine st1 448 rfl (mem' := [(384, .row true 1 (y5.map eU8))]) (call_ok (v := .ref 384 y5.length 0 y5.length) (u := [(384, .row true 1 (y5.map eU8))]) (ar_d (eU64 a0) (ar_d (eU64 a1) (ar_d (eI (a2.length : Int)) ar_nil))) rfl (sealStreamOwnOK a0 a1 (a2.length : Int) y5 h6) rfl) rfl ?_
  refine st0 512 rfl (ok (mv (.ref 384 y5.length 0 y5.length))) ?_
  refine hK4 _ _ ?_
  simp only [n0, n1, n2, n3, n4, n5, n6, n7, n8, n9, n10, n11, n12, n13, n14, n15, n16, n17, n18, n19, reduceIte]
  refine hK3 _ _ _ ?_
  refine rwp_join ([], []) 1984 (fun env mem => ∃ (v7 : List (BitVec 8)), sealmixedJ1 v7 = some res ∧ env = [(7, .ref 384 v7.length 0 v7.length)] ∧ mem = [(384, .row true 1 (v7.map eU8))]) (fun _ _ hI => ?_) (fun K8 hK8 => ?_)
  · obtain ⟨v7, h, rfl, rfl⟩ := hI
    unfold sealmixedJ1 at h
    refine rwp_seq fun K9 hK9 => ?_
    refine rwp_region fun K10 hK10 => ?_
    refine st0 2048 rfl (ok (mv (.ref 384 v7.length 0 v7.length))) ?_
    refine st0 2112 rfl (ok (mv (.ref 384 v7.length 0 v7.length))) ?_
    refine hK10 _ _ ?_
    simp only [n0, n1, n2, n3, n4, n5, n6, n7, n8, n9, n10, n11, n12, n13, n14, n15, n16, n17, n18, n19, reduceIte]
    refine hK9 _ _ _ ?_
    refine rwp_ret ?_
    obtain rfl := Option.some.inj h
    try simp only [thenK, blockK, reduceIte]
    exact Or.inl (end_ok trivial (rs_t (v := .ref 384 v7.length 0 v7.length) rfl rs_nil) (en_ref en_nil) ou_nil (by first | exact eok rfl rfl rfl rfl (And.intro (And.intro rfl rfl) trivial) | (refine eok ?_ ?_ ?_ ?_ ?_ <;> first | rfl | exact (And.intro (And.intro rfl rfl) trivial) | simp [retM, Mem.get, PV.renL, PV.ren, Blk.ren, comps, rhoR, rhoM, appN, PV.refsL, PV.refs, keys, nodupB, Blk.refs, allIn, Blk.bor])))
  · refine rwp_seq fun K11 hK11 => ?_
    refine rwp_region fun K12 hK12 => ?_
    refine st0 576 rfl (ok (mv (.ref 384 y5.length 0 y5.length))) ?_
    refine st0 640 rfl (ok (lenR _ _ _ _)) ?_
    refine st0 704 rfl (ok (mv (.d (eI (0 : Int))))) ?_
    refine hK12 _ _ ?_
    simp only [n0, n1, n2, n3, n4, n5, n6, n7, n8, n9, n10, n11, n12, n13, n14, n15, n16, n17, n18, n19, reduceIte]
    refine hK11 _ _ _ ?_
    refine rwp_block fun K13 hK13 => ?_
    refine rwp_loop ([], []) 1856 (fun k env mem => ∃ (v14 : List (BitVec 8)) (v15 : Int), sealmixedL2 a2 y5 k v14 v15 = some res ∧ env = [(2, .d ((eL 1 eU8) a2)), (7, .ref 384 v14.length 0 v14.length), (15, .d (eI (y5.length : Int))), (16, .d (eI v15))] ∧ mem = [(384, .row true 1 (v14.map eU8))]) FUEL ⟨_, _, Settled.refl, _, _, ⟨_, _, h, rfl, rfl⟩, ⟨rfl, ⟨⟨rfl, rfl⟩, ⟨⟨rfl, rfl⟩, ⟨⟨rfl, rfl⟩, ⟨⟨rfl, rfl⟩, trivial⟩⟩⟩⟩, ⟨⟨rfl, rfl⟩, trivial⟩⟩, rfl⟩ (fun k2 env1 mem1 hI K16 hK16 => ?_)
    obtain ⟨v14, v15, h, rfl, rfl⟩ := hI
    cases k2 with
    | zero => simp [sealmixedL2] at h
    | succ k2 =>
      rw [sealmixedL2] at h
      refine rwp_seq fun K17 hK17 => ?_
      refine rwp_region fun K18 hK18 => ?_
      refine st0 1920 rfl (ok (lssI _ _)) ?_
      refine hK18 _ _ ?_
      simp only [n0, n1, n2, n3, n4, n5, n6, n7, n8, n9, n10, n11, n12, n13, n14, n15, n16, n17, n18, n19, reduceIte]
      refine hK17 _ _ _ ?_
      refine rwp_seq fun K19 hK19 => ?_
      rcases Bool.eq_false_or_eq_true ((decide (v15 < (y5.length : Int)))) with h20 | h20
      · replace h := ite_t h h20
        refine rwp_t (isT h20) ?_
        refine rwp_skip ?_
        refine hK19 _ _ _ ?_
        refine rwp_seq fun K21 hK21 => ?_
        refine rwp_block fun K22 hK22 => ?_
        refine rwp_seq fun K23 hK23 => ?_
        refine rwp_region fun K24 hK24 => ?_
        refine st0 1984 rfl (ok (mv (.d (eI v15)))) ?_
        refine st0 2048 rfl (ok (mv (.d (eI v15)))) ?_
        refine hK24 _ _ ?_
        simp only [n0, n1, n2, n3, n4, n5, n6, n7, n8, n9, n10, n11, n12, n13, n14, n15, n16, n17, n18, n19, reduceIte]
        refine hK23 _ _ _ ?_
        refine rwp_draw fun K25 hK25 => ?_
        refine dr0 2112 rfl (ok (mv (.ref 384 v14.length 0 v14.length))) (by kernel_rfl) ?_
        refine dr0 2176 rfl (ok (mv (.d (eI v15)))) (by kernel_rfl) ?_
        obtain ⟨h26, h⟩ := asq_inv h
        refine dr0 2240 rfl (ok (iaR (xs := v14) (e := eU8) rfl rfl h26)) (by kernel_rfl) ?_
        refine dr0 2304 rfl (ok (ld_r (e := eU8) (xs := v14) 0#8 rfl rfl (by have := h26; simp at this ⊢; omega) rfl)) (by kernel_rfl) ?_
        refine dr0 2368 rfl (ok (mv (.d ((eL 1 eU8) a2)))) (by kernel_rfl) ?_
        refine dr0 2432 rfl (ok (mv (.d (eI v15)))) (by kernel_rfl) ?_
        obtain ⟨h27, h⟩ := asq_inv h
        refine dr0 2496 rfl (ok (iaL (e := eU8) (xs := a2) 0#8 h27)) (by kernel_rfl) ?_
        refine dr0 2560 rfl (ok (ld_i (v := eU8 (a2.getD v15.toNat 0#8)) rfl rfl)) (by kernel_rfl) ?_
        obtain ⟨v28, h29, h⟩ := lett_inv h
        refine dr0e 2624 rfl (ok (xor8 _ _)) (congrArg (fun z => PV.d (eU8 z)) h29) (by kernel_rfl) ?_
        obtain ⟨h30, h⟩ := asq_inv h
        refine dr0 2688 rfl (ok (iaR (xs := v14) (e := eU8) rfl rfl h30)) (by kernel_rfl) ?_
        refine drn 2752 rfl (mem' := [(384, .row true 1 ((v14.set (0 + v15.toNat) v28).map eU8))]) (ok (sto_r (e := eU8) (xs := v14) (y := v28) rfl rfl rfl)) rfl (by kernel_rfl) ?_
        refine hK25 _ _ ?_
        simp only [n0, n1, n2, n3, n4, n5, n6, n7, n8, n9, n10, n11, n12, n13, n14, n15, n16, n17, n18, n19, reduceIte]
        refine hK22 _ _ _ ?_
        refine hK21 _ _ _ ?_
        refine rwp_region fun K31 hK31 => ?_
        refine st0 2816 rfl (ok (addI _ (1 : Int))) ?_
        refine st0 2880 rfl (ok (mv (.d (eI (w64 (v15 + (1 : Int))))))) ?_
        refine hK31 _ _ ?_
        simp only [n0, n1, n2, n3, n4, n5, n6, n7, n8, n9, n10, n11, n12, n13, n14, n15, n16, n17, n18, n19, reduceIte]
        exact hK16.out _ _ _ k2 (Nat.lt_succ_self k2) ⟨_, _, Settled.refl, _, _, ⟨_, _, h, rfl, rfl⟩, (by refine ⟨rfl, ⟨⟨?_, rfl⟩, ⟨⟨?_, rfl⟩, ⟨⟨?_, rfl⟩, ⟨⟨?_, rfl⟩, trivial⟩⟩⟩⟩, ⟨⟨?_, rfl⟩, trivial⟩⟩ <;> first | rfl | (exact refEq rfl (by simp) rfl (by simp)) | simp [envE, Mem.get, liftE, liftV, rhoOf, rhoE, rhoM, appN, PV.refs, PV.refsL, Blk.refs, PV.ren, PV.renL, Blk.ren]), rfl⟩
      · replace h := ite_f h h20
        refine rwp_f (isF h20) ?_
        refine rwp_exit ?_
        refine hK13 _ _ _ ?_
        exact hK8 _ _ _ ⟨_, _, Settled.refl, _, _, ⟨_, h, rfl, rfl⟩, ⟨rfl, ⟨⟨rfl, rfl⟩, trivial⟩, ⟨⟨rfl, rfl⟩, trivial⟩⟩, rfl⟩

/-- passkey/seal.tag -/
def sealtagH : Hints := ⟨[(0, [0, 1, 2, 3, 8]), (1, [0, 3, 8, 9]), (2, [8])], []⟩
def sealtagRc : RCode :=
  .seq (.region false [⟨some 8, .alloc [.d (.int .u8 0), .d (.int .u8 0), .d (.int .u8 0), .d (.int .u8 0), .d (.int .u8 0), .d (.int .u8 0), .d (.int .u8 0), .d (.int .u8 0)], [],
  none, []⟩] [0, 1, 2, 3, 8]) (.seq (.region false [⟨some 10, .mv, [.t 1], none, []⟩, ⟨some 11, .mv, [.t 2], none, []⟩, ⟨some 12, .len, [.t 11], none, []⟩, ⟨some 13, .cvt .u64, [.t
  12], none, []⟩, ⟨some 14, .bslice 1 false 2 [.d (.int .u64 0)] [0, 1], [.t 10, .t 13], none, []⟩, ⟨some 15, .call 36 true, [.t 14], none, []⟩, ⟨some 16, .mv, [.t 2], none, []⟩,
  ⟨some 17, .app 1 140737488355328, [.t 15, .t 16], none, []⟩, ⟨some 9, .mv, [.t 17], none, []⟩] [0, 3, 8, 9]) (.seq (.region false [⟨some 18, .mv, [.t 0], none, []⟩, ⟨some 19,
  .mv, [.t 9], none, []⟩, ⟨some 20, .mv, [.t 3], none, []⟩, ⟨some 21, .app 1 140737488355328, [.t 19, .t 20], none, []⟩, ⟨some 22, .call 35 false, [.t 18, .k (.d (.int .i64 6)), .t
  21], none, []⟩, ⟨some 23, .bslice 1 false 1 [.d (.int .u64 0)] [0], [.t 22], none, []⟩, ⟨some 24, .call 36 true, [.t 23], none, []⟩, ⟨some 25, .s2a 8, [.t 24], none, []⟩, ⟨some
  26, .load 8 true, [.t 25], none, []⟩, ⟨none, .store 8, [.t 8, .t 26], none, []⟩] [8]) .ret))
def sealtagRr : List RR := [.c 8 8 true]
theorem sealtagC : compFn Tryd.prog 42 sealtagH = some (sealtagRc, sealtagRr, 27) := by kernel_rfl
theorem sealtagOK (a0 : BitVec 64) (a1 : BitVec 64) (a2 : List (BitVec 8)) (a3 : List (BitVec 8)) (res : List (BitVec 8)) (h : sealtag a0 a1 a2 a3 = some res) : CallOK Tryd.prog 42 [.d (eU64 a0), .d (eU64 a1), .d ((eL 1 eU8) a2), .d ((eL 1 eU8) a3)] [] (.d ((eA eU8) res)) [] := by
  unfold sealtag at h
  refine callOK sealtagC fm rfl ?_
  simp only [initE, initM, nbor, List.map_cons, List.map_nil, Nat.reduceAdd]
  unfold sealtagRc
  refine rwp_seq fun K1 hK1 => ?_
  refine rwp_region fun K2 hK2 => ?_
  refine st1 128 rfl (mem' := [(64, .var .mine ((List.replicate 8 (0#8)).map fun x => .d (eU8 x)))]) (ok (alcA (e := eU8) (xs := (List.replicate 8 (0#8))) rfl)) rfl ?_
  refine hK2 _ _ ?_
  simp only [n0, n1, n2, n3, n4, n5, n6, n7, n8, n9, n10, n11, n12, n13, n14, n15, n16, n17, n18, n19, reduceIte]
  refine hK1 _ _ _ ?_
  refine rwp_seq fun K3 hK3 => ?_
  refine rwp_region fun K4 hK4 => ?_
  refine st0 192 rfl (ok (mv (.d (eU64 a1)))) ?_
  refine st0 256 rfl (ok (mv (.d ((eL 1 eU8) a2)))) ?_
  refine st0 320 rfl (ok (lenL _ _)) ?_
  refine st0 384 rfl (ok (ofI64 _ (a2.length : Int))) ?_
  refine st1 448 rfl (mem' := [(384, .row true 1 (([a1, (BitVec.ofInt 64 (a2.length : Int))] : List (BitVec 64)).map eU64)), (64, .var .mine ((List.replicate 8 (0#8)).map fun x => .d (eU8 x)))]) (ok (bsl (e := eU64) (ys := ([a1, (BitVec.ofInt 64 (a2.length : Int))] : List (BitVec 64))) rfl rfl rfl)) rfl ?_
  obtain ⟨y5, h6, h⟩ := bind_inv h
  refine st1 512 rfl (mem' := [(448, .row true 1 (y5.map eU8)), (384, .row false 1 (([a1, (BitVec.ofInt 64 (a2.length : Int))] : List (BitVec 64)).map eU64)), (64, .var .mine ((List.replicate 8 (0#8)).map fun x => .d (eU8 x)))]) (call_ok (v := .ref 448 y5.length 0 y5.length) (u := [(448, .row true 1 (y5.map eU8)), (384, .row false 1 (([a1, (BitVec.ofInt 64 (a2.length : Int))] : List (BitVec 64)).map eU64))]) (ar_to rfl (to_1 rfl (ds_r (ys := ([a1, (BitVec.ofInt 64 (a2.length : Int))] : List (BitVec 64))) rfl rfl rfl ds_nil)) ar_nil) rfl (digestWordsOK ([a1, (BitVec.ofInt 64 (a2.length : Int))] : List (BitVec 64)) y5 h6) rfl) rfl ?_
  refine st0 576 rfl (ok (mv (.d ((eL 1 eU8) a2)))) ?_
  obtain ⟨h7, h⟩ := asq_inv h
  refine st1 640 rfl (mem' := [(448, .row true 1 ((y5 ++ a2).map eU8)), (384, .row false 1 (([a1, (BitVec.ofInt 64 (a2.length : Int))] : List (BitVec 64)).map eU64)), (64, .var .mine ((List.replicate 8 (0#8)).map fun x => .d (eU8 x)))]) (ok (appR (e := eU8) (xs := y5) (ys := a2) contL rfl rfl rfl h7)) rfl ?_
  refine st0 704 rfl (ok (mv (.ref 448 (((y5 ++ a2)).length) 0 (((y5 ++ a2)).length)))) ?_
  refine hK4 _ _ ?_
  simp only [n0, n1, n2, n3, n4, n5, n6, n7, n8, n9, n10, n11, n12, n13, n14, n15, n16, n17, n18, n19, reduceIte]
  refine hK3 _ _ _ ?_
  refine rwp_seq fun K8 hK8 => ?_
  refine rwp_region fun K9 hK9 => ?_
  refine st0 768 rfl (ok (mv (.d (eU64 a0)))) ?_
  refine st0 832 rfl (ok (mv (.ref 448 (((y5 ++ a2)).length) 0 (((y5 ++ a2)).length)))) ?_
  refine st0 896 rfl (ok (mv (.d ((eL 1 eU8) a3)))) ?_
  obtain ⟨h10, h⟩ := asq_inv h
  refine st1 960 rfl (mem' := [(448, .row true 1 (((y5 ++ a2) ++ a3).map eU8)), (384, .row false 1 (([a1, (BitVec.ofInt 64 (a2.length : Int))] : List (BitVec 64)).map eU64)), (64, .var .mine ((List.replicate 8 (0#8)).map fun x => .d (eU8 x)))]) (ok (appR (e := eU8) (xs := (y5 ++ a2)) (ys := a3) contL rfl rfl rfl h10)) rfl ?_
  obtain ⟨y11, h12, h⟩ := bind_inv h
  refine st0 1024 rfl (call_ok (v := .d (eU64 y11)) (u := []) (ar_d (eU64 a0) (ar_d (eI (6 : Int)) (ar_to rfl (to_1 rfl (ds_r (ys := ((y5 ++ a2) ++ a3)) rfl rfl rfl ds_nil)) ar_nil))) rfl (digestMacOK a0 (6 : Int) ((y5 ++ a2) ++ a3) y11 h12) rfl) ?_
  refine st1 1088 rfl (mem' := [(1024, .row true 1 (([y11] : List (BitVec 64)).map eU64)), (448, .row true 1 (((y5 ++ a2) ++ a3).map eU8)), (384, .row false 1 (([a1, (BitVec.ofInt 64 (a2.length : Int))] : List (BitVec 64)).map eU64)), (64, .var .mine ((List.replicate 8 (0#8)).map fun x => .d (eU8 x)))]) (ok (bsl (e := eU64) (ys := ([y11] : List (BitVec 64))) rfl rfl rfl)) rfl ?_
  obtain ⟨y13, h14, h⟩ := bind_inv h
  refine st1 1152 rfl (mem' := [(1088, .row true 1 (y13.map eU8)), (1024, .row false 1 (([y11] : List (BitVec 64)).map eU64)), (448, .row true 1 (((y5 ++ a2) ++ a3).map eU8)), (384, .row false 1 (([a1, (BitVec.ofInt 64 (a2.length : Int))] : List (BitVec 64)).map eU64)), (64, .var .mine ((List.replicate 8 (0#8)).map fun x => .d (eU8 x)))]) (call_ok (v := .ref 1088 y13.length 0 y13.length) (u := [(1088, .row true 1 (y13.map eU8)), (1024, .row false 1 (([y11] : List (BitVec 64)).map eU64))]) (ar_to rfl (to_1 rfl (ds_r (ys := ([y11] : List (BitVec 64))) rfl rfl rfl ds_nil)) ar_nil) rfl (digestWordsOK ([y11] : List (BitVec 64)) y13 h14) rfl) rfl ?_
  obtain ⟨h15, h⟩ := asq_inv h
  refine st1 1216 rfl (mem' := [(1088, .row false 1 (y13.map eU8)), (1024, .row false 1 (([y11] : List (BitVec 64)).map eU64)), (448, .row true 1 (((y5 ++ a2) ++ a3).map eU8)), (384, .row false 1 (([a1, (BitVec.ofInt 64 (a2.length : Int))] : List (BitVec 64)).map eU64)), (64, .var .mine ((List.replicate 8 (0#8)).map fun x => .d (eU8 x)))]) (ok (s2aR (e := eU8) (xs := y13) (fun _ => rfl) (by decide) rfl rfl h15)) rfl ?_
  obtain ⟨h16, h⟩ := asq_inv h
  refine st0 1280 rfl (ok (ld_iA (e := eU8) (xs := (((y13.drop 0).take y13.length).take 8)) h16)) ?_
  obtain ⟨h17, h⟩ := asq_inv h
  refine stn 1344 rfl (mem' := [(64, .var .mine ((((y13.drop 0).take y13.length).take 8).map fun x => .d (eU8 x))), (1088, .row false 1 (y13.map eU8)), (1024, .row false 1 (([y11] : List (BitVec 64)).map eU64)), (448, .row true 1 (((y5 ++ a2) ++ a3).map eU8)), (384, .row false 1 (([a1, (BitVec.ofInt 64 (a2.length : Int))] : List (BitVec 64)).map eU64))]) (ok (stoA (e := eU8) (xs := (List.replicate 8 (0#8))) (ys := (((y13.drop 0).take y13.length).take 8)) rfl rfl h17)) rfl ?_
  refine hK9 _ _ ?_
  simp only [n0, n1, n2, n3, n4, n5, n6, n7, n8, n9, n10, n11, n12, n13, n14, n15, n16, n17, n18, n19, reduceIte]
  refine hK8 _ _ _ ?_
  refine rwp_ret ?_
  obtain ⟨h18, h⟩ := asq_inv h
  obtain rfl := Option.some.inj h
  try simp only [thenK, blockK, reduceIte]
  exact Or.inl (end_ok trivial (rs_cA (e := eU8) (xs := (((y13.drop 0).take y13.length).take 8)) (id := 64) rfl rfl h18 rs_nil) (en_d (to_d _) en_nil) ou_nil (by first | exact eok rfl rfl rfl rfl trivial | (refine eok ?_ ?_ ?_ ?_ ?_ <;> first | rfl | exact trivial | simp [retM, Mem.get, PV.renL, PV.ren, Blk.ren, comps, rhoR, rhoM, appN, PV.refsL, PV.refs, keys, nodupB, Blk.refs, allIn, Blk.bor])))

/-- passkey/seal.Seal -/
def sealSealH : Hints := ⟨[(0, [0, 1, 2, 3]), (1, [0, 1, 2, 3, 19]), (2, [8, 9]), (3, [0, 1, 2, 10]), (4, [1, 10, 11]), (5, [8, 9])], []⟩
def sealSealRc : RCode :=
  .seq (.region false [⟨some 8, .mv, [.k (.nil 1)], none, []⟩, ⟨some 9, .mv, [.k (.d (.int .i64 0))], none, []⟩] [0, 1, 2, 3]) (.seq (.seq (.region false [⟨some 12, .mv, [.t 3],
  none, []⟩, ⟨some 13, .len, [.t 12], none, []⟩, ⟨some 14, .bin .gtr, [.t 13, .k (.d (.int .i64 1024))], none, []⟩, ⟨some 15, .mv, [.t 14], none, []⟩, ⟨some 16, .mv, [.t 2], some
  (15, false), []⟩, ⟨some 17, .len, [.t 16], some (15, false), []⟩, ⟨some 18, .bin .gtr, [.t 17, .k (.d (.int .i64 1024))], some (15, false), []⟩, ⟨some 19, .pick, [.t 15, .k (.d
  (.bool true)), .t 18], none, []⟩] [0, 1, 2, 3, 19]) (.cond (.t 19) (.seq (.region false [⟨some 8, .mv, [.k (.nil 1)], none, []⟩, ⟨some 9, .mv, [.k (.d (.int .i64 8))], none, []⟩]
  [8, 9]) .ret) .skip)) (.seq (.region false [⟨some 20, .mv, [.t 0], none, []⟩, ⟨some 21, .mv, [.t 1], none, []⟩, ⟨some 22, .mv, [.t 3], none, []⟩, ⟨some 23, .call 41 true, [.t 20,
  .t 21, .t 22], none, []⟩, ⟨some 10, .mv, [.t 23], none, []⟩] [0, 1, 2, 10]) (.seq (.region false [⟨some 24, .mv, [.t 0], none, []⟩, ⟨some 25, .mv, [.t 1], none, []⟩, ⟨some 26,
  .mv, [.t 2], none, []⟩, ⟨some 27, .mv, [.t 10], none, []⟩, ⟨some 28, .call 42 false, [.t 24, .t 25, .t 26, .t 27], none, []⟩, ⟨some 11, .alloc [.d (.int .u8 0), .d (.int .u8 0),
  .d (.int .u8 0), .d (.int .u8 0), .d (.int .u8 0), .d (.int .u8 0), .d (.int .u8 0), .d (.int .u8 0)], [], none, []⟩, ⟨none, .store 8, [.t 11, .t 28], none, []⟩] [1, 10, 11])
  (.seq (.region true [⟨some 29, .mv, [.t 1], none, []⟩, ⟨some 30, .bslice 1 false 1 [.d (.int .u64 0)] [0], [.t 29], none, [0]⟩, ⟨some 31, .call 36 true, [.t 30], none, [0, 1]⟩,
  ⟨some 32, .mv, [.t 10], none, []⟩, ⟨some 33, .app 1 140737488355328, [.t 31, .t 32], none, [0, 1, 2, 3]⟩, ⟨some 34, .aslice 8 false false, [.t 11], none, []⟩, ⟨some 35, .app 1
  140737488355328, [.t 33, .t 34], none, [0, 1, 2, 3, 4, 5]⟩, ⟨some 8, .mv, [.t 35], none, [0, 1, 2, 3, 4, 5, 6]⟩, ⟨some 9, .mv, [.k (.d (.int .i64 0))], none, [0, 1, 2, 3, 4, 5,
  6, 7]⟩] [8, 9]) .ret))))
def sealSealRr : List RR := [.t 8, .t 9]
theorem sealSealC : compFn Tryd.prog 29 sealSealH = some (sealSealRc, sealSealRr, 36) := by kernel_rfl
theorem sealSealOK (a0 : BitVec 64) (a1 : BitVec 64) (a2 : List (BitVec 8)) (a3 : List (BitVec 8)) (res : (List (BitVec 8)) × Int) (h : sealSeal a0 a1 a2 a3 = some res) : CallOK Tryd.prog 29 [.d (eU64 a0), .d (eU64 a1), .d ((eL 1 eU8) a2), .d ((eL 1 eU8) a3)] [] (.tup [.ref 0 res.1.length 0 res.1.length, .d (eI res.2)]) [(0, .row true 1 (res.1.map eU8))] := by
  unfold sealSeal at h
  refine callOK sealSealC fm rfl ?_
  simp only [initE, initM, nbor, List.map_cons, List.map_nil, Nat.reduceAdd]
  unfold sealSealRc
  refine rwp_seq fun K1 hK1 => ?_
  refine rwp_region fun K2 hK2 => ?_
  refine st0 128 rfl (ok (mv (.nil 1))) ?_
  refine st0 192 rfl (ok (mv (.d (eI (0 : Int))))) ?_
  refine hK2 _ _ ?_
  simp only [n0, n1, n2, n3, n4, n5, n6, n7, n8, n9, n10, n11, n12, n13, n14, n15, n16, n17, n18, n19, reduceIte]
  refine hK1 _ _ _ ?_
  refine rwp_seq fun K3 hK3 => ?_
  refine rwp_join ([], []) 768 (fun env mem => ∃ (v4 : Bool), sealSealJ1 a0 a1 a2 a3 v4 = some res ∧ env = [(0, .d (eU64 a0)), (1, .d (eU64 a1)), (2, .d ((eL 1 eU8) a2)), (3, .d ((eL 1 eU8) a3)), (19, .d (eB v4))] ∧ mem = []) (fun _ _ hI => ?_) (fun K5 hK5 => ?_)
  · obtain ⟨v4, h, rfl, rfl⟩ := hI
    unfold sealSealJ1 at h
    rcases Bool.eq_false_or_eq_true (v4) with h6 | h6
    · replace h := ite_t h h6
      refine rwp_t (isT h6) ?_
      refine rwp_seq fun K7 hK7 => ?_
      refine rwp_region fun K8 hK8 => ?_
      refine st0 832 rfl (ok (mv (.nil 1))) ?_
      refine st0 896 rfl (ok (mv (.d (eI (8 : Int))))) ?_
      refine hK8 _ _ ?_
      simp only [n0, n1, n2, n3, n4, n5, n6, n7, n8, n9, n10, n11, n12, n13, n14, n15, n16, n17, n18, n19, reduceIte]
      refine hK7 _ _ _ ?_
      refine rwp_ret ?_
      obtain rfl := Option.some.inj h
      try simp only [thenK, blockK, reduceIte]
      exact Or.inl (end_ok trivial (rs_t (v := .nil 1) rfl (rs_t (v := .d (eI (8 : Int))) rfl rs_nil)) (en_nilr (en_d (to_d _) en_nil)) ou_nil (by first | exact eok rfl rfl rfl rfl (And.intro (And.intro rfl rfl) trivial) | (refine eok ?_ ?_ ?_ ?_ ?_ <;> first | rfl | exact (And.intro (And.intro rfl rfl) trivial) | simp [retM, Mem.get, PV.renL, PV.ren, Blk.ren, comps, rhoR, rhoM, appN, PV.refsL, PV.refs, keys, nodupB, Blk.refs, allIn, Blk.bor])))
    · replace h := ite_f h h6
      refine rwp_f (isF h6) ?_
      refine rwp_skip ?_
      refine hK3 _ _ _ ?_
      refine rwp_seq fun K9 hK9 => ?_
      refine rwp_region fun K10 hK10 => ?_
      refine st0 832 rfl (ok (mv (.d (eU64 a0)))) ?_
      refine st0 896 rfl (ok (mv (.d (eU64 a1)))) ?_
      refine st0 960 rfl (ok (mv (.d ((eL 1 eU8) a3)))) ?_
      obtain ⟨y11, h12, h⟩ := bind_inv h
      refine st1 1024 rfl (mem' := [(960, .row true 1 (y11.map eU8))]) (call_ok (v := .ref 960 y11.length 0 y11.length) (u := [(960, .row true 1 (y11.map eU8))]) (ar_d (eU64 a0) (ar_d (eU64 a1) (ar_d ((eL 1 eU8) a3) ar_nil))) rfl (sealmixedOK a0 a1 a3 y11 h12) rfl) rfl ?_
      refine st0 1088 rfl (ok (mv (.ref 960 y11.length 0 y11.length))) ?_
      refine hK10 _ _ ?_
      simp only [n0, n1, n2, n3, n4, n5, n6, n7, n8, n9, n10, n11, n12, n13, n14, n15, n16, n17, n18, n19, reduceIte]
      refine hK9 _ _ _ ?_
      refine rwp_seq fun K13 hK13 => ?_
      refine rwp_region fun K14 hK14 => ?_
      refine st0 1152 rfl (ok (mv (.d (eU64 a0)))) ?_
      refine st0 1216 rfl (ok (mv (.d (eU64 a1)))) ?_
      refine st0 1280 rfl (ok (mv (.d ((eL 1 eU8) a2)))) ?_
      refine st0 1344 rfl (ok (mv (.ref 960 y11.length 0 y11.length))) ?_
      obtain ⟨y15, h16, h⟩ := bind_inv h
      refine st0 1408 rfl (call_okF (ar_d (eU64 a0) (ar_d (eU64 a1) (ar_d ((eL 1 eU8) a2) (ar_to rfl (to_1 rfl (ds_r (ys := y11) rfl rfl rfl ds_nil)) ar_nil)))) (sealtagOK a0 a1 a2 y11 y15 h16) (flat_A (fun _ => rfl) _)) ?_
      refine st1 1472 rfl (mem' := [(1408, .var .mine ((List.replicate 8 (0#8)).map fun x => .d (eU8 x))), (960, .row true 1 (y11.map eU8))]) (ok (alcA (e := eU8) (xs := (List.replicate 8 (0#8))) rfl)) rfl ?_
      obtain ⟨h17, h⟩ := asq_inv h
      refine stn 1536 rfl (mem' := [(1408, .var .mine (y15.map fun x => .d (eU8 x))), (960, .row true 1 (y11.map eU8))]) (ok (stoA (e := eU8) (xs := (List.replicate 8 (0#8))) (ys := y15) rfl rfl h17)) rfl ?_
      refine hK14 _ _ ?_
      simp only [n0, n1, n2, n3, n4, n5, n6, n7, n8, n9, n10, n11, n12, n13, n14, n15, n16, n17, n18, n19, reduceIte]
      refine hK13 _ _ _ ?_
      refine rwp_seq fun K18 hK18 => ?_
      refine rwp_draw fun K19 hK19 => ?_
      refine dr0 1600 rfl (ok (mv (.d (eU64 a1)))) (by kernel_rfl) ?_
      refine dr1 1664 rfl (mem' := [(1600, .row true 1 (([a1] : List (BitVec 64)).map eU64)), (1408, .var .mine (y15.map fun x => .d (eU8 x))), (960, .row true 1 (y11.map eU8))]) (ok (bsl (e := eU64) (ys := ([a1] : List (BitVec 64))) rfl rfl rfl)) rfl (by kernel_rfl) ?_
      obtain ⟨y20, h21, h⟩ := bind_inv h
      refine dr1 1728 rfl (mem' := [(1664, .row true 1 (y20.map eU8)), (1600, .row false 1 (([a1] : List (BitVec 64)).map eU64)), (1408, .var .mine (y15.map fun x => .d (eU8 x))), (960, .row true 1 (y11.map eU8))]) (call_ok (v := .ref 1664 y20.length 0 y20.length) (u := [(1664, .row true 1 (y20.map eU8)), (1600, .row false 1 (([a1] : List (BitVec 64)).map eU64))]) (ar_to rfl (to_1 rfl (ds_r (ys := ([a1] : List (BitVec 64))) rfl rfl rfl ds_nil)) ar_nil) rfl (digestWordsOK ([a1] : List (BitVec 64)) y20 h21) rfl) rfl (by kernel_rfl) ?_
      refine dr0 1792 rfl (ok (mv (.ref 960 y11.length 0 y11.length))) (by kernel_rfl) ?_
      obtain ⟨h22, h⟩ := asq_inv h
      refine dr1 1856 rfl (mem' := [(1664, .row true 1 ((y20 ++ y11).map eU8)), (1600, .row false 1 (([a1] : List (BitVec 64)).map eU64)), (1408, .var .mine (y15.map fun x => .d (eU8 x))), (960, .row true 1 (y11.map eU8))]) (ok (appR (e := eU8) (xs := y20) (ys := y11) (contR (xs := y11) rfl rfl rfl) rfl rfl rfl h22)) rfl (by kernel_rfl) ?_
      obtain ⟨h23, h⟩ := asq_inv h
      refine dr1 1920 rfl (mem' := [(1408, .var .ro (y15.map fun x => .d (eU8 x))), (1664, .row true 1 ((y20 ++ y11).map eU8)), (1600, .row false 1 (([a1] : List (BitVec 64)).map eU64)), (960, .row true 1 (y11.map eU8))]) (ok (aslA (e := eU8) (xs := y15) rfl rfl h23)) rfl (by kernel_rfl) ?_
      obtain ⟨h24, h⟩ := asq_inv h
      refine dr1 1984 rfl (mem' := [(1664, .row true 1 (((y20 ++ y11) ++ y15).map eU8)), (1408, .var .ro (y15.map fun x => .d (eU8 x))), (1600, .row false 1 (([a1] : List (BitVec 64)).map eU64)), (960, .row true 1 (y11.map eU8))]) (ok (appR (e := eU8) (xs := (y20 ++ y11)) (ys := y15) contL rfl rfl rfl h24)) rfl (by kernel_rfl) ?_
      refine dr0 2048 rfl (ok (mv (.ref 1664 ((((y20 ++ y11) ++ y15)).length) 0 ((((y20 ++ y11) ++ y15)).length)))) (by kernel_rfl) ?_
      refine dr0 2112 rfl (ok (mv (.d (eI (0 : Int))))) (by kernel_rfl) ?_
      refine hK19 _ _ ?_
      simp only [n0, n1, n2, n3, n4, n5, n6, n7, n8, n9, n10, n11, n12, n13, n14, n15, n16, n17, n18, n19, reduceIte]
      refine hK18 _ _ _ ?_
      refine rwp_ret ?_
      obtain rfl := Option.some.inj h
      try simp only [thenK, blockK, reduceIte]
      exact Or.inl (end_ok trivial (rs_t (v := .ref 1664 ((((y20 ++ y11) ++ y15)).length) 0 ((((y20 ++ y11) ++ y15)).length)) rfl (rs_t (v := .d (eI (0 : Int))) rfl rs_nil)) (en_ref (en_d (to_d _) en_nil)) ou_nil (by first | exact eok rfl rfl rfl rfl (And.intro (And.intro rfl rfl) trivial) | (refine eok ?_ ?_ ?_ ?_ ?_ <;> first | rfl | exact (And.intro (And.intro rfl rfl) trivial) | simp [retM, Mem.get, PV.renL, PV.ren, Blk.ren, comps, rhoR, rhoM, appN, PV.refsL, PV.refs, keys, nodupB, Blk.refs, allIn, Blk.bor])))
  · refine rwp_region fun K25 hK25 => ?_
    refine st0 256 rfl (ok (mv (.d ((eL 1 eU8) a3)))) ?_
    refine st0 320 rfl (ok (lenL _ _)) ?_
    refine st0 384 rfl (ok (gtrI _ (1024 : Int))) ?_
    refine st0 448 rfl (ok (mv (.d (eB (decide ((1024 : Int) < (a3.length : Int))))))) ?_
    rcases Bool.eq_false_or_eq_true ((decide ((1024 : Int) < (a3.length : Int)))) with h26 | h26
    · replace h := ite_t h h26
      refine stGN 512 rfl rfl h26 ?_
      refine stGN 576 rfl rfl h26 ?_
      refine stGN 640 rfl rfl h26 ?_
      refine st0 704 rfl (ok (pick_t h26 (.d (eB true)) _)) ?_
      refine hK25 _ _ ?_
      simp only [n0, n1, n2, n3, n4, n5, n6, n7, n8, n9, n10, n11, n12, n13, n14, n15, n16, n17, n18, n19, reduceIte]
      exact hK5 _ _ _ ⟨_, _, Settled.refl, _, _, ⟨_, h, rfl, rfl⟩, ⟨rfl, ⟨⟨rfl, rfl⟩, ⟨⟨rfl, rfl⟩, ⟨⟨rfl, rfl⟩, ⟨⟨rfl, rfl⟩, ⟨⟨rfl, rfl⟩, trivial⟩⟩⟩⟩⟩, trivial⟩, rfl⟩
    · replace h := ite_f h h26
      refine stG (isF h26) ?_
      refine st0 512 rfl (ok (mv (.d ((eL 1 eU8) a2)))) ?_
      refine stG (isF h26) ?_
      refine st0 576 rfl (ok (lenL _ _)) ?_
      refine stG (isF h26) ?_
      refine st0 640 rfl (ok (gtrI _ (1024 : Int))) ?_
      refine st0 704 rfl (ok (pick_f h26 _ (.d (eB (decide ((1024 : Int) < (a2.length : Int))))))) ?_
      refine hK25 _ _ ?_
      simp only [n0, n1, n2, n3, n4, n5, n6, n7, n8, n9, n10, n11, n12, n13, n14, n15, n16, n17, n18, n19, reduceIte]
      exact hK5 _ _ _ ⟨_, _, Settled.refl, _, _, ⟨_, h, rfl, rfl⟩, ⟨rfl, ⟨⟨rfl, rfl⟩, ⟨⟨rfl, rfl⟩, ⟨⟨rfl, rfl⟩, ⟨⟨rfl, rfl⟩, ⟨⟨rfl, rfl⟩, trivial⟩⟩⟩⟩⟩, trivial⟩, rfl⟩

end Go.Proofs.Ty
