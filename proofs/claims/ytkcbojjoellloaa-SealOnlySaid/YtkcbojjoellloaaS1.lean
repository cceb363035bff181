/- Each Go function comes to what its plain function says. PRINTED by a program of this session (ty.py). -/
import Derived.Test.YtkcbojjoellloaaS0
set_option linter.unusedVariables false
set_option linter.unusedSimpArgs false
set_option maxHeartbeats 4000000
set_option maxRecDepth 10000
namespace Go.Proofs.Ty
open Go Go.RW Go.Proofs
/-- (*passkey/digest.state).word -/
def digeststatewordH : Hints := ⟨[(0, [0, 1]), (1, [0, 1]), (2, [])], []⟩
def digeststatewordRc : RCode :=
  .seq (.region false [⟨some 4, .mv, [.t 0], none, []⟩, ⟨some 5, .chk, [.t 4], none, []⟩, ⟨some 6, .fa 3, [.t 5], none, []⟩, ⟨some 7, .load 1 false, [.t 6], none, []⟩, ⟨some 8, .mv,
  [.t 1], none, []⟩, ⟨some 9, .bin .xor, [.t 7, .t 8], none, []⟩, ⟨some 10, .chk, [.t 4], none, []⟩, ⟨some 11, .fa 3, [.t 10], none, []⟩, ⟨none, .store 1, [.t 11, .t 9], none, []⟩]
  [0, 1]) (.seq (.region false [⟨some 12, .mv, [.t 0], none, []⟩, ⟨some 13, .call 32 false, [.t 12, .k (.d (.int .i64 2))], none, []⟩] [0, 1]) (.region false [⟨some 14, .mv, [.t
  0], none, []⟩, ⟨some 15, .chk, [.t 14], none, []⟩, ⟨some 16, .fa 0, [.t 15], none, []⟩, ⟨some 17, .load 1 false, [.t 16], none, []⟩, ⟨some 18, .mv, [.t 1], none, []⟩, ⟨some 19,
  .bin .xor, [.t 17, .t 18], none, []⟩, ⟨some 20, .chk, [.t 14], none, []⟩, ⟨some 21, .fa 0, [.t 20], none, []⟩, ⟨none, .store 1, [.t 21, .t 19], none, []⟩] []))
def digeststatewordRr : List RR := []
theorem digeststatewordC : compFn Try.prog 30 digeststatewordH = some (digeststatewordRc, digeststatewordRr, 22) := by kernel_rfl
theorem digeststatewordOK (a0 : TDigeststate) (a1 : BitVec 64) (res : TDigeststate) (h : digeststateword a0 a1 = some res) : CallOK Try.prog 30 [.p [eU64 a0.v0, eU64 a0.v1, eU64 a0.v2, eU64 a0.v3], .d (eU64 a1)] [[eU64 res.v0, eU64 res.v1, eU64 res.v2, eU64 res.v3]] (.tup []) [] := by
  unfold digeststateword at h
  refine callOK digeststatewordC fm rfl ?_
  simp only [initE, initM, nbor, List.map_cons, List.map_nil, Nat.reduceAdd]
  unfold digeststatewordRc
  refine rwp_seq fun K1 hK1 => ?_
  refine rwp_region fun K2 hK2 => ?_
  refine st0 128 rfl (ok (mv (.ptr 0 0))) ?_
  refine st0 192 rfl (ok (chk_ptr _ _)) ?_
  refine st0 256 rfl (ok (fa_k 3 rfl)) ?_
  refine st0 320 rfl (ok (ld_v (v := .d (eU64 a0.v3)) rfl rfl rfl)) ?_
  refine st0 384 rfl (ok (mv (.d (eU64 a1)))) ?_
  refine st0 448 rfl (ok (xor64 _ _)) ?_
  refine st0 512 rfl (ok (chk_ptr _ _)) ?_
  refine st0 576 rfl (ok (fa_k 3 rfl)) ?_
  refine stn 640 rfl (mem' := [(0, .var .bor [.d (eU64 a0.v0), .d (eU64 a0.v1), .d (eU64 a0.v2), .d (eU64 (a0.v3 ^^^ a1))])]) (ok (sto_v (ps' := [.d (eU64 a0.v0), .d (eU64 a0.v1), .d (eU64 a0.v2), .d (eU64 (a0.v3 ^^^ a1))]) rfl rfl rfl rfl)) rfl ?_
  refine hK2 _ _ ?_
  simp only [thenK, blockK, keepE, updM, List.filter_cons, List.filter_nil, List.nil_append, List.cons_append, List.map_cons, List.map_nil, envE, Mem.get, Nat.reduceEqDiff, reduceIte, Option.isNone_none, Option.isNone_some, Bool.false_eq_true, List.length_cons, List.length_nil, Nat.reduceAdd, Nat.reduceMul]
  refine hK1 _ _ _ ?_
  refine rwp_seq fun K3 hK3 => ?_
  refine rwp_region fun K4 hK4 => ?_
  refine st0 704 rfl (ok (mv (.ptr 0 0))) ?_
  obtain ⟨y5, h6, h⟩ := bind_inv h
  refine st1 768 rfl (mem' := [(0, .var .bor [.d (eU64 y5.v0), .d (eU64 y5.v1), .d (eU64 y5.v2), .d (eU64 y5.v3)])]) (call_ok (v := .tup []) (u := [(0, .var .bor [.d (eU64 y5.v0), .d (eU64 y5.v1), .d (eU64 y5.v2), .d (eU64 y5.v3)])]) (ar_p rfl rfl (ds_d _ (ds_d _ (ds_d _ (ds_d _ ds_nil)))) (ar_d (eI (2 : Int)) ar_nil)) rfl (digeststateroundOK (TDigeststate.mk a0.v0 a0.v1 a0.v2 (a0.v3 ^^^ a1)) (2 : Int) y5 h6) rfl) rfl ?_
  refine hK4 _ _ ?_
  simp only [thenK, blockK, keepE, updM, List.filter_cons, List.filter_nil, List.nil_append, List.cons_append, List.map_cons, List.map_nil, envE, Mem.get, Nat.reduceEqDiff, reduceIte, Option.isNone_none, Option.isNone_some, Bool.false_eq_true, List.length_cons, List.length_nil, Nat.reduceAdd, Nat.reduceMul]
  refine hK3 _ _ _ ?_
  refine rwp_region fun K7 hK7 => ?_
  refine st0 832 rfl (ok (mv (.ptr 0 0))) ?_
  refine st0 896 rfl (ok (chk_ptr _ _)) ?_
  refine st0 960 rfl (ok (fa_k 0 rfl)) ?_
  refine st0 1024 rfl (ok (ld_v (v := .d (eU64 y5.v0)) rfl rfl rfl)) ?_
  refine st0 1088 rfl (ok (mv (.d (eU64 a1)))) ?_
  refine st0 1152 rfl (ok (xor64 _ _)) ?_
  refine st0 1216 rfl (ok (chk_ptr _ _)) ?_
  refine st0 1280 rfl (ok (fa_k 0 rfl)) ?_
  refine stn 1344 rfl (mem' := [(0, .var .bor [.d (eU64 (y5.v0 ^^^ a1)), .d (eU64 y5.v1), .d (eU64 y5.v2), .d (eU64 y5.v3)])]) (ok (sto_v (ps' := [.d (eU64 (y5.v0 ^^^ a1)), .d (eU64 y5.v1), .d (eU64 y5.v2), .d (eU64 y5.v3)]) rfl rfl rfl rfl)) rfl ?_
  refine hK7 _ _ ?_
  simp only [thenK, blockK, keepE, updM, List.filter_cons, List.filter_nil, List.nil_append, List.cons_append, List.map_cons, List.map_nil, envE, Mem.get, Nat.reduceEqDiff, reduceIte, Option.isNone_none, Option.isNone_some, Bool.false_eq_true, List.length_cons, List.length_nil, Nat.reduceAdd, Nat.reduceMul]
  obtain rfl := Option.some.inj h
  try simp only [thenK, blockK, reduceIte]
  exact Or.inl (end_ok trivial rs_nil en_nil (ou_1 rfl (ds_d _ (ds_d _ (ds_d _ (ds_d _ ds_nil)))) ou_nil) (by first | exact eok rfl rfl rfl rfl trivial | (refine eok ?_ ?_ ?_ ?_ ?_ <;> first | rfl | exact trivial | simp [retM, Mem.get, PV.renL, PV.ren, Blk.ren, comps, rhoR, rhoM, appN, PV.refsL, PV.refs, keys, nodupB, Blk.refs, allIn, Blk.bor])))

/-- passkey/digest.Sum -/
def digestSumH : Hints := ⟨[(0, [0, 1, 2]), (1, [2, 7]), (2, [2, 7, 8]), (3, [2, 7, 8, 25]), (4, [2, 7, 8]), (5, [2, 7, 8]), (6, [7]), (7, [7]), (8, [7]), (9, [6])], []⟩
def digestSumRc : RCode :=
  .seq (.region false [⟨some 6, .mv, [.k (.d (.int .u64 0))], none, []⟩] [0, 1, 2]) (.seq (.region false [⟨some 9, .mv, [.t 0], none, []⟩, ⟨some 10, .bin .xor, [.t 9, .k (.d (.int
  .u64 8317987319222330741))], none, []⟩, ⟨some 11, .mv, [.t 1], none, []⟩, ⟨some 12, .bin .xor, [.t 11, .k (.d (.int .u64 7237128888997146477))], none, []⟩, ⟨some 13, .mv, [.t 0],
  none, []⟩, ⟨some 14, .bin .xor, [.t 13, .k (.d (.int .u64 7816392313619706465))], none, []⟩, ⟨some 15, .mv, [.t 1], none, []⟩, ⟨some 16, .bin .xor, [.t 15, .k (.d (.int .u64
  8387220255154660723))], none, []⟩, ⟨some 17, .build [.d (.int .u64 0), .d (.int .u64 0), .d (.int .u64 0), .d (.int .u64 0)] [(0, 1), (1, 1), (2, 1), (3, 1)], [.t 10, .t 12, .t
  14, .t 16], none, []⟩, ⟨some 18, .box, [.t 17], none, []⟩, ⟨some 7, .mv, [.t 18], none, []⟩] [2, 7]) (.seq (.region false [⟨some 19, .mv, [.t 2], none, []⟩, ⟨some 20, .len, [.t
  19], none, []⟩, ⟨some 21, .cvt .u64, [.t 20], none, []⟩, ⟨some 22, .bin .shl, [.t 21, .k (.d (.int .u64 56))], none, []⟩, ⟨some 8, .mv, [.t 22], none, []⟩] [2, 7, 8]) (.seq
  (.block 0 (.loop [] (.seq (.seq (.region false [⟨some 23, .mv, [.t 2], none, []⟩, ⟨some 24, .len, [.t 23], none, []⟩, ⟨some 25, .bin .geq, [.t 24, .k (.d (.int .i64 8))], none,
  []⟩] [2, 7, 8, 25]) (.cond (.t 25) .skip (.exit 0))) (.block 1 (.seq (.region false [⟨some 26, .mv, [.t 7], none, []⟩, ⟨some 27, .mv, [.t 2], none, []⟩, ⟨some 28, .slice 1 false
  true false, [.t 27, .k (.d (.int .i64 8))], none, []⟩, ⟨some 29, .call 31 false, [.t 28], none, []⟩, ⟨some 30, .call 30 false, [.t 26, .t 29], none, []⟩] [2, 7, 8]) (.region
  false [⟨some 31, .mv, [.t 2], none, []⟩, ⟨some 32, .slice 1 true false false, [.t 31, .k (.d (.int .i64 8))], none, []⟩, ⟨some 2, .mv, [.t 32], none, []⟩] [2, 7, 8])))))) (.seq
  (.region false [⟨some 33, .mv, [.t 7], none, []⟩, ⟨some 34, .mv, [.t 8], none, []⟩, ⟨some 35, .mv, [.t 2], none, []⟩, ⟨some 36, .call 31 false, [.t 35], none, []⟩, ⟨some 37, .bin
  .or, [.t 34, .t 36], none, []⟩, ⟨some 38, .call 30 false, [.t 33, .t 37], none, []⟩] [7]) (.seq (.region false [⟨some 39, .mv, [.t 7], none, []⟩, ⟨some 40, .chk, [.t 39], none,
  []⟩, ⟨some 41, .fa 2, [.t 40], none, []⟩, ⟨some 42, .load 1 false, [.t 41], none, []⟩, ⟨some 43, .bin .xor, [.t 42, .k (.d (.int .u64 255))], none, []⟩, ⟨some 44, .chk, [.t 39],
  none, []⟩, ⟨some 45, .fa 2, [.t 44], none, []⟩, ⟨none, .store 1, [.t 45, .t 43], none, []⟩] [7]) (.seq (.region false [⟨some 46, .mv, [.t 7], none, []⟩, ⟨some 47, .call 32 false,
  [.t 46, .k (.d (.int .i64 4))], none, []⟩] [7]) (.seq (.region true [⟨some 48, .mv, [.t 7], none, []⟩, ⟨some 49, .chk, [.t 48], none, [0]⟩, ⟨some 50, .fa 0, [.t 49], none, [0,
  1]⟩, ⟨some 51, .load 1 false, [.t 50], none, [0, 1, 2]⟩, ⟨some 52, .mv, [.t 7], none, []⟩, ⟨some 53, .chk, [.t 52], none, [4]⟩, ⟨some 54, .fa 1, [.t 53], none, [4, 5]⟩, ⟨some 55,
  .load 1 false, [.t 54], none, [4, 5, 6]⟩, ⟨some 56, .bin .xor, [.t 51, .t 55], none, [0, 1, 2, 3, 4, 5, 6, 7]⟩, ⟨some 57, .mv, [.t 7], none, []⟩, ⟨some 58, .chk, [.t 57], none,
  [9]⟩, ⟨some 59, .fa 2, [.t 58], none, [9, 10]⟩, ⟨some 60, .load 1 false, [.t 59], none, [9, 10, 11]⟩, ⟨some 61, .bin .xor, [.t 56, .t 60], none, [0, 1, 2, 3, 4, 5, 6, 7, 8, 9,
  10, 11, 12]⟩, ⟨some 62, .mv, [.t 7], none, []⟩, ⟨some 63, .chk, [.t 62], none, [14]⟩, ⟨some 64, .fa 3, [.t 63], none, [14, 15]⟩, ⟨some 65, .load 1 false, [.t 64], none, [14, 15,
  16]⟩, ⟨some 66, .bin .xor, [.t 61, .t 65], none, [0, 1, 2, 3, 4, 5, 6, 7, 8, 9, 10, 11, 12, 13, 14, 15, 16, 17]⟩, ⟨some 6, .mv, [.t 66], none, [0, 1, 2, 3, 4, 5, 6, 7, 8, 9, 10,
  11, 12, 13, 14, 15, 16, 17, 18]⟩] [6]) .ret)))))))
def digestSumRr : List RR := [.t 6]
theorem digestSumC : compFn Try.prog 28 digestSumH = some (digestSumRc, digestSumRr, 67) := by kernel_rfl
theorem digestSumOK (a0 : BitVec 64) (a1 : BitVec 64) (a2 : List (BitVec 8)) (res : BitVec 64) (h : digestSum a0 a1 a2 = some res) : CallOK Try.prog 28 [.d (eU64 a0), .d (eU64 a1), .d ((eL 1 eU8) a2)] [] (.d (eU64 res)) [] := by
  unfold digestSum at h
  refine callOK digestSumC fm rfl ?_
  simp only [initE, initM, nbor, List.map_cons, List.map_nil, Nat.reduceAdd]
  unfold digestSumRc
  refine rwp_seq fun K1 hK1 => ?_
  refine rwp_region fun K2 hK2 => ?_
  refine st0 128 rfl (ok (mv (.d (eU64 (0#64))))) ?_
  refine hK2 _ _ ?_
  simp only [thenK, blockK, keepE, updM, List.filter_cons, List.filter_nil, List.nil_append, List.cons_append, List.map_cons, List.map_nil, envE, Mem.get, Nat.reduceEqDiff, reduceIte, Option.isNone_none, Option.isNone_some, Bool.false_eq_true, List.length_cons, List.length_nil, Nat.reduceAdd, Nat.reduceMul]
  refine hK1 _ _ _ ?_
  refine rwp_seq fun K3 hK3 => ?_
  refine rwp_region fun K4 hK4 => ?_
  refine st0 192 rfl (ok (mv (.d (eU64 a0)))) ?_
  refine st0 256 rfl (ok (xor64 _ (8317987319222330741#64))) ?_
  refine st0 320 rfl (ok (mv (.d (eU64 a1)))) ?_
  refine st0 384 rfl (ok (xor64 _ (7237128888997146477#64))) ?_
  refine st0 448 rfl (ok (mv (.d (eU64 a0)))) ?_
  refine st0 512 rfl (ok (xor64 _ (7816392313619706465#64))) ?_
  refine st0 576 rfl (ok (mv (.d (eU64 a1)))) ?_
  refine st0 640 rfl (ok (xor64 _ (8387220255154660723#64))) ?_
  refine st0 704 rfl (ok (bld (v := .d (.agg [eU64 (a0 ^^^ (8317987319222330741#64)), eU64 (a1 ^^^ (7237128888997146477#64)), eU64 (a0 ^^^ (7816392313619706465#64)), eU64 (a1 ^^^ (8387220255154660723#64))])) rfl rfl)) ?_
  refine st1 768 rfl (mem' := [(704, .var .mine [.d (eU64 (a0 ^^^ (8317987319222330741#64))), .d (eU64 (a1 ^^^ (7237128888997146477#64))), .d (eU64 (a0 ^^^ (7816392313619706465#64))), .d (eU64 (a1 ^^^ (8387220255154660723#64)))])]) (ok (bx (ps := [.d (eU64 (a0 ^^^ (8317987319222330741#64))), .d (eU64 (a1 ^^^ (7237128888997146477#64))), .d (eU64 (a0 ^^^ (7816392313619706465#64))), .d (eU64 (a1 ^^^ (8387220255154660723#64)))]) rfl rfl)) rfl ?_
  refine st0 832 rfl (ok (mv (.ptr 704 0))) ?_
  refine hK4 _ _ ?_
  simp only [thenK, blockK, keepE, updM, List.filter_cons, List.filter_nil, List.nil_append, List.cons_append, List.map_cons, List.map_nil, envE, Mem.get, Nat.reduceEqDiff, reduceIte, Option.isNone_none, Option.isNone_some, Bool.false_eq_true, List.length_cons, List.length_nil, Nat.reduceAdd, Nat.reduceMul]
  refine hK3 _ _ _ ?_
  refine rwp_seq fun K5 hK5 => ?_
  refine rwp_region fun K6 hK6 => ?_
  refine st0 896 rfl (ok (mv (.d ((eL 1 eU8) a2)))) ?_
  refine st0 960 rfl (ok (lenL _ _)) ?_
  refine st0 1024 rfl (ok (ofI64 _ (a2.length : Int))) ?_
  refine st0 1088 rfl (ok (shlL64 _ 56 rfl)) ?_
  refine st0 1152 rfl (ok (mv (.d (eU64 ((BitVec.ofInt 64 (a2.length : Int)) <<< 56))))) ?_
  refine hK6 _ _ ?_
  simp only [thenK, blockK, keepE, updM, List.filter_cons, List.filter_nil, List.nil_append, List.cons_append, List.map_cons, List.map_nil, envE, Mem.get, Nat.reduceEqDiff, reduceIte, Option.isNone_none, Option.isNone_some, Bool.false_eq_true, List.length_cons, List.length_nil, Nat.reduceAdd, Nat.reduceMul]
  refine hK5 _ _ _ ?_
  refine rwp_join ([], []) 2240 (fun env mem => ∃ (v7 : List (BitVec 8)) (v8 : BitVec 64) (v9 : BitVec 64) (v10 : BitVec 64) (v11 : BitVec 64), digestSumJ1 a2 v7 v8 v9 v10 v11 = some res ∧ env = [(2, .d ((eL 1 eU8) v7)), (7, .ptr 704 0), (8, .d (eU64 ((BitVec.ofInt 64 (a2.length : Int)) <<< 56)))] ∧ mem = [(704, .var .mine [.d (eU64 v8), .d (eU64 v9), .d (eU64 v10), .d (eU64 v11)])]) (fun _ _ hI => ?_) (fun K12 hK12 => ?_)
  · obtain ⟨v7, v8, v9, v10, v11, h, rfl, rfl⟩ := hI
    unfold digestSumJ1 at h
    refine rwp_seq fun K13 hK13 => ?_
    refine rwp_region fun K14 hK14 => ?_
    refine st0 2304 rfl (ok (mv (.ptr 704 0))) ?_
    refine st0 2368 rfl (ok (mv (.d (eU64 ((BitVec.ofInt 64 (a2.length : Int)) <<< 56))))) ?_
    refine st0 2432 rfl (ok (mv (.d ((eL 1 eU8) v7)))) ?_
    obtain ⟨y15, h16, h⟩ := bind_inv h
    refine st0 2496 rfl (call_ok (v := .d (eU64 y15)) (u := []) (ar_d ((eL 1 eU8) v7) ar_nil) rfl (digestlittleOK v7 y15 h16) rfl) ?_
    refine st0 2560 rfl (ok (or64 _ _)) ?_
    obtain ⟨y17, h18, h⟩ := bind_inv h
    refine st1 2624 rfl (mem' := [(704, .var .mine [.d (eU64 y17.v0), .d (eU64 y17.v1), .d (eU64 y17.v2), .d (eU64 y17.v3)])]) (call_ok (v := .tup []) (u := [(704, .var .mine [.d (eU64 y17.v0), .d (eU64 y17.v1), .d (eU64 y17.v2), .d (eU64 y17.v3)])]) (ar_p rfl rfl (ds_d _ (ds_d _ (ds_d _ (ds_d _ ds_nil)))) (ar_d (eU64 (((BitVec.ofInt 64 (a2.length : Int)) <<< 56) ||| y15)) ar_nil)) rfl (digeststatewordOK (TDigeststate.mk v8 v9 v10 v11) (((BitVec.ofInt 64 (a2.length : Int)) <<< 56) ||| y15) y17 h18) rfl) rfl ?_
    refine hK14 _ _ ?_
    simp only [thenK, blockK, keepE, updM, List.filter_cons, List.filter_nil, List.nil_append, List.cons_append, List.map_cons, List.map_nil, envE, Mem.get, Nat.reduceEqDiff, reduceIte, Option.isNone_none, Option.isNone_some, Bool.false_eq_true, List.length_cons, List.length_nil, Nat.reduceAdd, Nat.reduceMul]
    refine hK13 _ _ _ ?_
    refine rwp_seq fun K19 hK19 => ?_
    refine rwp_region fun K20 hK20 => ?_
    refine st0 2688 rfl (ok (mv (.ptr 704 0))) ?_
    refine st0 2752 rfl (ok (chk_ptr _ _)) ?_
    refine st0 2816 rfl (ok (fa_k 2 rfl)) ?_
    refine st0 2880 rfl (ok (ld_v (v := .d (eU64 y17.v2)) rfl rfl rfl)) ?_
    refine st0 2944 rfl (ok (xor64 _ (255#64))) ?_
    refine st0 3008 rfl (ok (chk_ptr _ _)) ?_
    refine st0 3072 rfl (ok (fa_k 2 rfl)) ?_
    refine stn 3136 rfl (mem' := [(704, .var .mine [.d (eU64 y17.v0), .d (eU64 y17.v1), .d (eU64 (y17.v2 ^^^ (255#64))), .d (eU64 y17.v3)])]) (ok (sto_v (ps' := [.d (eU64 y17.v0), .d (eU64 y17.v1), .d (eU64 (y17.v2 ^^^ (255#64))), .d (eU64 y17.v3)]) rfl rfl rfl rfl)) rfl ?_
    refine hK20 _ _ ?_
    simp only [thenK, blockK, keepE, updM, List.filter_cons, List.filter_nil, List.nil_append, List.cons_append, List.map_cons, List.map_nil, envE, Mem.get, Nat.reduceEqDiff, reduceIte, Option.isNone_none, Option.isNone_some, Bool.false_eq_true, List.length_cons, List.length_nil, Nat.reduceAdd, Nat.reduceMul]
    refine hK19 _ _ _ ?_
    refine rwp_seq fun K21 hK21 => ?_
    refine rwp_region fun K22 hK22 => ?_
    refine st0 3200 rfl (ok (mv (.ptr 704 0))) ?_
    obtain ⟨y23, h24, h⟩ := bind_inv h
    refine st1 3264 rfl (mem' := [(704, .var .mine [.d (eU64 y23.v0), .d (eU64 y23.v1), .d (eU64 y23.v2), .d (eU64 y23.v3)])]) (call_ok (v := .tup []) (u := [(704, .var .mine [.d (eU64 y23.v0), .d (eU64 y23.v1), .d (eU64 y23.v2), .d (eU64 y23.v3)])]) (ar_p rfl rfl (ds_d _ (ds_d _ (ds_d _ (ds_d _ ds_nil)))) (ar_d (eI (4 : Int)) ar_nil)) rfl (digeststateroundOK (TDigeststate.mk y17.v0 y17.v1 (y17.v2 ^^^ (255#64)) y17.v3) (4 : Int) y23 h24) rfl) rfl ?_
    refine hK22 _ _ ?_
    simp only [thenK, blockK, keepE, updM, List.filter_cons, List.filter_nil, List.nil_append, List.cons_append, List.map_cons, List.map_nil, envE, Mem.get, Nat.reduceEqDiff, reduceIte, Option.isNone_none, Option.isNone_some, Bool.false_eq_true, List.length_cons, List.length_nil, Nat.reduceAdd, Nat.reduceMul]
    refine hK21 _ _ _ ?_
    refine rwp_seq fun K25 hK25 => ?_
    refine rwp_draw fun K26 hK26 => ?_
    refine dr0 3328 rfl (ok (mv (.ptr 704 0))) (by kernel_rfl) ?_
    refine dr0 3392 rfl (ok (chk_ptr _ _)) (by kernel_rfl) ?_
    refine dr0 3456 rfl (ok (fa_k 0 rfl)) (by kernel_rfl) ?_
    refine dr0 3520 rfl (ok (ld_v (v := .d (eU64 y23.v0)) rfl rfl rfl)) (by kernel_rfl) ?_
    refine dr0 3584 rfl (ok (mv (.ptr 704 0))) (by kernel_rfl) ?_
    refine dr0 3648 rfl (ok (chk_ptr _ _)) (by kernel_rfl) ?_
    refine dr0 3712 rfl (ok (fa_k 1 rfl)) (by kernel_rfl) ?_
    refine dr0 3776 rfl (ok (ld_v (v := .d (eU64 y23.v1)) rfl rfl rfl)) (by kernel_rfl) ?_
    refine dr0 3840 rfl (ok (xor64 _ _)) (by kernel_rfl) ?_
    refine dr0 3904 rfl (ok (mv (.ptr 704 0))) (by kernel_rfl) ?_
    refine dr0 3968 rfl (ok (chk_ptr _ _)) (by kernel_rfl) ?_
    refine dr0 4032 rfl (ok (fa_k 2 rfl)) (by kernel_rfl) ?_
    refine dr0 4096 rfl (ok (ld_v (v := .d (eU64 y23.v2)) rfl rfl rfl)) (by kernel_rfl) ?_
    refine dr0 4160 rfl (ok (xor64 _ _)) (by kernel_rfl) ?_
    refine dr0 4224 rfl (ok (mv (.ptr 704 0))) (by kernel_rfl) ?_
    refine dr0 4288 rfl (ok (chk_ptr _ _)) (by kernel_rfl) ?_
    refine dr0 4352 rfl (ok (fa_k 3 rfl)) (by kernel_rfl) ?_
    refine dr0 4416 rfl (ok (ld_v (v := .d (eU64 y23.v3)) rfl rfl rfl)) (by kernel_rfl) ?_
    refine dr0 4480 rfl (ok (xor64 _ _)) (by kernel_rfl) ?_
    refine dr0 4544 rfl (ok (mv (.d (eU64 (((y23.v0 ^^^ y23.v1) ^^^ y23.v2) ^^^ y23.v3))))) (by kernel_rfl) ?_
    refine hK26 _ _ ?_
    simp only [thenK, blockK, keepE, updM, List.filter_cons, List.filter_nil, List.nil_append, List.cons_append, List.map_cons, List.map_nil, envE, Mem.get, Nat.reduceEqDiff, reduceIte, Option.isNone_none, Option.isNone_some, Bool.false_eq_true, List.length_cons, List.length_nil, Nat.reduceAdd, Nat.reduceMul]
    refine hK25 _ _ _ ?_
    refine rwp_ret ?_
    obtain rfl := Option.some.inj h
    try simp only [thenK, blockK, reduceIte]
    exact Or.inl (end_ok trivial (rs_t (v := .d (eU64 (((y23.v0 ^^^ y23.v1) ^^^ y23.v2) ^^^ y23.v3))) rfl rs_nil) (en_d (to_d _) en_nil) ou_nil (by first | exact eok rfl rfl rfl rfl trivial | (refine eok ?_ ?_ ?_ ?_ ?_ <;> first | rfl | exact trivial | simp [retM, Mem.get, PV.renL, PV.ren, Blk.ren, comps, rhoR, rhoM, appN, PV.refsL, PV.refs, keys, nodupB, Blk.refs, allIn, Blk.bor])))
  · refine rwp_block fun K27 hK27 => ?_
    refine rwp_loop ([], []) 1984 (fun k env mem => ∃ (v28 : List (BitVec 8)) (v29 : BitVec 64) (v30 : BitVec 64) (v31 : BitVec 64) (v32 : BitVec 64), digestSumL2 a2 k v28 v29 v30 v31 v32 = some res ∧ env = [(2, .d ((eL 1 eU8) v28)), (7, .ptr 704 0), (8, .d (eU64 ((BitVec.ofInt 64 (a2.length : Int)) <<< 56)))] ∧ mem = [(704, .var .mine [.d (eU64 v29), .d (eU64 v30), .d (eU64 v31), .d (eU64 v32)])]) FUEL ⟨_, _, Settled.refl, _, _, ⟨_, _, _, _, _, h, rfl, rfl⟩, ⟨rfl, ⟨⟨rfl, rfl⟩, ⟨⟨rfl, rfl⟩, ⟨⟨rfl, rfl⟩, trivial⟩⟩⟩, ⟨⟨rfl, rfl⟩, trivial⟩⟩, rfl⟩ (fun k2 env1 mem1 hI K33 hK33 => ?_)
    obtain ⟨v28, v29, v30, v31, v32, h, rfl, rfl⟩ := hI
    cases k2 with
    | zero => simp [digestSumL2] at h
    | succ k2 =>
      rw [digestSumL2] at h
      refine rwp_seq fun K34 hK34 => ?_
      refine rwp_seq fun K35 hK35 => ?_
      refine rwp_region fun K36 hK36 => ?_
      refine st0 2048 rfl (ok (mv (.d ((eL 1 eU8) v28)))) ?_
      refine st0 2112 rfl (ok (lenL _ _)) ?_
      refine st0 2176 rfl (ok (geqI _ (8 : Int))) ?_
      refine hK36 _ _ ?_
      simp only [thenK, blockK, keepE, updM, List.filter_cons, List.filter_nil, List.nil_append, List.cons_append, List.map_cons, List.map_nil, envE, Mem.get, Nat.reduceEqDiff, reduceIte, Option.isNone_none, Option.isNone_some, Bool.false_eq_true, List.length_cons, List.length_nil, Nat.reduceAdd, Nat.reduceMul]
      refine hK35 _ _ _ ?_
      rcases Bool.eq_false_or_eq_true ((decide ((8 : Int) ≤ (v28.length : Int)))) with h37 | h37
      · replace h := ite_t h h37
        refine rwp_t (isT h37) ?_
        refine rwp_skip ?_
        refine hK34 _ _ _ ?_
        refine rwp_block fun K38 hK38 => ?_
        refine rwp_seq fun K39 hK39 => ?_
        refine rwp_region fun K40 hK40 => ?_
        refine st0 2240 rfl (ok (mv (.ptr 704 0))) ?_
        refine st0 2304 rfl (ok (mv (.d ((eL 1 eU8) v28)))) ?_
        obtain ⟨h41, h⟩ := asq_inv h
        refine st0 2368 rfl (ok (slL_h (xs := v28) (e := eU8) h41)) ?_
        obtain ⟨y42, h43, h⟩ := bind_inv h
        refine st0 2432 rfl (call_ok (v := .d (eU64 y42)) (u := []) (ar_d ((eL 1 eU8) (dropTake 0 (8 : Int).toNat v28)) ar_nil) rfl (digestlittleOK (dropTake 0 (8 : Int).toNat v28) y42 h43) rfl) ?_
        obtain ⟨y44, h45, h⟩ := bind_inv h
        refine st1 2496 rfl (mem' := [(704, .var .mine [.d (eU64 y44.v0), .d (eU64 y44.v1), .d (eU64 y44.v2), .d (eU64 y44.v3)])]) (call_ok (v := .tup []) (u := [(704, .var .mine [.d (eU64 y44.v0), .d (eU64 y44.v1), .d (eU64 y44.v2), .d (eU64 y44.v3)])]) (ar_p rfl rfl (ds_d _ (ds_d _ (ds_d _ (ds_d _ ds_nil)))) (ar_d (eU64 y42) ar_nil)) rfl (digeststatewordOK (TDigeststate.mk v29 v30 v31 v32) y42 y44 h45) rfl) rfl ?_
        refine hK40 _ _ ?_
        simp only [thenK, blockK, keepE, updM, List.filter_cons, List.filter_nil, List.nil_append, List.cons_append, List.map_cons, List.map_nil, envE, Mem.get, Nat.reduceEqDiff, reduceIte, Option.isNone_none, Option.isNone_some, Bool.false_eq_true, List.length_cons, List.length_nil, Nat.reduceAdd, Nat.reduceMul]
        refine hK39 _ _ _ ?_
        refine rwp_region fun K46 hK46 => ?_
        refine st0 2560 rfl (ok (mv (.d ((eL 1 eU8) v28)))) ?_
        obtain ⟨h47, h⟩ := asq_inv h
        refine st0 2624 rfl (ok (slL_l (xs := v28) (e := eU8) h47)) ?_
        refine st0 2688 rfl (ok (mv (.d ((eL 1 eU8) (dropTake (8 : Int).toNat v28.length v28))))) ?_
        refine hK46 _ _ ?_
        simp only [thenK, blockK, keepE, updM, List.filter_cons, List.filter_nil, List.nil_append, List.cons_append, List.map_cons, List.map_nil, envE, Mem.get, Nat.reduceEqDiff, reduceIte, Option.isNone_none, Option.isNone_some, Bool.false_eq_true, List.length_cons, List.length_nil, Nat.reduceAdd, Nat.reduceMul]
        refine hK38 _ _ _ ?_
        exact hK33.out _ _ _ k2 (Nat.lt_succ_self k2) ⟨_, _, Settled.refl, _, _, ⟨_, _, _, _, _, h, rfl, rfl⟩, ⟨rfl, ⟨⟨rfl, rfl⟩, ⟨⟨rfl, rfl⟩, ⟨⟨rfl, rfl⟩, trivial⟩⟩⟩, ⟨⟨rfl, rfl⟩, trivial⟩⟩, rfl⟩
      · replace h := ite_f h h37
        refine rwp_f (isF h37) ?_
        refine rwp_exit ?_
        refine hK27 _ _ _ ?_
        exact hK12 _ _ _ ⟨_, _, Settled.refl, _, _, ⟨_, _, _, _, _, h, rfl, rfl⟩, ⟨rfl, ⟨⟨rfl, rfl⟩, ⟨⟨rfl, rfl⟩, ⟨⟨rfl, rfl⟩, trivial⟩⟩⟩, ⟨⟨rfl, rfl⟩, trivial⟩⟩, rfl⟩

/-- passkey/digest.Mac -/
def digestMacH : Hints := ⟨[(0, [0, 1, 2]), (1, [6])], []⟩
def digestMacRc : RCode :=
  .seq (.region false [⟨some 6, .mv, [.k (.d (.int .u64 0))], none, []⟩] [0, 1, 2]) (.seq (.region false [⟨some 7, .mv, [.t 0], none, []⟩, ⟨some 8, .mv, [.t 1], none, []⟩, ⟨some 9,
  .cvt .u64, [.t 8], none, []⟩, ⟨some 10, .bin .add, [.k (.d (.int .u64 1)), .t 9], none, []⟩, ⟨some 11, .mv, [.t 2], none, []⟩, ⟨some 12, .call 28 false, [.t 7, .t 10, .t 11],
  none, []⟩, ⟨some 6, .mv, [.t 12], none, []⟩] [6]) .ret)
def digestMacRr : List RR := [.t 6]
theorem digestMacC : compFn Try.prog 20 digestMacH = some (digestMacRc, digestMacRr, 13) := by kernel_rfl
theorem digestMacOK (a0 : BitVec 64) (a1 : Int) (a2 : List (BitVec 8)) (res : BitVec 64) (h : digestMac a0 a1 a2 = some res) : CallOK Try.prog 20 [.d (eU64 a0), .d (eI a1), .d ((eL 1 eU8) a2)] [] (.d (eU64 res)) [] := by
  unfold digestMac at h
  refine callOK digestMacC fm rfl ?_
  simp only [initE, initM, nbor, List.map_cons, List.map_nil, Nat.reduceAdd]
  unfold digestMacRc
  refine rwp_seq fun K1 hK1 => ?_
  refine rwp_region fun K2 hK2 => ?_
  refine st0 128 rfl (ok (mv (.d (eU64 (0#64))))) ?_
  refine hK2 _ _ ?_
  simp only [thenK, blockK, keepE, updM, List.filter_cons, List.filter_nil, List.nil_append, List.cons_append, List.map_cons, List.map_nil, envE, Mem.get, Nat.reduceEqDiff, reduceIte, Option.isNone_none, Option.isNone_some, Bool.false_eq_true, List.length_cons, List.length_nil, Nat.reduceAdd, Nat.reduceMul]
  refine hK1 _ _ _ ?_
  refine rwp_seq fun K3 hK3 => ?_
  refine rwp_region fun K4 hK4 => ?_
  refine st0 192 rfl (ok (mv (.d (eU64 a0)))) ?_
  refine st0 256 rfl (ok (mv (.d (eI a1)))) ?_
  refine st0 320 rfl (ok (ofI64 _ a1)) ?_
  refine st0 384 rfl (ok (add64 (1#64) _)) ?_
  refine st0 448 rfl (ok (mv (.d ((eL 1 eU8) a2)))) ?_
  obtain ⟨y5, h6, h⟩ := bind_inv h
  refine st0 512 rfl (call_ok (v := .d (eU64 y5)) (u := []) (ar_d (eU64 a0) (ar_d (eU64 ((1#64) + (BitVec.ofInt 64 a1))) (ar_d ((eL 1 eU8) a2) ar_nil))) rfl (digestSumOK a0 ((1#64) + (BitVec.ofInt 64 a1)) a2 y5 h6) rfl) ?_
  refine st0 576 rfl (ok (mv (.d (eU64 y5)))) ?_
  refine hK4 _ _ ?_
  simp only [thenK, blockK, keepE, updM, List.filter_cons, List.filter_nil, List.nil_append, List.cons_append, List.map_cons, List.map_nil, envE, Mem.get, Nat.reduceEqDiff, reduceIte, Option.isNone_none, Option.isNone_some, Bool.false_eq_true, List.length_cons, List.length_nil, Nat.reduceAdd, Nat.reduceMul]
  refine hK3 _ _ _ ?_
  refine rwp_ret ?_
  obtain rfl := Option.some.inj h
  try simp only [thenK, blockK, reduceIte]
  exact Or.inl (end_ok trivial (rs_t (v := .d (eU64 y5)) rfl rs_nil) (en_d (to_d _) en_nil) ou_nil (by first | exact eok rfl rfl rfl rfl trivial | (refine eok ?_ ?_ ?_ ?_ ?_ <;> first | rfl | exact trivial | simp [retM, Mem.get, PV.renL, PV.ren, Blk.ren, comps, rhoR, rhoM, appN, PV.refsL, PV.refs, keys, nodupB, Blk.refs, allIn, Blk.bor])))

/-- passkey/seal.Stream -/
def sealStreamH : Hints := ⟨[(0, [0, 1, 2]), (1, [0, 1, 2]), (2, [0, 1, 2, 7]), (3, [0, 1, 2, 7, 8]), (4, [0, 1, 2, 7, 8, 15]), (6, [0, 1, 2, 7, 8]), (5, [0, 1, 2, 7, 8]), (7, [6])], []⟩
def sealStreamRc : RCode :=
  .seq (.region false [⟨some 6, .mv, [.k (.nil 1)], none, []⟩] [0, 1, 2]) (.seq (.region false [⟨some 9, .mv, [.t 2], none, []⟩, ⟨some 10, .mn, [.t 9, .k (.d (.int .i64 1024))],
  none, []⟩, ⟨some 11, .mx, [.k (.d (.int .i64 0)), .t 10], none, []⟩, ⟨some 2, .mv, [.t 11], none, []⟩] [0, 1, 2]) (.seq (.region false [⟨some 7, .mv, [.k (.nil 1)], none, []⟩]
  [0, 1, 2, 7]) (.seq (.seq (.region false [⟨some 8, .mv, [.k (.d (.int .u64 0))], none, []⟩] [0, 1, 2, 7, 8]) (.block 0 (.loop [] (.seq (.seq (.region false [⟨some 12, .mv, [.t
  7], none, []⟩, ⟨some 13, .len, [.t 12], none, []⟩, ⟨some 14, .mv, [.t 2], none, []⟩, ⟨some 15, .bin .lss, [.t 13, .t 14], none, []⟩] [0, 1, 2, 7, 8, 15]) (.cond (.t 15) .skip
  (.exit 0))) (.seq (.block 1 (.region false [⟨some 18, .mv, [.t 7], none, []⟩, ⟨some 19, .mv, [.t 0], none, []⟩, ⟨some 20, .mv, [.t 1], none, []⟩, ⟨some 21, .mv, [.t 8], none,
  []⟩, ⟨some 22, .bslice 1 false 2 [.d (.int .u64 0)] [0, 1], [.t 20, .t 21], none, []⟩, ⟨some 23, .call 19 true, [.t 22], none, []⟩, ⟨some 24, .call 20 false, [.t 19, .k (.d (.int
  .i64 5)), .t 23], none, []⟩, ⟨some 25, .bslice 1 false 1 [.d (.int .u64 0)] [0], [.t 24], none, []⟩, ⟨some 26, .call 19 true, [.t 25], none, []⟩, ⟨some 27, .app 1
  140737488355328, [.t 18, .t 26], none, []⟩, ⟨some 7, .mv, [.t 27], none, []⟩] [0, 1, 2, 7, 8])) (.region false [⟨some 16, .mv, [.t 8], none, []⟩, ⟨some 17, .bin .add, [.t 16, .k
  (.d (.int .u64 1))], none, []⟩, ⟨some 8, .mv, [.t 17], none, []⟩] [0, 1, 2, 7, 8])))))) (.seq (.region false [⟨some 28, .mv, [.t 7], none, []⟩, ⟨some 29, .mv, [.t 2], none, []⟩,
  ⟨some 30, .slice 1 false true false, [.t 28, .t 29], none, []⟩, ⟨some 6, .mv, [.t 30], none, []⟩] [6]) .ret))))
def sealStreamRr : List RR := [.t 6]
theorem sealStreamC : compFn Try.prog 9 sealStreamH = some (sealStreamRc, sealStreamRr, 31) := by kernel_rfl
theorem sealStreamOK (a0 : BitVec 64) (a1 : BitVec 64) (a2 : Int) (res : List (BitVec 8)) (h : sealStream a0 a1 a2 = some res) : CallOK Try.prog 9 [.d (eU64 a0), .d (eU64 a1), .d (eI a2)] [] (.d ((eL 1 eU8) res)) [] := by
  unfold sealStream at h
  refine callOK sealStreamC fm rfl ?_
  simp only [initE, initM, nbor, List.map_cons, List.map_nil, Nat.reduceAdd]
  unfold sealStreamRc
  refine rwp_seq fun K1 hK1 => ?_
  refine rwp_region fun K2 hK2 => ?_
  refine st0 128 rfl (ok (mv (.nil 1))) ?_
  refine hK2 _ _ ?_
  simp only [thenK, blockK, keepE, updM, List.filter_cons, List.filter_nil, List.nil_append, List.cons_append, List.map_cons, List.map_nil, envE, Mem.get, Nat.reduceEqDiff, reduceIte, Option.isNone_none, Option.isNone_some, Bool.false_eq_true, List.length_cons, List.length_nil, Nat.reduceAdd, Nat.reduceMul]
  refine hK1 _ _ _ ?_
  refine rwp_seq fun K3 hK3 => ?_
  refine rwp_region fun K4 hK4 => ?_
  refine st0 192 rfl (ok (mv (.d (eI a2)))) ?_
  refine st0 256 rfl (ok (minI _ (1024 : Int))) ?_
  obtain ⟨v5, h6, h⟩ := lett_inv h
  refine st0e 320 rfl (ok (maxI (0 : Int) _)) (congrArg (fun z => PV.d (eI z)) h6) ?_
  refine st0 384 rfl (ok (mv (.d (eI v5)))) ?_
  refine hK4 _ _ ?_
  simp only [thenK, blockK, keepE, updM, List.filter_cons, List.filter_nil, List.nil_append, List.cons_append, List.map_cons, List.map_nil, envE, Mem.get, Nat.reduceEqDiff, reduceIte, Option.isNone_none, Option.isNone_some, Bool.false_eq_true, List.length_cons, List.length_nil, Nat.reduceAdd, Nat.reduceMul]
  refine hK3 _ _ _ ?_
  refine rwp_seq fun K7 hK7 => ?_
  refine rwp_region fun K8 hK8 => ?_
  refine st0 448 rfl (ok (mv (.nil 1))) ?_
  refine hK8 _ _ ?_
  simp only [thenK, blockK, keepE, updM, List.filter_cons, List.filter_nil, List.nil_append, List.cons_append, List.map_cons, List.map_nil, envE, Mem.get, Nat.reduceEqDiff, reduceIte, Option.isNone_none, Option.isNone_some, Bool.false_eq_true, List.length_cons, List.length_nil, Nat.reduceAdd, Nat.reduceMul]
  refine hK7 _ _ _ ?_
  refine rwp_join ([], []) 2176 (fun env mem => ∃ (v9 : List (BitVec 8)), sealStreamJ1 v5 v9 = some res ∧ env = [(2, .d (eI v5)), (7, .ref 1793 v9.length 0 v9.length)] ∧ mem = [(1793, .row true 1 (v9.map eU8))]) (fun _ _ hI => ?_) (fun K10 hK10 => ?_)
  · obtain ⟨v9, h, rfl, rfl⟩ := hI
    unfold sealStreamJ1 at h
    refine rwp_seq fun K11 hK11 => ?_
    refine rwp_region fun K12 hK12 => ?_
    refine st0 2240 rfl (ok (mv (.ref 1793 v9.length 0 v9.length))) ?_
    refine st0 2304 rfl (ok (mv (.d (eI v5)))) ?_
    obtain ⟨h13, h⟩ := asq_inv h
    refine st0 2368 rfl (ok (slR_h (ys := v9.map eU8) rfl (by simp) h13)) ?_
    refine st0 2432 rfl (ok (mv (.ref 1793 v9.length (0 + 0) (v5.toNat - 0)))) ?_
    refine hK12 _ _ ?_
    simp only [thenK, blockK, keepE, updM, List.filter_cons, List.filter_nil, List.nil_append, List.cons_append, List.map_cons, List.map_nil, envE, Mem.get, Nat.reduceEqDiff, reduceIte, Option.isNone_none, Option.isNone_some, Bool.false_eq_true, List.length_cons, List.length_nil, Nat.reduceAdd, Nat.reduceMul]
    refine hK11 _ _ _ ?_
    refine rwp_ret ?_
    obtain rfl := Option.some.inj h
    try simp only [thenK, blockK, reduceIte]
    exact Or.inl (end_ok trivial (rs_t (v := .ref 1793 v9.length (0 + 0) (v5.toNat - 0)) rfl rs_nil) (en_d (to_1 rfl (ds_p (ys := v9) rfl rfl ds_nil)) en_nil) ou_nil (by first | exact eok rfl rfl rfl rfl trivial | (refine eok ?_ ?_ ?_ ?_ ?_ <;> first | rfl | exact trivial | simp [retM, Mem.get, PV.renL, PV.ren, Blk.ren, comps, rhoR, rhoM, appN, PV.refsL, PV.refs, keys, nodupB, Blk.refs, allIn, Blk.bor])))
  · refine rwp_seq fun K14 hK14 => ?_
    refine rwp_region fun K15 hK15 => ?_
    refine st0 512 rfl (ok (mv (.d (eU64 (0#64))))) ?_
    refine hK15 _ _ ?_
    simp only [thenK, blockK, keepE, updM, List.filter_cons, List.filter_nil, List.nil_append, List.cons_append, List.map_cons, List.map_nil, envE, Mem.get, Nat.reduceEqDiff, reduceIte, Option.isNone_none, Option.isNone_some, Bool.false_eq_true, List.length_cons, List.length_nil, Nat.reduceAdd, Nat.reduceMul]
    refine hK14 _ _ _ ?_
    refine rwp_block fun K16 hK16 => ?_
    refine rwp_loop ([(7, 1793)], []) 1856 (fun k env mem => ∃ (v17 : List (BitVec 8)) (v18 : BitVec 64), sealStreamL2 a0 a1 v5 k v17 v18 = some res ∧ env = [(0, .d (eU64 a0)), (1, .d (eU64 a1)), (2, .d (eI v5)), (7, .ref 1793 v17.length 0 v17.length), (8, .d (eU64 v18))] ∧ mem = [(1793, .row true 1 (v17.map eU8))]) FUEL ⟨_, _, Settled.refl, _, _, ⟨_, _, h, rfl, rfl⟩, ⟨rfl, ⟨⟨rfl, rfl⟩, ⟨⟨rfl, rfl⟩, ⟨⟨rfl, rfl⟩, ⟨⟨rfl, rfl⟩, ⟨⟨rfl, rfl⟩, trivial⟩⟩⟩⟩⟩, ⟨⟨rfl, rfl⟩, trivial⟩⟩, rfl⟩ (fun k2 env1 mem1 hI K19 hK19 => ?_)
    obtain ⟨v17, v18, h, rfl, rfl⟩ := hI
    cases k2 with
    | zero => simp [sealStreamL2] at h
    | succ k2 =>
      rw [sealStreamL2] at h
      refine rwp_seq fun K20 hK20 => ?_
      refine rwp_seq fun K21 hK21 => ?_
      refine rwp_region fun K22 hK22 => ?_
      refine st0 1920 rfl (ok (mv (.ref 1793 v17.length 0 v17.length))) ?_
      refine st0 1984 rfl (ok (lenR _ _ _ _)) ?_
      refine st0 2048 rfl (ok (mv (.d (eI v5)))) ?_
      refine st0 2112 rfl (ok (lssI _ _)) ?_
      refine hK22 _ _ ?_
      simp only [thenK, blockK, keepE, updM, List.filter_cons, List.filter_nil, List.nil_append, List.cons_append, List.map_cons, List.map_nil, envE, Mem.get, Nat.reduceEqDiff, reduceIte, Option.isNone_none, Option.isNone_some, Bool.false_eq_true, List.length_cons, List.length_nil, Nat.reduceAdd, Nat.reduceMul]
      refine hK21 _ _ _ ?_
      rcases Bool.eq_false_or_eq_true ((decide ((v17.length : Int) < v5))) with h23 | h23
      · replace h := ite_t h h23
        refine rwp_t (isT h23) ?_
        refine rwp_skip ?_
        refine hK20 _ _ _ ?_
        refine rwp_seq fun K24 hK24 => ?_
        refine rwp_block fun K25 hK25 => ?_
        refine rwp_region fun K26 hK26 => ?_
        refine st0 2176 rfl (ok (mv (.ref 1793 v17.length 0 v17.length))) ?_
        refine st0 2240 rfl (ok (mv (.d (eU64 a0)))) ?_
        refine st0 2304 rfl (ok (mv (.d (eU64 a1)))) ?_
        refine st0 2368 rfl (ok (mv (.d (eU64 v18)))) ?_
        refine st1 2432 rfl (mem' := [(2368, .row true 1 (([a1, v18] : List (BitVec 64)).map eU64)), (1793, .row true 1 (v17.map eU8))]) (ok (bsl (e := eU64) (ys := ([a1, v18] : List (BitVec 64))) rfl rfl rfl)) rfl ?_
        obtain ⟨y27, h28, h⟩ := bind_inv h
        refine st1 2496 rfl (mem' := [(2432, .row true 1 (y27.map eU8)), (2368, .row false 1 (([a1, v18] : List (BitVec 64)).map eU64)), (1793, .row true 1 (v17.map eU8))]) (call_ok (v := .ref 2432 y27.length 0 y27.length) (u := [(2432, .row true 1 (y27.map eU8)), (2368, .row false 1 (([a1, v18] : List (BitVec 64)).map eU64))]) (ar_to rfl (to_1 rfl (ds_r (ys := ([a1, v18] : List (BitVec 64))) rfl rfl rfl ds_nil)) ar_nil) rfl (digestWordsOK ([a1, v18] : List (BitVec 64)) y27 h28) rfl) rfl ?_
        obtain ⟨y29, h30, h⟩ := bind_inv h
        refine st0 2560 rfl (call_ok (v := .d (eU64 y29)) (u := []) (ar_d (eU64 a0) (ar_d (eI (5 : Int)) (ar_to rfl (to_1 rfl (ds_r (ys := y27) rfl rfl rfl ds_nil)) ar_nil))) rfl (digestMacOK a0 (5 : Int) y27 y29 h30) rfl) ?_
        refine st1 2624 rfl (mem' := [(2560, .row true 1 (([y29] : List (BitVec 64)).map eU64)), (2432, .row true 1 (y27.map eU8)), (2368, .row false 1 (([a1, v18] : List (BitVec 64)).map eU64)), (1793, .row true 1 (v17.map eU8))]) (ok (bsl (e := eU64) (ys := ([y29] : List (BitVec 64))) rfl rfl rfl)) rfl ?_
        obtain ⟨y31, h32, h⟩ := bind_inv h
        refine st1 2688 rfl (mem' := [(2624, .row true 1 (y31.map eU8)), (2560, .row false 1 (([y29] : List (BitVec 64)).map eU64)), (2432, .row true 1 (y27.map eU8)), (2368, .row false 1 (([a1, v18] : List (BitVec 64)).map eU64)), (1793, .row true 1 (v17.map eU8))]) (call_ok (v := .ref 2624 y31.length 0 y31.length) (u := [(2624, .row true 1 (y31.map eU8)), (2560, .row false 1 (([y29] : List (BitVec 64)).map eU64))]) (ar_to rfl (to_1 rfl (ds_r (ys := ([y29] : List (BitVec 64))) rfl rfl rfl ds_nil)) ar_nil) rfl (digestWordsOK ([y29] : List (BitVec 64)) y31 h32) rfl) rfl ?_
        obtain ⟨h33, h⟩ := asq_inv h
        refine st1 2752 rfl (mem' := [(1793, .row true 1 ((v17 ++ y31).map eU8)), (2624, .row true 1 (y31.map eU8)), (2560, .row false 1 (([y29] : List (BitVec 64)).map eU64)), (2432, .row true 1 (y27.map eU8)), (2368, .row false 1 (([a1, v18] : List (BitVec 64)).map eU64))]) (ok (appR (e := eU8) (xs := v17) (ys := y31) (contR (xs := y31) rfl rfl rfl) rfl rfl rfl h33)) rfl ?_
        refine st0 2816 rfl (ok (mv (.ref 1793 (((v17 ++ y31)).length) 0 (((v17 ++ y31)).length)))) ?_
        refine hK26 _ _ ?_
        simp only [thenK, blockK, keepE, updM, List.filter_cons, List.filter_nil, List.nil_append, List.cons_append, List.map_cons, List.map_nil, envE, Mem.get, Nat.reduceEqDiff, reduceIte, Option.isNone_none, Option.isNone_some, Bool.false_eq_true, List.length_cons, List.length_nil, Nat.reduceAdd, Nat.reduceMul]
        refine hK25 _ _ _ ?_
        refine hK24 _ _ _ ?_
        refine rwp_region fun K34 hK34 => ?_
        refine st0 2880 rfl (ok (mv (.d (eU64 v18)))) ?_
        refine st0 2944 rfl (ok (add64 _ (1#64))) ?_
        refine st0 3008 rfl (ok (mv (.d (eU64 (v18 + (1#64)))))) ?_
        refine hK34 _ _ ?_
        simp only [thenK, blockK, keepE, updM, List.filter_cons, List.filter_nil, List.nil_append, List.cons_append, List.map_cons, List.map_nil, envE, Mem.get, Nat.reduceEqDiff, reduceIte, Option.isNone_none, Option.isNone_some, Bool.false_eq_true, List.length_cons, List.length_nil, Nat.reduceAdd, Nat.reduceMul]
        exact hK19.out _ _ _ k2 (Nat.lt_succ_self k2) ⟨_, _, Settled.refl, _, _, ⟨_, _, h, rfl, rfl⟩, ⟨rfl, ⟨⟨rfl, rfl⟩, ⟨⟨rfl, rfl⟩, ⟨⟨rfl, rfl⟩, ⟨⟨rfl, rfl⟩, ⟨⟨rfl, rfl⟩, trivial⟩⟩⟩⟩⟩, ⟨⟨rfl, rfl⟩, trivial⟩⟩, rfl⟩
      · replace h := ite_f h h23
        refine rwp_f (isF h23) ?_
        refine rwp_exit ?_
        refine hK16 _ _ _ ?_
        exact hK10 _ _ _ ⟨_, _, Settled.refl, _, _, ⟨_, h, rfl, rfl⟩, ⟨rfl, ⟨⟨rfl, rfl⟩, ⟨⟨rfl, rfl⟩, trivial⟩⟩, ⟨⟨rfl, rfl⟩, trivial⟩⟩, rfl⟩

/-- passkey/passkeyref1.Words -/
def passkeyref1WordsH : Hints := ⟨[(0, [0]), (1, [0, 3]), (2, [0, 3, 4]), (3, [0, 3, 4, 9]), (5, [0, 3, 4, 5]), (6, [0, 3, 4, 5, 13]), (8, [0, 3, 4, 5]), (7, [0, 3, 4, 5]), (4, [0, 3, 4]), (9, [2])], []⟩
def passkeyref1WordsRc : RCode :=
  .seq (.region false [⟨some 2, .mv, [.k (.nil 1)], none, []⟩] [0]) (.seq (.region false [⟨some 3, .mv, [.k (.nil 1)], none, []⟩] [0, 3]) (.seq (.seq (.region false [⟨some 4, .mv,
  [.k (.d (.int .i64 0))], none, []⟩] [0, 3, 4]) (.block 0 (.loop [] (.seq (.seq (.region false [⟨some 6, .mv, [.t 4], none, []⟩, ⟨some 7, .mv, [.t 0], none, []⟩, ⟨some 8, .len,
  [.t 7], none, []⟩, ⟨some 9, .bin .lss, [.t 6, .t 8], none, []⟩] [0, 3, 4, 9]) (.cond (.t 9) .skip (.exit 0))) (.seq (.block 1 (.seq (.region false [⟨some 5, .mv, [.k (.d (.int
  .i64 7))], none, []⟩] [0, 3, 4, 5]) (.block 2 (.loop [] (.seq (.seq (.region false [⟨some 12, .mv, [.t 5], none, []⟩, ⟨some 13, .bin .geq, [.t 12, .k (.d (.int .i64 0))], none,
  []⟩] [0, 3, 4, 5, 13]) (.cond (.t 13) .skip (.exit 2))) (.seq (.block 3 (.region false [⟨some 16, .mv, [.t 3], none, []⟩, ⟨some 17, .mv, [.t 0], none, []⟩, ⟨some 18, .mv, [.t 4],
  none, []⟩, ⟨some 19, .ia 1, [.t 17, .t 18], none, []⟩, ⟨some 20, .load 1 false, [.t 19], none, []⟩, ⟨some 21, .mv, [.t 5], none, []⟩, ⟨some 22, .bin .mul, [.k (.d (.int .i64 8)),
  .t 21], none, []⟩, ⟨some 23, .cvt .u64, [.t 22], none, []⟩, ⟨some 24, .bin .shr, [.t 20, .t 23], none, []⟩, ⟨some 25, .cvt .u8, [.t 24], none, []⟩, ⟨some 26, .bslice 1 false 1
  [.d (.int .u8 0)] [0], [.t 25], none, []⟩, ⟨some 27, .app 1 140737488355328, [.t 16, .t 26], none, []⟩, ⟨some 3, .mv, [.t 27], none, []⟩] [0, 3, 4, 5])) (.region false [⟨some 14,
  .mv, [.t 5], none, []⟩, ⟨some 15, .bin .sub, [.t 14, .k (.d (.int .i64 1))], none, []⟩, ⟨some 5, .mv, [.t 15], none, []⟩] [0, 3, 4, 5]))))))) (.region false [⟨some 10, .mv, [.t
  4], none, []⟩, ⟨some 11, .bin .add, [.t 10, .k (.d (.int .i64 1))], none, []⟩, ⟨some 4, .mv, [.t 11], none, []⟩] [0, 3, 4])))))) (.seq (.region false [⟨some 28, .mv, [.t 3],
  none, []⟩, ⟨some 2, .mv, [.t 28], none, []⟩] [2]) .ret)))
def passkeyref1WordsRr : List RR := [.t 2]
theorem passkeyref1WordsC : compFn Try.prog 21 passkeyref1WordsH = some (passkeyref1WordsRc, passkeyref1WordsRr, 29) := by kernel_rfl
theorem passkeyref1WordsOK (a0 : List (BitVec 64)) (res : List (BitVec 8)) (h : passkeyref1Words a0 = some res) : CallOK Try.prog 21 [.d ((eL 1 eU64) a0)] [] (.ref 0 res.length 0 res.length) [(0, .row true 1 (res.map eU8))] := by
  unfold passkeyref1Words at h
  refine callOK passkeyref1WordsC fm rfl ?_
  simp only [initE, initM, nbor, List.map_cons, List.map_nil, Nat.reduceAdd]
  unfold passkeyref1WordsRc
  refine rwp_seq fun K1 hK1 => ?_
  refine rwp_region fun K2 hK2 => ?_
  refine st0 128 rfl (ok (mv (.nil 1))) ?_
  refine hK2 _ _ ?_
  simp only [thenK, blockK, keepE, updM, List.filter_cons, List.filter_nil, List.nil_append, List.cons_append, List.map_cons, List.map_nil, envE, Mem.get, Nat.reduceEqDiff, reduceIte, Option.isNone_none, Option.isNone_some, Bool.false_eq_true, List.length_cons, List.length_nil, Nat.reduceAdd, Nat.reduceMul]
  refine hK1 _ _ _ ?_
  refine rwp_seq fun K3 hK3 => ?_
  refine rwp_region fun K4 hK4 => ?_
  refine st0 192 rfl (ok (mv (.nil 1))) ?_
  refine hK4 _ _ ?_
  simp only [thenK, blockK, keepE, updM, List.filter_cons, List.filter_nil, List.nil_append, List.cons_append, List.map_cons, List.map_nil, envE, Mem.get, Nat.reduceEqDiff, reduceIte, Option.isNone_none, Option.isNone_some, Bool.false_eq_true, List.length_cons, List.length_nil, Nat.reduceAdd, Nat.reduceMul]
  refine hK3 _ _ _ ?_
  refine rwp_join ([], []) 2816 (fun env mem => ∃ (v5 : List (BitVec 8)), passkeyref1WordsJ1 v5 = some res ∧ env = [(3, .ref 2433 v5.length 0 v5.length)] ∧ mem = [(2433, .row true 1 (v5.map eU8))]) (fun _ _ hI => ?_) (fun K6 hK6 => ?_)
  · obtain ⟨v5, h, rfl, rfl⟩ := hI
    unfold passkeyref1WordsJ1 at h
    refine rwp_seq fun K7 hK7 => ?_
    refine rwp_region fun K8 hK8 => ?_
    refine st0 2880 rfl (ok (mv (.ref 2433 v5.length 0 v5.length))) ?_
    refine st0 2944 rfl (ok (mv (.ref 2433 v5.length 0 v5.length))) ?_
    refine hK8 _ _ ?_
    simp only [thenK, blockK, keepE, updM, List.filter_cons, List.filter_nil, List.nil_append, List.cons_append, List.map_cons, List.map_nil, envE, Mem.get, Nat.reduceEqDiff, reduceIte, Option.isNone_none, Option.isNone_some, Bool.false_eq_true, List.length_cons, List.length_nil, Nat.reduceAdd, Nat.reduceMul]
    refine hK7 _ _ _ ?_
    refine rwp_ret ?_
    obtain rfl := Option.some.inj h
    try simp only [thenK, blockK, reduceIte]
    exact Or.inl (end_ok trivial (rs_t (v := .ref 2433 v5.length 0 v5.length) rfl rs_nil) (en_ref en_nil) ou_nil (by first | exact eok rfl rfl rfl rfl (And.intro (And.intro rfl rfl) trivial) | (refine eok ?_ ?_ ?_ ?_ ?_ <;> first | rfl | exact (And.intro (And.intro rfl rfl) trivial) | simp [retM, Mem.get, PV.renL, PV.ren, Blk.ren, comps, rhoR, rhoM, appN, PV.refsL, PV.refs, keys, nodupB, Blk.refs, allIn, Blk.bor])))
  · refine rwp_seq fun K9 hK9 => ?_
    refine rwp_region fun K10 hK10 => ?_
    refine st0 256 rfl (ok (mv (.d (eI (0 : Int))))) ?_
    refine hK10 _ _ ?_
    simp only [thenK, blockK, keepE, updM, List.filter_cons, List.filter_nil, List.nil_append, List.cons_append, List.map_cons, List.map_nil, envE, Mem.get, Nat.reduceEqDiff, reduceIte, Option.isNone_none, Option.isNone_some, Bool.false_eq_true, List.length_cons, List.length_nil, Nat.reduceAdd, Nat.reduceMul]
    refine hK9 _ _ _ ?_
    refine rwp_block fun K11 hK11 => ?_
    refine rwp_loop ([(3, 2433)], []) 2496 (fun k env mem => ∃ (v12 : List (BitVec 8)) (v13 : Int), passkeyref1WordsL2 a0 k v12 v13 = some res ∧ env = [(0, .d ((eL 1 eU64) a0)), (3, .ref 2433 v12.length 0 v12.length), (4, .d (eI v13))] ∧ mem = [(2433, .row true 1 (v12.map eU8))]) FUEL ⟨_, _, Settled.refl, _, _, ⟨_, _, h, rfl, rfl⟩, ⟨rfl, ⟨⟨rfl, rfl⟩, ⟨⟨rfl, rfl⟩, ⟨⟨rfl, rfl⟩, trivial⟩⟩⟩, ⟨⟨rfl, rfl⟩, trivial⟩⟩, rfl⟩ (fun k2 env1 mem1 hI K14 hK14 => ?_)
    obtain ⟨v12, v13, h, rfl, rfl⟩ := hI
    cases k2 with
    | zero => simp [passkeyref1WordsL2] at h
    | succ k2 =>
      rw [passkeyref1WordsL2] at h
      refine rwp_seq fun K15 hK15 => ?_
      refine rwp_seq fun K16 hK16 => ?_
      refine rwp_region fun K17 hK17 => ?_
      refine st0 2560 rfl (ok (mv (.d (eI v13)))) ?_
      refine st0 2624 rfl (ok (mv (.d ((eL 1 eU64) a0)))) ?_
      refine st0 2688 rfl (ok (lenL _ _)) ?_
      refine st0 2752 rfl (ok (lssI _ _)) ?_
      refine hK17 _ _ ?_
      simp only [thenK, blockK, keepE, updM, List.filter_cons, List.filter_nil, List.nil_append, List.cons_append, List.map_cons, List.map_nil, envE, Mem.get, Nat.reduceEqDiff, reduceIte, Option.isNone_none, Option.isNone_some, Bool.false_eq_true, List.length_cons, List.length_nil, Nat.reduceAdd, Nat.reduceMul]
      refine hK16 _ _ _ ?_
      rcases Bool.eq_false_or_eq_true ((decide (v13 < (a0.length : Int)))) with h18 | h18
      · replace h := ite_t h h18
        refine rwp_t (isT h18) ?_
        refine rwp_skip ?_
        refine hK15 _ _ _ ?_
        refine rwp_join ([], []) 4288 (fun env mem => ∃ (v19 : List (BitVec 8)), passkeyref1WordsJ3 (passkeyref1WordsL2 a0 k2) v13 v19 = some res ∧ env = [(0, .d ((eL 1 eU64) a0)), (3, .ref 2433 v19.length 0 v19.length), (4, .d (eI v13))] ∧ mem = [(2433, .row true 1 (v19.map eU8))]) (fun _ _ hI => ?_) (fun K20 hK20 => ?_)
        · obtain ⟨v19, h, rfl, rfl⟩ := hI
          unfold passkeyref1WordsJ3 at h
          refine rwp_region fun K21 hK21 => ?_
          refine st0 4352 rfl (ok (mv (.d (eI v13)))) ?_
          refine st0 4416 rfl (ok (addI _ (1 : Int))) ?_
          refine st0 4480 rfl (ok (mv (.d (eI (w64 (v13 + (1 : Int))))))) ?_
          refine hK21 _ _ ?_
          simp only [thenK, blockK, keepE, updM, List.filter_cons, List.filter_nil, List.nil_append, List.cons_append, List.map_cons, List.map_nil, envE, Mem.get, Nat.reduceEqDiff, reduceIte, Option.isNone_none, Option.isNone_some, Bool.false_eq_true, List.length_cons, List.length_nil, Nat.reduceAdd, Nat.reduceMul]
          exact hK14.out _ _ _ k2 (Nat.lt_succ_self k2) ⟨_, _, Settled.refl, _, _, ⟨_, _, h, rfl, rfl⟩, ⟨rfl, ⟨⟨rfl, rfl⟩, ⟨⟨rfl, rfl⟩, ⟨⟨rfl, rfl⟩, trivial⟩⟩⟩, ⟨⟨rfl, rfl⟩, trivial⟩⟩, rfl⟩
        · refine rwp_block fun K22 hK22 => ?_
          refine rwp_seq fun K23 hK23 => ?_
          refine rwp_region fun K24 hK24 => ?_
          refine st0 2816 rfl (ok (mv (.d (eI (7 : Int))))) ?_
          refine hK24 _ _ ?_
          simp only [thenK, blockK, keepE, updM, List.filter_cons, List.filter_nil, List.nil_append, List.cons_append, List.map_cons, List.map_nil, envE, Mem.get, Nat.reduceEqDiff, reduceIte, Option.isNone_none, Option.isNone_some, Bool.false_eq_true, List.length_cons, List.length_nil, Nat.reduceAdd, Nat.reduceMul]
          refine hK23 _ _ _ ?_
          refine rwp_block fun K25 hK25 => ?_
          refine rwp_loop ([], []) 4096 (fun k env mem => ∃ (v26 : List (BitVec 8)) (v27 : Int), passkeyref1WordsL4 (passkeyref1WordsL2 a0 k2) a0 v13 k v26 v27 = some res ∧ env = [(0, .d ((eL 1 eU64) a0)), (3, .ref 2433 v26.length 0 v26.length), (4, .d (eI v13)), (5, .d (eI v27))] ∧ mem = [(2433, .row true 1 (v26.map eU8))]) FUEL ⟨_, _, Settled.refl, _, _, ⟨_, _, h, rfl, rfl⟩, ⟨rfl, ⟨⟨rfl, rfl⟩, ⟨⟨rfl, rfl⟩, ⟨⟨rfl, rfl⟩, ⟨⟨rfl, rfl⟩, trivial⟩⟩⟩⟩, ⟨⟨rfl, rfl⟩, trivial⟩⟩, rfl⟩ (fun k4 env1 mem1 hI K28 hK28 => ?_)
          obtain ⟨v26, v27, h, rfl, rfl⟩ := hI
          cases k4 with
          | zero => simp [passkeyref1WordsL4] at h
          | succ k4 =>
            rw [passkeyref1WordsL4] at h
            refine rwp_seq fun K29 hK29 => ?_
            refine rwp_seq fun K30 hK30 => ?_
            refine rwp_region fun K31 hK31 => ?_
            refine st0 4160 rfl (ok (mv (.d (eI v27)))) ?_
            refine st0 4224 rfl (ok (geqI _ (0 : Int))) ?_
            refine hK31 _ _ ?_
            simp only [thenK, blockK, keepE, updM, List.filter_cons, List.filter_nil, List.nil_append, List.cons_append, List.map_cons, List.map_nil, envE, Mem.get, Nat.reduceEqDiff, reduceIte, Option.isNone_none, Option.isNone_some, Bool.false_eq_true, List.length_cons, List.length_nil, Nat.reduceAdd, Nat.reduceMul]
            refine hK30 _ _ _ ?_
            rcases Bool.eq_false_or_eq_true ((decide ((0 : Int) ≤ v27))) with h32 | h32
            · replace h := ite_t h h32
              refine rwp_t (isT h32) ?_
              refine rwp_skip ?_
              refine hK29 _ _ _ ?_
              refine rwp_seq fun K33 hK33 => ?_
              refine rwp_block fun K34 hK34 => ?_
              refine rwp_region fun K35 hK35 => ?_
              refine st0 4288 rfl (ok (mv (.ref 2433 v26.length 0 v26.length))) ?_
              refine st0 4352 rfl (ok (mv (.d ((eL 1 eU64) a0)))) ?_
              refine st0 4416 rfl (ok (mv (.d (eI v13)))) ?_
              obtain ⟨h36, h⟩ := asq_inv h
              refine st0 4480 rfl (ok (iaL (e := eU64) (xs := a0) 0#64 h36)) ?_
              refine st0 4544 rfl (ok (ld_i (v := eU64 (a0.getD v13.toNat 0#64)) rfl rfl)) ?_
              refine st0 4608 rfl (ok (mv (.d (eI v27)))) ?_
              refine st0 4672 rfl (ok (mulI (8 : Int) _)) ?_
              refine st0 4736 rfl (ok (ofI64 _ (w64 ((8 : Int) * v27)))) ?_
              obtain ⟨v37, h38, h⟩ := lett_inv h
              refine st0e 4800 rfl (ok (shr64_64 _ _)) (congrArg (fun z => PV.d (eU64 z)) h38) ?_
              refine st0 4864 rfl (ok (cvt64_8 _)) ?_
              refine st1 4928 rfl (mem' := [(4864, .row true 1 (([(v37.setWidth 8)] : List (BitVec 8)).map eU8)), (2433, .row true 1 (v26.map eU8))]) (ok (bsl (e := eU8) (ys := ([(v37.setWidth 8)] : List (BitVec 8))) rfl rfl rfl)) rfl ?_
              obtain ⟨h39, h⟩ := asq_inv h
              refine st1 4992 rfl (mem' := [(2433, .row true 1 ((v26 ++ ([(v37.setWidth 8)] : List (BitVec 8))).map eU8)), (4864, .row true 1 (([(v37.setWidth 8)] : List (BitVec 8)).map eU8))]) (ok (appR (e := eU8) (xs := v26) (ys := ([(v37.setWidth 8)] : List (BitVec 8))) (contR (xs := ([(v37.setWidth 8)] : List (BitVec 8))) rfl rfl rfl) rfl rfl rfl h39)) rfl ?_
              refine st0 5056 rfl (ok (mv (.ref 2433 (((v26 ++ ([(v37.setWidth 8)] : List (BitVec 8)))).length) 0 (((v26 ++ ([(v37.setWidth 8)] : List (BitVec 8)))).length)))) ?_
              refine hK35 _ _ ?_
              simp only [thenK, blockK, keepE, updM, List.filter_cons, List.filter_nil, List.nil_append, List.cons_append, List.map_cons, List.map_nil, envE, Mem.get, Nat.reduceEqDiff, reduceIte, Option.isNone_none, Option.isNone_some, Bool.false_eq_true, List.length_cons, List.length_nil, Nat.reduceAdd, Nat.reduceMul]
              refine hK34 _ _ _ ?_
              refine hK33 _ _ _ ?_
              refine rwp_region fun K40 hK40 => ?_
              refine st0 5120 rfl (ok (mv (.d (eI v27)))) ?_
              refine st0 5184 rfl (ok (subI _ (1 : Int))) ?_
              refine st0 5248 rfl (ok (mv (.d (eI (w64 (v27 - (1 : Int))))))) ?_
              refine hK40 _ _ ?_
              simp only [thenK, blockK, keepE, updM, List.filter_cons, List.filter_nil, List.nil_append, List.cons_append, List.map_cons, List.map_nil, envE, Mem.get, Nat.reduceEqDiff, reduceIte, Option.isNone_none, Option.isNone_some, Bool.false_eq_true, List.length_cons, List.length_nil, Nat.reduceAdd, Nat.reduceMul]
              exact hK28.out _ _ _ k4 (Nat.lt_succ_self k4) ⟨_, _, Settled.refl, _, _, ⟨_, _, h, rfl, rfl⟩, ⟨rfl, ⟨⟨rfl, rfl⟩, ⟨⟨rfl, rfl⟩, ⟨⟨rfl, rfl⟩, ⟨⟨rfl, rfl⟩, trivial⟩⟩⟩⟩, ⟨⟨rfl, rfl⟩, trivial⟩⟩, rfl⟩
            · replace h := ite_f h h32
              refine rwp_f (isF h32) ?_
              refine rwp_exit ?_
              refine hK25 _ _ _ ?_
              refine hK22 _ _ _ ?_
              exact hK20 _ _ _ ⟨_, _, Settled.refl, _, _, ⟨_, h, rfl, rfl⟩, ⟨rfl, ⟨⟨rfl, rfl⟩, ⟨⟨rfl, rfl⟩, ⟨⟨rfl, rfl⟩, trivial⟩⟩⟩, ⟨⟨rfl, rfl⟩, trivial⟩⟩, rfl⟩
      · replace h := ite_f h h18
        refine rwp_f (isF h18) ?_
        refine rwp_exit ?_
        refine hK11 _ _ _ ?_
        exact hK6 _ _ _ ⟨_, _, Settled.refl, _, _, ⟨_, h, rfl, rfl⟩, ⟨rfl, ⟨⟨rfl, rfl⟩, trivial⟩, ⟨⟨rfl, rfl⟩, trivial⟩⟩, rfl⟩

/-- passkey/passkeyref1.rotl -/
def passkeyref1rotlH : Hints := ⟨[(0, [0, 1]), (1, [4])], []⟩
def passkeyref1rotlRc : RCode :=
  .seq (.region false [⟨some 4, .mv, [.k (.d (.int .u64 0))], none, []⟩] [0, 1]) (.seq (.region false [⟨some 5, .mv, [.t 0], none, []⟩, ⟨some 6, .mv, [.t 1], none, []⟩, ⟨some 7, .bin
  .shl, [.t 5, .t 6], none, []⟩, ⟨some 8, .mv, [.t 0], none, []⟩, ⟨some 9, .mv, [.t 1], none, []⟩, ⟨some 10, .bin .sub, [.k (.d (.int .u64 64)), .t 9], none, []⟩, ⟨some 11, .bin
  .shr, [.t 8, .t 10], none, []⟩, ⟨some 12, .bin .or, [.t 7, .t 11], none, []⟩, ⟨some 4, .mv, [.t 12], none, []⟩] [4]) .ret)
def passkeyref1rotlRr : List RR := [.t 4]
theorem passkeyref1rotlC : compFn Try.prog 35 passkeyref1rotlH = some (passkeyref1rotlRc, passkeyref1rotlRr, 13) := by kernel_rfl
theorem passkeyref1rotlOK (a0 : BitVec 64) (a1 : BitVec 64) (res : BitVec 64) (h : passkeyref1rotl a0 a1 = some res) : CallOK Try.prog 35 [.d (eU64 a0), .d (eU64 a1)] [] (.d (eU64 res)) [] := by
  unfold passkeyref1rotl at h
  refine callOK passkeyref1rotlC fm rfl ?_
  simp only [initE, initM, nbor, List.map_cons, List.map_nil, Nat.reduceAdd]
  unfold passkeyref1rotlRc
  refine rwp_seq fun K1 hK1 => ?_
  refine rwp_region fun K2 hK2 => ?_
  refine st0 128 rfl (ok (mv (.d (eU64 (0#64))))) ?_
  refine hK2 _ _ ?_
  simp only [thenK, blockK, keepE, updM, List.filter_cons, List.filter_nil, List.nil_append, List.cons_append, List.map_cons, List.map_nil, envE, Mem.get, Nat.reduceEqDiff, reduceIte, Option.isNone_none, Option.isNone_some, Bool.false_eq_true, List.length_cons, List.length_nil, Nat.reduceAdd, Nat.reduceMul]
  refine hK1 _ _ _ ?_
  refine rwp_seq fun K3 hK3 => ?_
  refine rwp_region fun K4 hK4 => ?_
  refine st0 192 rfl (ok (mv (.d (eU64 a0)))) ?_
  refine st0 256 rfl (ok (mv (.d (eU64 a1)))) ?_
  refine st0 320 rfl (ok (shl64_64 _ _)) ?_
  refine st0 384 rfl (ok (mv (.d (eU64 a0)))) ?_
  refine st0 448 rfl (ok (mv (.d (eU64 a1)))) ?_
  refine st0 512 rfl (ok (sub64 (64#64) _)) ?_
  refine st0 576 rfl (ok (shr64_64 _ _)) ?_
  refine st0 640 rfl (ok (or64 _ _)) ?_
  refine st0 704 rfl (ok (mv (.d (eU64 ((a0 <<< a1.toNat) ||| (a0 >>> ((64#64) - a1).toNat)))))) ?_
  refine hK4 _ _ ?_
  simp only [thenK, blockK, keepE, updM, List.filter_cons, List.filter_nil, List.nil_append, List.cons_append, List.map_cons, List.map_nil, envE, Mem.get, Nat.reduceEqDiff, reduceIte, Option.isNone_none, Option.isNone_some, Bool.false_eq_true, List.length_cons, List.length_nil, Nat.reduceAdd, Nat.reduceMul]
  refine hK3 _ _ _ ?_
  refine rwp_ret ?_
  obtain rfl := Option.some.inj h
  try simp only [thenK, blockK, reduceIte]
  exact Or.inl (end_ok trivial (rs_t (v := .d (eU64 ((a0 <<< a1.toNat) ||| (a0 >>> ((64#64) - a1).toNat)))) rfl rs_nil) (en_d (to_d _) en_nil) ou_nil (by first | exact eok rfl rfl rfl rfl trivial | (refine eok ?_ ?_ ?_ ?_ ?_ <;> first | rfl | exact trivial | simp [retM, Mem.get, PV.renL, PV.ren, Blk.ren, comps, rhoR, rhoM, appN, PV.refsL, PV.refs, keys, nodupB, Blk.refs, allIn, Blk.bor])))

end Go.Proofs.Ty
