/- Each Go function comes to what its plain function says. PRINTED by a program of this session (ty.py). -/
import Derived.Test.YtkcbojjoellloaaS6
set_option linter.unusedVariables false
set_option linter.unusedSimpArgs false
set_option maxHeartbeats 4000000
set_option maxRecDepth 10000
namespace Go.Proofs.Ty
open Go Go.RW Go.Proofs
/-- passkey/passkeylaw6.SealOpens -/
def passkeylaw6SealOpensH : Hints := ⟨[(0, [0, 1, 2, 3, 4, 5, 6]), (1, [0, 1, 2, 3, 4, 5, 6, 23]), (2, [14]), (3, [0, 1, 2, 5, 6, 15]), (4, [0, 1, 2, 5, 6, 15, 17]), (5, [0, 1, 2, 5, 6, 15, 17]), (6, [14])], []⟩
def passkeylaw6SealOpensRc : RCode :=
  .seq (.region false [⟨some 14, .mv, [.k (.d (.bool false))], none, []⟩] [0, 1, 2, 3, 4, 5, 6]) (.seq (.seq (.region false [⟨some 18, .mv, [.t 1], none, []⟩, ⟨some 19, .mv, [.t 2],
  none, []⟩, ⟨some 20, .mv, [.t 4], none, []⟩, ⟨some 21, .bslice 1 false 3 [.nil 1] [0, 1, 2], [.t 18, .t 19, .t 20], none, []⟩, ⟨some 22, .call 12 false, [.t 21], none, []⟩, ⟨some
  23, .un .not, [.t 22], none, []⟩] [0, 1, 2, 3, 4, 5, 6, 23]) (.cond (.t 23) (.seq (.region false [⟨some 24, .call 11 false, [], none, []⟩, ⟨some 14, .mv, [.t 24], none, []⟩]
  [14]) .ret) .skip)) (.seq (.region false [⟨some 26, .mv, [.t 0], none, []⟩, ⟨some 27, .mv, [.t 3], none, []⟩, ⟨some 28, .mv, [.t 1], none, []⟩, ⟨some 29, .mv, [.t 4], none, []⟩,
  ⟨some 30, .call 14 true, [.t 26, .t 27, .t 28, .t 29], none, []⟩, ⟨some 25, .mv, [.t 30], none, []⟩, ⟨some 31, .ext 0, [.t 25], none, []⟩, ⟨some 32, .ext 1, [.t 25], none, []⟩,
  ⟨some 15, .mv, [.t 31], none, []⟩, ⟨some 16, .mv, [.t 32], none, []⟩] [0, 1, 2, 5, 6, 15]) (.seq (.region false [⟨some 33, .mv, [.t 15], none, []⟩, ⟨some 34, .app 1
  140737488355328, [.k (.nil 1), .t 33], none, []⟩, ⟨some 17, .mv, [.t 34], none, []⟩] [0, 1, 2, 5, 6, 15, 17]) (.seq (.region false [⟨some 35, .mv, [.t 17], none, []⟩, ⟨some 36,
  .mv, [.t 5], none, []⟩, ⟨some 37, .bin .and, [.t 36, .k (.d (.int .i64 65535))], none, []⟩, ⟨some 38, .mv, [.t 17], none, []⟩, ⟨some 39, .len, [.t 38], none, []⟩, ⟨some 40, .bin
  .rem, [.t 37, .t 39], none, []⟩, ⟨some 41, .ia 1, [.t 35, .t 40], none, []⟩, ⟨some 42, .load 1 false, [.t 41], none, []⟩, ⟨some 43, .mv, [.t 6], none, []⟩, ⟨some 44, .bin .xor,
  [.t 42, .t 43], none, []⟩, ⟨some 45, .ia 1, [.t 35, .t 40], none, []⟩, ⟨none, .store 1, [.t 45, .t 44], none, []⟩] [0, 1, 2, 5, 6, 15, 17]) (.seq (.region false [⟨some 46, .mv,
  [.t 0], none, []⟩, ⟨some 47, .mv, [.t 1], none, []⟩, ⟨some 48, .mv, [.t 2], none, []⟩, ⟨some 49, .call 15 false, [.t 46, .t 47, .t 48], none, []⟩, ⟨some 50, .mv, [.t 49], none,
  []⟩, ⟨some 51, .mv, [.t 0], some (50, true), []⟩, ⟨some 52, .mv, [.t 1], some (50, true), []⟩, ⟨some 53, .mv, [.t 17], some (50, true), []⟩, ⟨some 54, .call 15 false, [.t 51, .t
  52, .t 53], some (50, true), []⟩, ⟨some 55, .pick, [.t 50, .t 54, .k (.d (.bool false))], none, []⟩, ⟨some 56, .mv, [.t 55], none, []⟩, ⟨some 57, .mv, [.t 0], some (56, true),
  []⟩, ⟨some 58, .mv, [.t 1], some (56, true), []⟩, ⟨some 59, .mv, [.t 15], some (56, true), []⟩, ⟨some 60, .mv, [.t 5], some (56, true), []⟩, ⟨some 61, .bin .and, [.t 60, .k (.d
  (.int .i64 65535))], some (56, true), []⟩, ⟨some 62, .mv, [.t 15], some (56, true), []⟩, ⟨some 63, .len, [.t 62], some (56, true), []⟩, ⟨some 64, .bin .rem, [.t 61, .t 63], some
  (56, true), []⟩, ⟨some 65, .slice 1 false true false, [.t 59, .t 64], some (56, true), []⟩, ⟨some 66, .call 15 false, [.t 57, .t 58, .t 65], some (56, true), []⟩, ⟨some 67,
  .pick, [.t 56, .t 66, .k (.d (.bool false))], none, []⟩, ⟨some 68, .mv, [.t 67], none, []⟩, ⟨some 69, .mv, [.t 0], some (68, true), []⟩, ⟨some 70, .bin .add, [.t 69, .k (.d (.int
  .u64 1))], some (68, true), []⟩, ⟨some 71, .mv, [.t 1], some (68, true), []⟩, ⟨some 72, .mv, [.t 15], some (68, true), []⟩, ⟨some 73, .call 15 false, [.t 70, .t 71, .t 72], some
  (68, true), []⟩, ⟨some 74, .pick, [.t 68, .t 73, .k (.d (.bool false))], none, []⟩, ⟨some 75, .mv, [.t 74], none, []⟩, ⟨some 76, .mv, [.t 0], some (75, true), []⟩, ⟨some 77, .mv,
  [.t 6], some (75, true), []⟩, ⟨some 78, .bslice 1 false 1 [.d (.int .u8 0)] [0], [.t 77], some (75, true), []⟩, ⟨some 79, .mv, [.t 1], some (75, true), []⟩, ⟨some 80, .app 1
  140737488355328, [.t 78, .t 79], some (75, true), []⟩, ⟨some 81, .mv, [.t 15], some (75, true), []⟩, ⟨some 82, .call 15 false, [.t 76, .t 80, .t 81], some (75, true), []⟩, ⟨some
  83, .pick, [.t 75, .t 82, .k (.d (.bool false))], none, []⟩, ⟨some 84, .mv, [.t 83], none, []⟩, ⟨some 85, .call 11 false, [], some (84, true), []⟩, ⟨some 86, .pick, [.t 84, .t
  85, .k (.d (.bool false))], none, []⟩, ⟨some 14, .mv, [.t 86], none, []⟩] [14]) .ret)))))
def passkeylaw6SealOpensRr : List RR := [.t 14]
theorem passkeylaw6SealOpensC : compFn Try.prog 5 passkeylaw6SealOpensH = some (passkeylaw6SealOpensRc, passkeylaw6SealOpensRr, 87) := by kernel_rfl
theorem passkeylaw6SealOpensOK (a0 : BitVec 64) (a1 : List (BitVec 8)) (a2 : List (BitVec 8)) (a3 : BitVec 64) (a4 : List (BitVec 8)) (a5 : Int) (a6 : BitVec 8) (res : Bool) (h : passkeylaw6SealOpens a0 a1 a2 a3 a4 a5 a6 = some res) : CallOK Try.prog 5 [.d (eU64 a0), .d ((eL 1 eU8) a1), .d ((eL 1 eU8) a2), .d (eU64 a3), .d ((eL 1 eU8) a4), .d (eI a5), .d (eU8 a6)] [] (.d (eB res)) [] := by
  unfold passkeylaw6SealOpens at h
  refine callOK passkeylaw6SealOpensC fm rfl ?_
  simp only [initE, initM, nbor, List.map_cons, List.map_nil, Nat.reduceAdd]
  unfold passkeylaw6SealOpensRc
  refine rwp_seq fun K1 hK1 => ?_
  refine rwp_region fun K2 hK2 => ?_
  refine st0 128 rfl (ok (mv (.d (eB false)))) ?_
  refine hK2 _ _ ?_
  simp only [thenK, blockK, keepE, updM, List.filter_cons, List.filter_nil, List.nil_append, List.cons_append, List.map_cons, List.map_nil, envE, Mem.get, Nat.reduceEqDiff, reduceIte, Option.isNone_none, Option.isNone_some, Bool.false_eq_true, List.length_cons, List.length_nil, Nat.reduceAdd, Nat.reduceMul]
  refine hK1 _ _ _ ?_
  refine rwp_seq fun K3 hK3 => ?_
  refine rwp_seq fun K4 hK4 => ?_
  refine rwp_region fun K5 hK5 => ?_
  refine st0 192 rfl (ok (mv (.d ((eL 1 eU8) a1)))) ?_
  refine st0 256 rfl (ok (mv (.d ((eL 1 eU8) a2)))) ?_
  refine st0 320 rfl (ok (mv (.d ((eL 1 eU8) a4)))) ?_
  refine st1 384 rfl (mem' := [(320, .row true 1 (([a1, a2, a4] : List (List (BitVec 8))).map (eL 1 eU8)))]) (ok (bsl (e := (eL 1 eU8)) (ys := ([a1, a2, a4] : List (List (BitVec 8)))) rfl rfl rfl)) rfl ?_
  obtain ⟨y6, h7, h⟩ := bind_inv h
  refine st0 448 rfl (call_ok (v := .d (eB y6)) (u := []) (ar_to rfl (to_1 rfl (ds_r (ys := ([a1, a2, a4] : List (List (BitVec 8)))) rfl rfl rfl ds_nil)) ar_nil) rfl (passkeylaw6shortOK ([a1, a2, a4] : List (List (BitVec 8))) y6 h7) rfl) ?_
  refine st0 512 rfl (ok (notB _)) ?_
  refine hK5 _ _ ?_
  simp only [thenK, blockK, keepE, updM, List.filter_cons, List.filter_nil, List.nil_append, List.cons_append, List.map_cons, List.map_nil, envE, Mem.get, Nat.reduceEqDiff, reduceIte, Option.isNone_none, Option.isNone_some, Bool.false_eq_true, List.length_cons, List.length_nil, Nat.reduceAdd, Nat.reduceMul]
  refine hK4 _ _ _ ?_
  rcases Bool.eq_false_or_eq_true ((!y6)) with h8 | h8
  · replace h := ite_t h h8
    refine rwp_t (isT h8) ?_
    refine rwp_seq fun K9 hK9 => ?_
    refine rwp_region fun K10 hK10 => ?_
    obtain ⟨y11, h12, h⟩ := bind_inv h
    refine st0 576 rfl (call_ok (v := .d (eB y11)) (u := []) ar_nil rfl (passkeylaw6awakeOK  y11 h12) rfl) ?_
    refine st0 640 rfl (ok (mv (.d (eB y11)))) ?_
    refine hK10 _ _ ?_
    simp only [thenK, blockK, keepE, updM, List.filter_cons, List.filter_nil, List.nil_append, List.cons_append, List.map_cons, List.map_nil, envE, Mem.get, Nat.reduceEqDiff, reduceIte, Option.isNone_none, Option.isNone_some, Bool.false_eq_true, List.length_cons, List.length_nil, Nat.reduceAdd, Nat.reduceMul]
    refine hK9 _ _ _ ?_
    refine rwp_ret ?_
    obtain rfl := Option.some.inj h
    try simp only [thenK, blockK, reduceIte]
    exact Or.inl (end_ok trivial (rs_t (v := .d (eB y11)) rfl rs_nil) (en_d (to_d _) en_nil) ou_nil (by first | exact eok rfl rfl rfl rfl trivial | (refine eok ?_ ?_ ?_ ?_ ?_ <;> first | rfl | exact trivial | simp [retM, Mem.get, PV.renL, PV.ren, Blk.ren, comps, rhoR, rhoM, appN, PV.refsL, PV.refs, keys, nodupB, Blk.refs, allIn, Blk.bor])))
  · replace h := ite_f h h8
    refine rwp_f (isF h8) ?_
    refine rwp_skip ?_
    refine hK3 _ _ _ ?_
    refine rwp_seq fun K13 hK13 => ?_
    refine rwp_region fun K14 hK14 => ?_
    refine st0 576 rfl (ok (mv (.d (eU64 a0)))) ?_
    refine st0 640 rfl (ok (mv (.d (eU64 a3)))) ?_
    refine st0 704 rfl (ok (mv (.d ((eL 1 eU8) a1)))) ?_
    refine st0 768 rfl (ok (mv (.d ((eL 1 eU8) a4)))) ?_
    obtain ⟨y15, h16, h⟩ := bind_inv h
    refine st1 832 rfl (mem' := [(768, .row true 1 (y15.1.map eU8)), (320, .row true 1 (([a1, a2, a4] : List (List (BitVec 8))).map (eL 1 eU8)))]) (call_ok (v := .tup [.ref 768 y15.1.length 0 y15.1.length, .d (eI y15.2)]) (u := [(768, .row true 1 (y15.1.map eU8))]) (ar_d (eU64 a0) (ar_d (eU64 a3) (ar_d ((eL 1 eU8) a1) (ar_d ((eL 1 eU8) a4) ar_nil)))) rfl (passkeyref3SealOK a0 a3 a1 a4 y15 h16) rfl) rfl ?_
    refine st0 896 rfl (ok (mv (.tup [.ref 768 y15.1.length 0 y15.1.length, .d (eI y15.2)]))) ?_
    refine st0 960 rfl (ok (extr (v := .ref 768 y15.1.length 0 y15.1.length) rfl rfl)) ?_
    refine st0 1024 rfl (ok (extr (v := .d (eI y15.2)) rfl rfl)) ?_
    refine st0 1088 rfl (ok (mv (.ref 768 y15.1.length 0 y15.1.length))) ?_
    refine st0 1152 rfl (ok (mv (.d (eI y15.2)))) ?_
    refine hK14 _ _ ?_
    simp only [thenK, blockK, keepE, updM, List.filter_cons, List.filter_nil, List.nil_append, List.cons_append, List.map_cons, List.map_nil, envE, Mem.get, Nat.reduceEqDiff, reduceIte, Option.isNone_none, Option.isNone_some, Bool.false_eq_true, List.length_cons, List.length_nil, Nat.reduceAdd, Nat.reduceMul]
    refine hK13 _ _ _ ?_
    refine rwp_seq fun K17 hK17 => ?_
    refine rwp_region fun K18 hK18 => ?_
    refine st0 1216 rfl (ok (mv (.ref 768 y15.1.length 0 y15.1.length))) ?_
    obtain ⟨h19, h⟩ := asq_inv h
    refine st1 1280 rfl (mem' := [(1216, .row true 1 (y15.1.map eU8)), (768, .row true 1 (y15.1.map eU8)), (320, .row true 1 (([a1, a2, a4] : List (List (BitVec 8))).map (eL 1 eU8)))]) (ok (appN0 (e := eU8) (ys := y15.1) (contR (xs := y15.1) rfl rfl rfl) h19)) rfl ?_
    refine st0 1344 rfl (ok (mv (.ref 1216 y15.1.length 0 y15.1.length))) ?_
    refine hK18 _ _ ?_
    simp only [thenK, blockK, keepE, updM, List.filter_cons, List.filter_nil, List.nil_append, List.cons_append, List.map_cons, List.map_nil, envE, Mem.get, Nat.reduceEqDiff, reduceIte, Option.isNone_none, Option.isNone_some, Bool.false_eq_true, List.length_cons, List.length_nil, Nat.reduceAdd, Nat.reduceMul]
    refine hK17 _ _ _ ?_
    refine rwp_seq fun K20 hK20 => ?_
    refine rwp_region fun K21 hK21 => ?_
    refine st0 1408 rfl (ok (mv (.ref 1216 y15.1.length 0 y15.1.length))) ?_
    refine st0 1472 rfl (ok (mv (.d (eI a5)))) ?_
    refine st0 1536 rfl (ok (andI _ (65535 : Int))) ?_
    refine st0 1600 rfl (ok (mv (.ref 1216 y15.1.length 0 y15.1.length))) ?_
    refine st0 1664 rfl (ok (lenR _ _ _ _)) ?_
    obtain ⟨h22, h⟩ := asq_inv h
    obtain ⟨v23, h24, h⟩ := lett_inv h
    refine st0e 1728 rfl (ok (remI _ _ h22)) (congrArg (fun z => PV.d (eI z)) h24) ?_
    obtain ⟨h25, h⟩ := asq_inv h
    refine st0 1792 rfl (ok (iaR (xs := y15.1) (e := eU8) rfl rfl h25)) ?_
    refine st0 1856 rfl (ok (ld_r (e := eU8) (xs := y15.1) 0#8 rfl rfl (by have := h25; simp at this ⊢; omega) rfl)) ?_
    refine st0 1920 rfl (ok (mv (.d (eU8 a6)))) ?_
    refine st0 1984 rfl (ok (xor8 _ _)) ?_
    obtain ⟨h26, h⟩ := asq_inv h
    refine st0 2048 rfl (ok (iaR (xs := y15.1) (e := eU8) rfl rfl h26)) ?_
    refine stn 2112 rfl (mem' := [(1216, .row true 1 ((y15.1.set (0 + v23.toNat) ((y15.1.getD (0 + v23.toNat) 0#8) ^^^ a6)).map eU8)), (768, .row true 1 (y15.1.map eU8)), (320, .row true 1 (([a1, a2, a4] : List (List (BitVec 8))).map (eL 1 eU8)))]) (ok (sto_r (e := eU8) (xs := y15.1) (y := ((y15.1.getD (0 + v23.toNat) 0#8) ^^^ a6)) rfl rfl rfl)) rfl ?_
    refine hK21 _ _ ?_
    simp only [thenK, blockK, keepE, updM, List.filter_cons, List.filter_nil, List.nil_append, List.cons_append, List.map_cons, List.map_nil, envE, Mem.get, Nat.reduceEqDiff, reduceIte, Option.isNone_none, Option.isNone_some, Bool.false_eq_true, List.length_cons, List.length_nil, Nat.reduceAdd, Nat.reduceMul]
    refine hK20 _ _ _ ?_
    refine rwp_seq fun K27 hK27 => ?_
    refine rwp_region fun K28 hK28 => ?_
    refine st0 2176 rfl (ok (mv (.d (eU64 a0)))) ?_
    refine st0 2240 rfl (ok (mv (.d ((eL 1 eU8) a1)))) ?_
    refine st0 2304 rfl (ok (mv (.d ((eL 1 eU8) a2)))) ?_
    obtain ⟨y29, h30, h⟩ := bind_inv h
    refine st0 2368 rfl (call_ok (v := .d (eB y29)) (u := []) (ar_d (eU64 a0) (ar_d ((eL 1 eU8) a1) (ar_d ((eL 1 eU8) a2) ar_nil))) rfl (passkeylaw6opensOK a0 a1 a2 y29 h30) rfl) ?_
    refine st0 2432 rfl (ok (mv (.d (eB y29)))) ?_
    rcases Bool.eq_false_or_eq_true (y29) with h31 | h31
    · replace h := ite_t h h31
      refine stG (isT h31) ?_
      refine st0 2496 rfl (ok (mv (.d (eU64 a0)))) ?_
      refine stG (isT h31) ?_
      refine st0 2560 rfl (ok (mv (.d ((eL 1 eU8) a1)))) ?_
      refine stG (isT h31) ?_
      refine st0 2624 rfl (ok (mv (.ref 1216 y15.1.length 0 y15.1.length))) ?_
      refine stG (isT h31) ?_
      obtain ⟨y32, h33, h⟩ := bind_inv h
      refine st0 2688 rfl (call_ok (v := .d (eB y32)) (u := []) (ar_d (eU64 a0) (ar_d ((eL 1 eU8) a1) (ar_to rfl (to_1 rfl (ds_r (ys := (y15.1.set (0 + v23.toNat) ((y15.1.getD (0 + v23.toNat) 0#8) ^^^ a6))) rfl (by simp) (by simp) ds_nil)) ar_nil))) rfl (passkeylaw6opensOK a0 a1 (y15.1.set (0 + v23.toNat) ((y15.1.getD (0 + v23.toNat) 0#8) ^^^ a6)) y32 h33) rfl) ?_
      refine st0 2752 rfl (ok (pick_t h31 (.d (eB y32)) _)) ?_
      refine st0 2816 rfl (ok (mv (.d (eB y32)))) ?_
      rcases Bool.eq_false_or_eq_true (y32) with h34 | h34
      · replace h := ite_t h h34
        refine stG (isT h34) ?_
        refine st0 2880 rfl (ok (mv (.d (eU64 a0)))) ?_
        refine stG (isT h34) ?_
        refine st0 2944 rfl (ok (mv (.d ((eL 1 eU8) a1)))) ?_
        refine stG (isT h34) ?_
        refine st0 3008 rfl (ok (mv (.ref 768 y15.1.length 0 y15.1.length))) ?_
        refine stG (isT h34) ?_
        refine st0 3072 rfl (ok (mv (.d (eI a5)))) ?_
        refine stG (isT h34) ?_
        refine st0 3136 rfl (ok (andI _ (65535 : Int))) ?_
        refine stG (isT h34) ?_
        refine st0 3200 rfl (ok (mv (.ref 768 y15.1.length 0 y15.1.length))) ?_
        refine stG (isT h34) ?_
        refine st0 3264 rfl (ok (lenR _ _ _ _)) ?_
        refine stG (isT h34) ?_
        obtain ⟨h35, h⟩ := asq_inv h
        obtain ⟨v36, h37, h⟩ := lett_inv h
        refine st0e 3328 rfl (ok (remI _ _ h35)) (congrArg (fun z => PV.d (eI z)) h37) ?_
        refine stG (isT h34) ?_
        obtain ⟨h38, h⟩ := asq_inv h
        refine st0 3392 rfl (ok (slR_h (ys := y15.1.map eU8) rfl (by simp) h38)) ?_
        refine stG (isT h34) ?_
        obtain ⟨y39, h40, h⟩ := bind_inv h
        refine st0 3456 rfl (call_ok (v := .d (eB y39)) (u := []) (ar_d (eU64 a0) (ar_d ((eL 1 eU8) a1) (ar_to rfl (to_1 rfl (ds_p (ys := y15.1) rfl rfl ds_nil)) ar_nil))) rfl (passkeylaw6opensOK a0 a1 ((y15.1.drop (0 + 0)).take (v36.toNat - 0)) y39 h40) rfl) ?_
        refine st0 3520 rfl (ok (pick_t h34 (.d (eB y39)) _)) ?_
        refine st0 3584 rfl (ok (mv (.d (eB y39)))) ?_
        rcases Bool.eq_false_or_eq_true (y39) with h41 | h41
        · replace h := ite_t h h41
          refine stG (isT h41) ?_
          refine st0 3648 rfl (ok (mv (.d (eU64 a0)))) ?_
          refine stG (isT h41) ?_
          refine st0 3712 rfl (ok (add64 _ (1#64))) ?_
          refine stG (isT h41) ?_
          refine st0 3776 rfl (ok (mv (.d ((eL 1 eU8) a1)))) ?_
          refine stG (isT h41) ?_
          refine st0 3840 rfl (ok (mv (.ref 768 y15.1.length 0 y15.1.length))) ?_
          refine stG (isT h41) ?_
          obtain ⟨y42, h43, h⟩ := bind_inv h
          refine st0 3904 rfl (call_ok (v := .d (eB y42)) (u := []) (ar_d (eU64 (a0 + (1#64))) (ar_d ((eL 1 eU8) a1) (ar_to rfl (to_1 rfl (ds_r (ys := y15.1) rfl rfl rfl ds_nil)) ar_nil))) rfl (passkeylaw6opensOK (a0 + (1#64)) a1 y15.1 y42 h43) rfl) ?_
          refine st0 3968 rfl (ok (pick_t h41 (.d (eB y42)) _)) ?_
          refine st0 4032 rfl (ok (mv (.d (eB y42)))) ?_
          rcases Bool.eq_false_or_eq_true (y42) with h44 | h44
          · replace h := ite_t h h44
            refine stG (isT h44) ?_
            refine st0 4096 rfl (ok (mv (.d (eU64 a0)))) ?_
            refine stG (isT h44) ?_
            refine st0 4160 rfl (ok (mv (.d (eU8 a6)))) ?_
            refine stG (isT h44) ?_
            refine st1 4224 rfl (mem' := [(4160, .row true 1 (([a6] : List (BitVec 8)).map eU8)), (1216, .row true 1 ((y15.1.set (0 + v23.toNat) ((y15.1.getD (0 + v23.toNat) 0#8) ^^^ a6)).map eU8)), (768, .row true 1 (y15.1.map eU8)), (320, .row true 1 (([a1, a2, a4] : List (List (BitVec 8))).map (eL 1 eU8)))]) (ok (bsl (e := eU8) (ys := ([a6] : List (BitVec 8))) rfl rfl rfl)) rfl ?_
            refine stG (isT h44) ?_
            refine st0 4288 rfl (ok (mv (.d ((eL 1 eU8) a1)))) ?_
            refine stG (isT h44) ?_
            obtain ⟨h45, h⟩ := asq_inv h
            refine st1 4352 rfl (mem' := [(4160, .row true 1 ((([a6] : List (BitVec 8)) ++ a1).map eU8)), (1216, .row true 1 ((y15.1.set (0 + v23.toNat) ((y15.1.getD (0 + v23.toNat) 0#8) ^^^ a6)).map eU8)), (768, .row true 1 (y15.1.map eU8)), (320, .row true 1 (([a1, a2, a4] : List (List (BitVec 8))).map (eL 1 eU8)))]) (ok (appR (e := eU8) (xs := ([a6] : List (BitVec 8))) (ys := a1) contL rfl rfl rfl h45)) rfl ?_
            refine stG (isT h44) ?_
            refine st0 4416 rfl (ok (mv (.ref 768 y15.1.length 0 y15.1.length))) ?_
            refine stG (isT h44) ?_
            obtain ⟨y46, h47, h⟩ := bind_inv h
            refine st0 4480 rfl (call_ok (v := .d (eB y46)) (u := []) (ar_d (eU64 a0) (ar_to rfl (to_1 rfl (ds_r (ys := (([a6] : List (BitVec 8)) ++ a1)) rfl rfl rfl ds_nil)) (ar_to rfl (to_1 rfl (ds_r (ys := y15.1) rfl rfl rfl ds_nil)) ar_nil))) rfl (passkeylaw6opensOK a0 (([a6] : List (BitVec 8)) ++ a1) y15.1 y46 h47) rfl) ?_
            refine st0 4544 rfl (ok (pick_t h44 (.d (eB y46)) _)) ?_
            refine st0 4608 rfl (ok (mv (.d (eB y46)))) ?_
            rcases Bool.eq_false_or_eq_true (y46) with h48 | h48
            · replace h := ite_t h h48
              refine stG (isT h48) ?_
              obtain ⟨y49, h50, h⟩ := bind_inv h
              refine st0 4672 rfl (call_ok (v := .d (eB y49)) (u := []) ar_nil rfl (passkeylaw6awakeOK  y49 h50) rfl) ?_
              refine st0 4736 rfl (ok (pick_t h48 (.d (eB y49)) _)) ?_
              refine st0 4800 rfl (ok (mv (.d (eB y49)))) ?_
              refine hK28 _ _ ?_
              simp only [thenK, blockK, keepE, updM, List.filter_cons, List.filter_nil, List.nil_append, List.cons_append, List.map_cons, List.map_nil, envE, Mem.get, Nat.reduceEqDiff, reduceIte, Option.isNone_none, Option.isNone_some, Bool.false_eq_true, List.length_cons, List.length_nil, Nat.reduceAdd, Nat.reduceMul]
              refine hK27 _ _ _ ?_
              refine rwp_ret ?_
              obtain rfl := Option.some.inj h
              try simp only [thenK, blockK, reduceIte]
              exact Or.inl (end_ok trivial (rs_t (v := .d (eB y49)) rfl rs_nil) (en_d (to_d _) en_nil) ou_nil (by first | exact eok rfl rfl rfl rfl trivial | (refine eok ?_ ?_ ?_ ?_ ?_ <;> first | rfl | exact trivial | simp [retM, Mem.get, PV.renL, PV.ren, Blk.ren, comps, rhoR, rhoM, appN, PV.refsL, PV.refs, keys, nodupB, Blk.refs, allIn, Blk.bor])))
            · replace h := ite_f h h48
              refine stGN 4672 rfl rfl h48 ?_
              refine st0 4736 rfl (ok (pick_f h48 _ (.d (eB false)))) ?_
              refine st0 4800 rfl (ok (mv (.d (eB false)))) ?_
              refine hK28 _ _ ?_
              simp only [thenK, blockK, keepE, updM, List.filter_cons, List.filter_nil, List.nil_append, List.cons_append, List.map_cons, List.map_nil, envE, Mem.get, Nat.reduceEqDiff, reduceIte, Option.isNone_none, Option.isNone_some, Bool.false_eq_true, List.length_cons, List.length_nil, Nat.reduceAdd, Nat.reduceMul]
              refine hK27 _ _ _ ?_
              refine rwp_ret ?_
              obtain rfl := Option.some.inj h
              try simp only [thenK, blockK, reduceIte]
              exact Or.inl (end_ok trivial (rs_t (v := .d (eB false)) rfl rs_nil) (en_d (to_d _) en_nil) ou_nil (by first | exact eok rfl rfl rfl rfl trivial | (refine eok ?_ ?_ ?_ ?_ ?_ <;> first | rfl | exact trivial | simp [retM, Mem.get, PV.renL, PV.ren, Blk.ren, comps, rhoR, rhoM, appN, PV.refsL, PV.refs, keys, nodupB, Blk.refs, allIn, Blk.bor])))
          · replace h := ite_f h h44
            refine stGN 4096 rfl rfl h44 ?_
            refine stGN 4160 rfl rfl h44 ?_
            refine stGN 4224 rfl rfl h44 ?_
            refine stGN 4288 rfl rfl h44 ?_
            refine stGN 4352 rfl rfl h44 ?_
            refine stGN 4416 rfl rfl h44 ?_
            refine stGN 4480 rfl rfl h44 ?_
            refine st0 4544 rfl (ok (pick_f h44 _ (.d (eB false)))) ?_
            refine st0 4608 rfl (ok (mv (.d (eB false)))) ?_
            refine stGN 4672 rfl rfl rfl ?_
            refine st0 4736 rfl (ok (pick_f rfl _ (.d (eB false)))) ?_
            refine st0 4800 rfl (ok (mv (.d (eB false)))) ?_
            refine hK28 _ _ ?_
            simp only [thenK, blockK, keepE, updM, List.filter_cons, List.filter_nil, List.nil_append, List.cons_append, List.map_cons, List.map_nil, envE, Mem.get, Nat.reduceEqDiff, reduceIte, Option.isNone_none, Option.isNone_some, Bool.false_eq_true, List.length_cons, List.length_nil, Nat.reduceAdd, Nat.reduceMul]
            refine hK27 _ _ _ ?_
            refine rwp_ret ?_
            obtain rfl := Option.some.inj h
            try simp only [thenK, blockK, reduceIte]
            exact Or.inl (end_ok trivial (rs_t (v := .d (eB false)) rfl rs_nil) (en_d (to_d _) en_nil) ou_nil (by first | exact eok rfl rfl rfl rfl trivial | (refine eok ?_ ?_ ?_ ?_ ?_ <;> first | rfl | exact trivial | simp [retM, Mem.get, PV.renL, PV.ren, Blk.ren, comps, rhoR, rhoM, appN, PV.refsL, PV.refs, keys, nodupB, Blk.refs, allIn, Blk.bor])))
        · replace h := ite_f h h41
          refine stGN 3648 rfl rfl h41 ?_
          refine stGN 3712 rfl rfl h41 ?_
          refine stGN 3776 rfl rfl h41 ?_
          refine stGN 3840 rfl rfl h41 ?_
          refine stGN 3904 rfl rfl h41 ?_
          refine st0 3968 rfl (ok (pick_f h41 _ (.d (eB false)))) ?_
          refine st0 4032 rfl (ok (mv (.d (eB false)))) ?_
          refine stGN 4096 rfl rfl rfl ?_
          refine stGN 4160 rfl rfl rfl ?_
          refine stGN 4224 rfl rfl rfl ?_
          refine stGN 4288 rfl rfl rfl ?_
          refine stGN 4352 rfl rfl rfl ?_
          refine stGN 4416 rfl rfl rfl ?_
          refine stGN 4480 rfl rfl rfl ?_
          refine st0 4544 rfl (ok (pick_f rfl _ (.d (eB false)))) ?_
          refine st0 4608 rfl (ok (mv (.d (eB false)))) ?_
          refine stGN 4672 rfl rfl rfl ?_
          refine st0 4736 rfl (ok (pick_f rfl _ (.d (eB false)))) ?_
          refine st0 4800 rfl (ok (mv (.d (eB false)))) ?_
          refine hK28 _ _ ?_
          simp only [thenK, blockK, keepE, updM, List.filter_cons, List.filter_nil, List.nil_append, List.cons_append, List.map_cons, List.map_nil, envE, Mem.get, Nat.reduceEqDiff, reduceIte, Option.isNone_none, Option.isNone_some, Bool.false_eq_true, List.length_cons, List.length_nil, Nat.reduceAdd, Nat.reduceMul]
          refine hK27 _ _ _ ?_
          refine rwp_ret ?_
          obtain rfl := Option.some.inj h
          try simp only [thenK, blockK, reduceIte]
          exact Or.inl (end_ok trivial (rs_t (v := .d (eB false)) rfl rs_nil) (en_d (to_d _) en_nil) ou_nil (by first | exact eok rfl rfl rfl rfl trivial | (refine eok ?_ ?_ ?_ ?_ ?_ <;> first | rfl | exact trivial | simp [retM, Mem.get, PV.renL, PV.ren, Blk.ren, comps, rhoR, rhoM, appN, PV.refsL, PV.refs, keys, nodupB, Blk.refs, allIn, Blk.bor])))
      · replace h := ite_f h h34
        refine stGN 2880 rfl rfl h34 ?_
        refine stGN 2944 rfl rfl h34 ?_
        refine stGN 3008 rfl rfl h34 ?_
        refine stGN 3072 rfl rfl h34 ?_
        refine stGN 3136 rfl rfl h34 ?_
        refine stGN 3200 rfl rfl h34 ?_
        refine stGN 3264 rfl rfl h34 ?_
        refine stGN 3328 rfl rfl h34 ?_
        refine stGN 3392 rfl rfl h34 ?_
        refine stGN 3456 rfl rfl h34 ?_
        refine st0 3520 rfl (ok (pick_f h34 _ (.d (eB false)))) ?_
        refine st0 3584 rfl (ok (mv (.d (eB false)))) ?_
        refine stGN 3648 rfl rfl rfl ?_
        refine stGN 3712 rfl rfl rfl ?_
        refine stGN 3776 rfl rfl rfl ?_
        refine stGN 3840 rfl rfl rfl ?_
        refine stGN 3904 rfl rfl rfl ?_
        refine st0 3968 rfl (ok (pick_f rfl _ (.d (eB false)))) ?_
        refine st0 4032 rfl (ok (mv (.d (eB false)))) ?_
        refine stGN 4096 rfl rfl rfl ?_
        refine stGN 4160 rfl rfl rfl ?_
        refine stGN 4224 rfl rfl rfl ?_
        refine stGN 4288 rfl rfl rfl ?_
        refine stGN 4352 rfl rfl rfl ?_
        refine stGN 4416 rfl rfl rfl ?_
        refine stGN 4480 rfl rfl rfl ?_
        refine st0 4544 rfl (ok (pick_f rfl _ (.d (eB false)))) ?_
        refine st0 4608 rfl (ok (mv (.d (eB false)))) ?_
        refine stGN 4672 rfl rfl rfl ?_
        refine st0 4736 rfl (ok (pick_f rfl _ (.d (eB false)))) ?_
        refine st0 4800 rfl (ok (mv (.d (eB false)))) ?_
        refine hK28 _ _ ?_
        simp only [thenK, blockK, keepE, updM, List.filter_cons, List.filter_nil, List.nil_append, List.cons_append, List.map_cons, List.map_nil, envE, Mem.get, Nat.reduceEqDiff, reduceIte, Option.isNone_none, Option.isNone_some, Bool.false_eq_true, List.length_cons, List.length_nil, Nat.reduceAdd, Nat.reduceMul]
        refine hK27 _ _ _ ?_
        refine rwp_ret ?_
        obtain rfl := Option.some.inj h
        try simp only [thenK, blockK, reduceIte]
        exact Or.inl (end_ok trivial (rs_t (v := .d (eB false)) rfl rs_nil) (en_d (to_d _) en_nil) ou_nil (by first | exact eok rfl rfl rfl rfl trivial | (refine eok ?_ ?_ ?_ ?_ ?_ <;> first | rfl | exact trivial | simp [retM, Mem.get, PV.renL, PV.ren, Blk.ren, comps, rhoR, rhoM, appN, PV.refsL, PV.refs, keys, nodupB, Blk.refs, allIn, Blk.bor])))
    · replace h := ite_f h h31
      refine stGN 2496 rfl rfl h31 ?_
      refine stGN 2560 rfl rfl h31 ?_
      refine stGN 2624 rfl rfl h31 ?_
      refine stGN 2688 rfl rfl h31 ?_
      refine st0 2752 rfl (ok (pick_f h31 _ (.d (eB false)))) ?_
      refine st0 2816 rfl (ok (mv (.d (eB false)))) ?_
      refine stGN 2880 rfl rfl rfl ?_
      refine stGN 2944 rfl rfl rfl ?_
      refine stGN 3008 rfl rfl rfl ?_
      refine stGN 3072 rfl rfl rfl ?_
      refine stGN 3136 rfl rfl rfl ?_
      refine stGN 3200 rfl rfl rfl ?_
      refine stGN 3264 rfl rfl rfl ?_
      refine stGN 3328 rfl rfl rfl ?_
      refine stGN 3392 rfl rfl rfl ?_
      refine stGN 3456 rfl rfl rfl ?_
      refine st0 3520 rfl (ok (pick_f rfl _ (.d (eB false)))) ?_
      refine st0 3584 rfl (ok (mv (.d (eB false)))) ?_
      refine stGN 3648 rfl rfl rfl ?_
      refine stGN 3712 rfl rfl rfl ?_
      refine stGN 3776 rfl rfl rfl ?_
      refine stGN 3840 rfl rfl rfl ?_
      refine stGN 3904 rfl rfl rfl ?_
      refine st0 3968 rfl (ok (pick_f rfl _ (.d (eB false)))) ?_
      refine st0 4032 rfl (ok (mv (.d (eB false)))) ?_
      refine stGN 4096 rfl rfl rfl ?_
      refine stGN 4160 rfl rfl rfl ?_
      refine stGN 4224 rfl rfl rfl ?_
      refine stGN 4288 rfl rfl rfl ?_
      refine stGN 4352 rfl rfl rfl ?_
      refine stGN 4416 rfl rfl rfl ?_
      refine stGN 4480 rfl rfl rfl ?_
      refine st0 4544 rfl (ok (pick_f rfl _ (.d (eB false)))) ?_
      refine st0 4608 rfl (ok (mv (.d (eB false)))) ?_
      refine stGN 4672 rfl rfl rfl ?_
      refine st0 4736 rfl (ok (pick_f rfl _ (.d (eB false)))) ?_
      refine st0 4800 rfl (ok (mv (.d (eB false)))) ?_
      refine hK28 _ _ ?_
      simp only [thenK, blockK, keepE, updM, List.filter_cons, List.filter_nil, List.nil_append, List.cons_append, List.map_cons, List.map_nil, envE, Mem.get, Nat.reduceEqDiff, reduceIte, Option.isNone_none, Option.isNone_some, Bool.false_eq_true, List.length_cons, List.length_nil, Nat.reduceAdd, Nat.reduceMul]
      refine hK27 _ _ _ ?_
      refine rwp_ret ?_
      obtain rfl := Option.some.inj h
      try simp only [thenK, blockK, reduceIte]
      exact Or.inl (end_ok trivial (rs_t (v := .d (eB false)) rfl rs_nil) (en_d (to_d _) en_nil) ou_nil (by first | exact eok rfl rfl rfl rfl trivial | (refine eok ?_ ?_ ?_ ?_ ?_ <;> first | rfl | exact trivial | simp [retM, Mem.get, PV.renL, PV.ren, Blk.ren, comps, rhoR, rhoM, appN, PV.refsL, PV.refs, keys, nodupB, Blk.refs, allIn, Blk.bor])))

/-- passkey/passkeylaw6.SealBack -/
def passkeylaw6SealBackH : Hints := ⟨[(0, [0, 1, 2, 3]), (1, [0, 1, 2, 3, 17]), (2, [8]), (3, [0, 2, 3, 9, 10]), (4, [3, 9, 10, 11, 12]), (5, [8])], []⟩
def passkeylaw6SealBackRc : RCode :=
  .seq (.region false [⟨some 8, .mv, [.k (.d (.bool false))], none, []⟩] [0, 1, 2, 3]) (.seq (.seq (.region false [⟨some 13, .mv, [.t 2], none, []⟩, ⟨some 14, .mv, [.t 3], none, []⟩,
  ⟨some 15, .bslice 1 false 2 [.nil 1] [0, 1], [.t 13, .t 14], none, []⟩, ⟨some 16, .call 12 false, [.t 15], none, []⟩, ⟨some 17, .un .not, [.t 16], none, []⟩] [0, 1, 2, 3, 17])
  (.cond (.t 17) (.seq (.region false [⟨some 18, .call 11 false, [], none, []⟩, ⟨some 8, .mv, [.t 18], none, []⟩] [8]) .ret) .skip)) (.seq (.region false [⟨some 20, .mv, [.t 0],
  none, []⟩, ⟨some 21, .mv, [.t 1], none, []⟩, ⟨some 22, .mv, [.t 2], none, []⟩, ⟨some 23, .mv, [.t 3], none, []⟩, ⟨some 24, .call 13 true, [.t 20, .t 21, .t 22, .t 23], none, []⟩,
  ⟨some 19, .mv, [.t 24], none, []⟩, ⟨some 25, .ext 0, [.t 19], none, []⟩, ⟨some 26, .ext 1, [.t 19], none, []⟩, ⟨some 9, .mv, [.t 25], none, []⟩, ⟨some 10, .mv, [.t 26], none,
  []⟩] [0, 2, 3, 9, 10]) (.seq (.region false [⟨some 28, .mv, [.t 0], none, []⟩, ⟨some 29, .mv, [.t 2], none, []⟩, ⟨some 30, .mv, [.t 9], none, []⟩, ⟨some 31, .call 16 true, [.t
  28, .t 29, .t 30], none, []⟩, ⟨some 27, .mv, [.t 31], none, []⟩, ⟨some 32, .ext 0, [.t 27], none, []⟩, ⟨some 33, .ext 1, [.t 27], none, []⟩, ⟨some 11, .mv, [.t 32], none, []⟩,
  ⟨some 12, .mv, [.t 33], none, []⟩] [3, 9, 10, 11, 12]) (.seq (.region false [⟨some 34, .mv, [.t 10], none, []⟩, ⟨some 35, .bin .eql, [.t 34, .k (.d (.int .i64 0))], none, []⟩,
  ⟨some 36, .mv, [.t 35], none, []⟩, ⟨some 37, .mv, [.t 12], some (36, true), []⟩, ⟨some 38, .bin .eql, [.t 37, .k (.d (.int .i64 0))], some (36, true), []⟩, ⟨some 39, .pick, [.t
  36, .t 38, .k (.d (.bool false))], none, []⟩, ⟨some 40, .mv, [.t 39], none, []⟩, ⟨some 41, .mv, [.t 9], some (40, true), []⟩, ⟨some 42, .len, [.t 41], some (40, true), []⟩, ⟨some
  43, .mv, [.t 3], some (40, true), []⟩, ⟨some 44, .len, [.t 43], some (40, true), []⟩, ⟨some 45, .bin .add, [.t 44, .k (.d (.int .i64 16))], some (40, true), []⟩, ⟨some 46, .bin
  .eql, [.t 42, .t 45], some (40, true), []⟩, ⟨some 47, .pick, [.t 40, .t 46, .k (.d (.bool false))], none, []⟩, ⟨some 48, .mv, [.t 47], none, []⟩, ⟨some 49, .mv, [.t 11], some
  (48, true), []⟩, ⟨some 50, .b2s, [.t 49], some (48, true), []⟩, ⟨some 51, .mv, [.t 3], some (48, true), []⟩, ⟨some 52, .b2s, [.t 51], some (48, true), []⟩, ⟨some 53, .bin .eql,
  [.t 50, .t 52], some (48, true), []⟩, ⟨some 54, .pick, [.t 48, .t 53, .k (.d (.bool false))], none, []⟩, ⟨some 55, .mv, [.t 54], none, []⟩, ⟨some 56, .call 11 false, [], some
  (55, true), []⟩, ⟨some 57, .pick, [.t 55, .t 56, .k (.d (.bool false))], none, []⟩, ⟨some 8, .mv, [.t 57], none, []⟩] [8]) .ret))))
def passkeylaw6SealBackRr : List RR := [.t 8]
theorem passkeylaw6SealBackC : compFn Try.prog 6 passkeylaw6SealBackH = some (passkeylaw6SealBackRc, passkeylaw6SealBackRr, 58) := by kernel_rfl
theorem passkeylaw6SealBackOK (a0 : BitVec 64) (a1 : BitVec 64) (a2 : List (BitVec 8)) (a3 : List (BitVec 8)) (res : Bool) (h : passkeylaw6SealBack a0 a1 a2 a3 = some res) : CallOK Try.prog 6 [.d (eU64 a0), .d (eU64 a1), .d ((eL 1 eU8) a2), .d ((eL 1 eU8) a3)] [] (.d (eB res)) [] := by
  unfold passkeylaw6SealBack at h
  refine callOK passkeylaw6SealBackC fm rfl ?_
  simp only [initE, initM, nbor, List.map_cons, List.map_nil, Nat.reduceAdd]
  unfold passkeylaw6SealBackRc
  refine rwp_seq fun K1 hK1 => ?_
  refine rwp_region fun K2 hK2 => ?_
  refine st0 128 rfl (ok (mv (.d (eB false)))) ?_
  refine hK2 _ _ ?_
  simp only [thenK, blockK, keepE, updM, List.filter_cons, List.filter_nil, List.nil_append, List.cons_append, List.map_cons, List.map_nil, envE, Mem.get, Nat.reduceEqDiff, reduceIte, Option.isNone_none, Option.isNone_some, Bool.false_eq_true, List.length_cons, List.length_nil, Nat.reduceAdd, Nat.reduceMul]
  refine hK1 _ _ _ ?_
  refine rwp_seq fun K3 hK3 => ?_
  refine rwp_seq fun K4 hK4 => ?_
  refine rwp_region fun K5 hK5 => ?_
  refine st0 192 rfl (ok (mv (.d ((eL 1 eU8) a2)))) ?_
  refine st0 256 rfl (ok (mv (.d ((eL 1 eU8) a3)))) ?_
  refine st1 320 rfl (mem' := [(256, .row true 1 (([a2, a3] : List (List (BitVec 8))).map (eL 1 eU8)))]) (ok (bsl (e := (eL 1 eU8)) (ys := ([a2, a3] : List (List (BitVec 8)))) rfl rfl rfl)) rfl ?_
  obtain ⟨y6, h7, h⟩ := bind_inv h
  refine st0 384 rfl (call_ok (v := .d (eB y6)) (u := []) (ar_to rfl (to_1 rfl (ds_r (ys := ([a2, a3] : List (List (BitVec 8)))) rfl rfl rfl ds_nil)) ar_nil) rfl (passkeylaw6shortOK ([a2, a3] : List (List (BitVec 8))) y6 h7) rfl) ?_
  refine st0 448 rfl (ok (notB _)) ?_
  refine hK5 _ _ ?_
  simp only [thenK, blockK, keepE, updM, List.filter_cons, List.filter_nil, List.nil_append, List.cons_append, List.map_cons, List.map_nil, envE, Mem.get, Nat.reduceEqDiff, reduceIte, Option.isNone_none, Option.isNone_some, Bool.false_eq_true, List.length_cons, List.length_nil, Nat.reduceAdd, Nat.reduceMul]
  refine hK4 _ _ _ ?_
  rcases Bool.eq_false_or_eq_true ((!y6)) with h8 | h8
  · replace h := ite_t h h8
    refine rwp_t (isT h8) ?_
    refine rwp_seq fun K9 hK9 => ?_
    refine rwp_region fun K10 hK10 => ?_
    obtain ⟨y11, h12, h⟩ := bind_inv h
    refine st0 512 rfl (call_ok (v := .d (eB y11)) (u := []) ar_nil rfl (passkeylaw6awakeOK  y11 h12) rfl) ?_
    refine st0 576 rfl (ok (mv (.d (eB y11)))) ?_
    refine hK10 _ _ ?_
    simp only [thenK, blockK, keepE, updM, List.filter_cons, List.filter_nil, List.nil_append, List.cons_append, List.map_cons, List.map_nil, envE, Mem.get, Nat.reduceEqDiff, reduceIte, Option.isNone_none, Option.isNone_some, Bool.false_eq_true, List.length_cons, List.length_nil, Nat.reduceAdd, Nat.reduceMul]
    refine hK9 _ _ _ ?_
    refine rwp_ret ?_
    obtain rfl := Option.some.inj h
    try simp only [thenK, blockK, reduceIte]
    exact Or.inl (end_ok trivial (rs_t (v := .d (eB y11)) rfl rs_nil) (en_d (to_d _) en_nil) ou_nil (by first | exact eok rfl rfl rfl rfl trivial | (refine eok ?_ ?_ ?_ ?_ ?_ <;> first | rfl | exact trivial | simp [retM, Mem.get, PV.renL, PV.ren, Blk.ren, comps, rhoR, rhoM, appN, PV.refsL, PV.refs, keys, nodupB, Blk.refs, allIn, Blk.bor])))
  · replace h := ite_f h h8
    refine rwp_f (isF h8) ?_
    refine rwp_skip ?_
    refine hK3 _ _ _ ?_
    refine rwp_seq fun K13 hK13 => ?_
    refine rwp_region fun K14 hK14 => ?_
    refine st0 512 rfl (ok (mv (.d (eU64 a0)))) ?_
    refine st0 576 rfl (ok (mv (.d (eU64 a1)))) ?_
    refine st0 640 rfl (ok (mv (.d ((eL 1 eU8) a2)))) ?_
    refine st0 704 rfl (ok (mv (.d ((eL 1 eU8) a3)))) ?_
    obtain ⟨y15, h16, h⟩ := bind_inv h
    refine st1 768 rfl (mem' := [(704, .row true 1 (y15.1.map eU8)), (256, .row true 1 (([a2, a3] : List (List (BitVec 8))).map (eL 1 eU8)))]) (call_ok (v := .tup [.ref 704 y15.1.length 0 y15.1.length, .d (eI y15.2)]) (u := [(704, .row true 1 (y15.1.map eU8))]) (ar_d (eU64 a0) (ar_d (eU64 a1) (ar_d ((eL 1 eU8) a2) (ar_d ((eL 1 eU8) a3) ar_nil)))) rfl (sealSealOK a0 a1 a2 a3 y15 h16) rfl) rfl ?_
    refine st0 832 rfl (ok (mv (.tup [.ref 704 y15.1.length 0 y15.1.length, .d (eI y15.2)]))) ?_
    refine st0 896 rfl (ok (extr (v := .ref 704 y15.1.length 0 y15.1.length) rfl rfl)) ?_
    refine st0 960 rfl (ok (extr (v := .d (eI y15.2)) rfl rfl)) ?_
    refine st0 1024 rfl (ok (mv (.ref 704 y15.1.length 0 y15.1.length))) ?_
    refine st0 1088 rfl (ok (mv (.d (eI y15.2)))) ?_
    refine hK14 _ _ ?_
    simp only [thenK, blockK, keepE, updM, List.filter_cons, List.filter_nil, List.nil_append, List.cons_append, List.map_cons, List.map_nil, envE, Mem.get, Nat.reduceEqDiff, reduceIte, Option.isNone_none, Option.isNone_some, Bool.false_eq_true, List.length_cons, List.length_nil, Nat.reduceAdd, Nat.reduceMul]
    refine hK13 _ _ _ ?_
    refine rwp_seq fun K17 hK17 => ?_
    refine rwp_region fun K18 hK18 => ?_
    refine st0 1152 rfl (ok (mv (.d (eU64 a0)))) ?_
    refine st0 1216 rfl (ok (mv (.d ((eL 1 eU8) a2)))) ?_
    refine st0 1280 rfl (ok (mv (.ref 704 y15.1.length 0 y15.1.length))) ?_
    obtain ⟨y19, h20, h⟩ := bind_inv h
    refine st1 1344 rfl (mem' := [(1280, .row true 1 (y19.1.map eU8)), (704, .row false 1 (y15.1.map eU8)), (256, .row true 1 (([a2, a3] : List (List (BitVec 8))).map (eL 1 eU8)))]) (call_ok (v := .tup [.ref 1280 y19.1.length 0 y19.1.length, .d (eI y19.2)]) (u := [(1280, .row true 1 (y19.1.map eU8)), (704, .row false 1 (y15.1.map eU8))]) (ar_d (eU64 a0) (ar_d ((eL 1 eU8) a2) (ar_to rfl (to_1 rfl (ds_r (ys := y15.1) rfl rfl rfl ds_nil)) ar_nil))) rfl (sealOpenOK a0 a2 y15.1 y19 h20) rfl) rfl ?_
    refine st0 1408 rfl (ok (mv (.tup [.ref 1280 y19.1.length 0 y19.1.length, .d (eI y19.2)]))) ?_
    refine st0 1472 rfl (ok (extr (v := .ref 1280 y19.1.length 0 y19.1.length) rfl rfl)) ?_
    refine st0 1536 rfl (ok (extr (v := .d (eI y19.2)) rfl rfl)) ?_
    refine st0 1600 rfl (ok (mv (.ref 1280 y19.1.length 0 y19.1.length))) ?_
    refine st0 1664 rfl (ok (mv (.d (eI y19.2)))) ?_
    refine hK18 _ _ ?_
    simp only [thenK, blockK, keepE, updM, List.filter_cons, List.filter_nil, List.nil_append, List.cons_append, List.map_cons, List.map_nil, envE, Mem.get, Nat.reduceEqDiff, reduceIte, Option.isNone_none, Option.isNone_some, Bool.false_eq_true, List.length_cons, List.length_nil, Nat.reduceAdd, Nat.reduceMul]
    refine hK17 _ _ _ ?_
    refine rwp_seq fun K21 hK21 => ?_
    refine rwp_region fun K22 hK22 => ?_
    refine st0 1728 rfl (ok (mv (.d (eI y15.2)))) ?_
    refine st0 1792 rfl (ok (eqlI _ (0 : Int))) ?_
    refine st0 1856 rfl (ok (mv (.d (eB (y15.2 == (0 : Int)))))) ?_
    rcases Bool.eq_false_or_eq_true ((y15.2 == (0 : Int))) with h23 | h23
    · replace h := ite_t h h23
      refine stG (isT h23) ?_
      refine st0 1920 rfl (ok (mv (.d (eI y19.2)))) ?_
      refine stG (isT h23) ?_
      refine st0 1984 rfl (ok (eqlI _ (0 : Int))) ?_
      refine st0 2048 rfl (ok (pick_t h23 (.d (eB (y19.2 == (0 : Int)))) _)) ?_
      refine st0 2112 rfl (ok (mv (.d (eB (y19.2 == (0 : Int)))))) ?_
      rcases Bool.eq_false_or_eq_true ((y19.2 == (0 : Int))) with h24 | h24
      · replace h := ite_t h h24
        refine stG (isT h24) ?_
        refine st0 2176 rfl (ok (mv (.ref 704 y15.1.length 0 y15.1.length))) ?_
        refine stG (isT h24) ?_
        refine st0 2240 rfl (ok (lenR _ _ _ _)) ?_
        refine stG (isT h24) ?_
        refine st0 2304 rfl (ok (mv (.d ((eL 1 eU8) a3)))) ?_
        refine stG (isT h24) ?_
        refine st0 2368 rfl (ok (lenL _ _)) ?_
        refine stG (isT h24) ?_
        refine st0 2432 rfl (ok (addI _ (16 : Int))) ?_
        refine stG (isT h24) ?_
        refine st0 2496 rfl (ok (eqlI _ _)) ?_
        refine st0 2560 rfl (ok (pick_t h24 (.d (eB ((y15.1.length : Int) == (w64 ((a3.length : Int) + (16 : Int)))))) _)) ?_
        refine st0 2624 rfl (ok (mv (.d (eB ((y15.1.length : Int) == (w64 ((a3.length : Int) + (16 : Int)))))))) ?_
        rcases Bool.eq_false_or_eq_true (((y15.1.length : Int) == (w64 ((a3.length : Int) + (16 : Int))))) with h25 | h25
        · replace h := ite_t h h25
          refine stG (isT h25) ?_
          refine st0 2688 rfl (ok (mv (.ref 1280 y19.1.length 0 y19.1.length))) ?_
          refine stG (isT h25) ?_
          refine st0 2752 rfl (ok (b2s (contR (xs := y19.1) rfl rfl rfl))) ?_
          refine stG (isT h25) ?_
          refine st0 2816 rfl (ok (mv (.d ((eL 1 eU8) a3)))) ?_
          refine stG (isT h25) ?_
          refine st0 2880 rfl (ok (b2s contL)) ?_
          refine stG (isT h25) ?_
          refine st0 2944 rfl (ok (eqlS y19.1 a3)) ?_
          refine st0 3008 rfl (ok (pick_t h25 (.d (eB (y19.1 == a3))) _)) ?_
          refine st0 3072 rfl (ok (mv (.d (eB (y19.1 == a3))))) ?_
          rcases Bool.eq_false_or_eq_true ((y19.1 == a3)) with h26 | h26
          · replace h := ite_t h h26
            refine stG (isT h26) ?_
            obtain ⟨y27, h28, h⟩ := bind_inv h
            refine st0 3136 rfl (call_ok (v := .d (eB y27)) (u := []) ar_nil rfl (passkeylaw6awakeOK  y27 h28) rfl) ?_
            refine st0 3200 rfl (ok (pick_t h26 (.d (eB y27)) _)) ?_
            refine st0 3264 rfl (ok (mv (.d (eB y27)))) ?_
            refine hK22 _ _ ?_
            simp only [thenK, blockK, keepE, updM, List.filter_cons, List.filter_nil, List.nil_append, List.cons_append, List.map_cons, List.map_nil, envE, Mem.get, Nat.reduceEqDiff, reduceIte, Option.isNone_none, Option.isNone_some, Bool.false_eq_true, List.length_cons, List.length_nil, Nat.reduceAdd, Nat.reduceMul]
            refine hK21 _ _ _ ?_
            refine rwp_ret ?_
            obtain rfl := Option.some.inj h
            try simp only [thenK, blockK, reduceIte]
            exact Or.inl (end_ok trivial (rs_t (v := .d (eB y27)) rfl rs_nil) (en_d (to_d _) en_nil) ou_nil (by first | exact eok rfl rfl rfl rfl trivial | (refine eok ?_ ?_ ?_ ?_ ?_ <;> first | rfl | exact trivial | simp [retM, Mem.get, PV.renL, PV.ren, Blk.ren, comps, rhoR, rhoM, appN, PV.refsL, PV.refs, keys, nodupB, Blk.refs, allIn, Blk.bor])))
          · replace h := ite_f h h26
            refine stGN 3136 rfl rfl h26 ?_
            refine st0 3200 rfl (ok (pick_f h26 _ (.d (eB false)))) ?_
            refine st0 3264 rfl (ok (mv (.d (eB false)))) ?_
            refine hK22 _ _ ?_
            simp only [thenK, blockK, keepE, updM, List.filter_cons, List.filter_nil, List.nil_append, List.cons_append, List.map_cons, List.map_nil, envE, Mem.get, Nat.reduceEqDiff, reduceIte, Option.isNone_none, Option.isNone_some, Bool.false_eq_true, List.length_cons, List.length_nil, Nat.reduceAdd, Nat.reduceMul]
            refine hK21 _ _ _ ?_
            refine rwp_ret ?_
            obtain rfl := Option.some.inj h
            try simp only [thenK, blockK, reduceIte]
            exact Or.inl (end_ok trivial (rs_t (v := .d (eB false)) rfl rs_nil) (en_d (to_d _) en_nil) ou_nil (by first | exact eok rfl rfl rfl rfl trivial | (refine eok ?_ ?_ ?_ ?_ ?_ <;> first | rfl | exact trivial | simp [retM, Mem.get, PV.renL, PV.ren, Blk.ren, comps, rhoR, rhoM, appN, PV.refsL, PV.refs, keys, nodupB, Blk.refs, allIn, Blk.bor])))
        · replace h := ite_f h h25
          refine stGN 2688 rfl rfl h25 ?_
          refine stGN 2752 rfl rfl h25 ?_
          refine stGN 2816 rfl rfl h25 ?_
          refine stGN 2880 rfl rfl h25 ?_
          refine stGN 2944 rfl rfl h25 ?_
          refine st0 3008 rfl (ok (pick_f h25 _ (.d (eB false)))) ?_
          refine st0 3072 rfl (ok (mv (.d (eB false)))) ?_
          refine stGN 3136 rfl rfl rfl ?_
          refine st0 3200 rfl (ok (pick_f rfl _ (.d (eB false)))) ?_
          refine st0 3264 rfl (ok (mv (.d (eB false)))) ?_
          refine hK22 _ _ ?_
          simp only [thenK, blockK, keepE, updM, List.filter_cons, List.filter_nil, List.nil_append, List.cons_append, List.map_cons, List.map_nil, envE, Mem.get, Nat.reduceEqDiff, reduceIte, Option.isNone_none, Option.isNone_some, Bool.false_eq_true, List.length_cons, List.length_nil, Nat.reduceAdd, Nat.reduceMul]
          refine hK21 _ _ _ ?_
          refine rwp_ret ?_
          obtain rfl := Option.some.inj h
          try simp only [thenK, blockK, reduceIte]
          exact Or.inl (end_ok trivial (rs_t (v := .d (eB false)) rfl rs_nil) (en_d (to_d _) en_nil) ou_nil (by first | exact eok rfl rfl rfl rfl trivial | (refine eok ?_ ?_ ?_ ?_ ?_ <;> first | rfl | exact trivial | simp [retM, Mem.get, PV.renL, PV.ren, Blk.ren, comps, rhoR, rhoM, appN, PV.refsL, PV.refs, keys, nodupB, Blk.refs, allIn, Blk.bor])))
      · replace h := ite_f h h24
        refine stGN 2176 rfl rfl h24 ?_
        refine stGN 2240 rfl rfl h24 ?_
        refine stGN 2304 rfl rfl h24 ?_
        refine stGN 2368 rfl rfl h24 ?_
        refine stGN 2432 rfl rfl h24 ?_
        refine stGN 2496 rfl rfl h24 ?_
        refine st0 2560 rfl (ok (pick_f h24 _ (.d (eB false)))) ?_
        refine st0 2624 rfl (ok (mv (.d (eB false)))) ?_
        refine stGN 2688 rfl rfl rfl ?_
        refine stGN 2752 rfl rfl rfl ?_
        refine stGN 2816 rfl rfl rfl ?_
        refine stGN 2880 rfl rfl rfl ?_
        refine stGN 2944 rfl rfl rfl ?_
        refine st0 3008 rfl (ok (pick_f rfl _ (.d (eB false)))) ?_
        refine st0 3072 rfl (ok (mv (.d (eB false)))) ?_
        refine stGN 3136 rfl rfl rfl ?_
        refine st0 3200 rfl (ok (pick_f rfl _ (.d (eB false)))) ?_
        refine st0 3264 rfl (ok (mv (.d (eB false)))) ?_
        refine hK22 _ _ ?_
        simp only [thenK, blockK, keepE, updM, List.filter_cons, List.filter_nil, List.nil_append, List.cons_append, List.map_cons, List.map_nil, envE, Mem.get, Nat.reduceEqDiff, reduceIte, Option.isNone_none, Option.isNone_some, Bool.false_eq_true, List.length_cons, List.length_nil, Nat.reduceAdd, Nat.reduceMul]
        refine hK21 _ _ _ ?_
        refine rwp_ret ?_
        obtain rfl := Option.some.inj h
        try simp only [thenK, blockK, reduceIte]
        exact Or.inl (end_ok trivial (rs_t (v := .d (eB false)) rfl rs_nil) (en_d (to_d _) en_nil) ou_nil (by first | exact eok rfl rfl rfl rfl trivial | (refine eok ?_ ?_ ?_ ?_ ?_ <;> first | rfl | exact trivial | simp [retM, Mem.get, PV.renL, PV.ren, Blk.ren, comps, rhoR, rhoM, appN, PV.refsL, PV.refs, keys, nodupB, Blk.refs, allIn, Blk.bor])))
    · replace h := ite_f h h23
      refine stGN 1920 rfl rfl h23 ?_
      refine stGN 1984 rfl rfl h23 ?_
      refine st0 2048 rfl (ok (pick_f h23 _ (.d (eB false)))) ?_
      refine st0 2112 rfl (ok (mv (.d (eB false)))) ?_
      refine stGN 2176 rfl rfl rfl ?_
      refine stGN 2240 rfl rfl rfl ?_
      refine stGN 2304 rfl rfl rfl ?_
      refine stGN 2368 rfl rfl rfl ?_
      refine stGN 2432 rfl rfl rfl ?_
      refine stGN 2496 rfl rfl rfl ?_
      refine st0 2560 rfl (ok (pick_f rfl _ (.d (eB false)))) ?_
      refine st0 2624 rfl (ok (mv (.d (eB false)))) ?_
      refine stGN 2688 rfl rfl rfl ?_
      refine stGN 2752 rfl rfl rfl ?_
      refine stGN 2816 rfl rfl rfl ?_
      refine stGN 2880 rfl rfl rfl ?_
      refine stGN 2944 rfl rfl rfl ?_
      refine st0 3008 rfl (ok (pick_f rfl _ (.d (eB false)))) ?_
      refine st0 3072 rfl (ok (mv (.d (eB false)))) ?_
      refine stGN 3136 rfl rfl rfl ?_
      refine st0 3200 rfl (ok (pick_f rfl _ (.d (eB false)))) ?_
      refine st0 3264 rfl (ok (mv (.d (eB false)))) ?_
      refine hK22 _ _ ?_
      simp only [thenK, blockK, keepE, updM, List.filter_cons, List.filter_nil, List.nil_append, List.cons_append, List.map_cons, List.map_nil, envE, Mem.get, Nat.reduceEqDiff, reduceIte, Option.isNone_none, Option.isNone_some, Bool.false_eq_true, List.length_cons, List.length_nil, Nat.reduceAdd, Nat.reduceMul]
      refine hK21 _ _ _ ?_
      refine rwp_ret ?_
      obtain rfl := Option.some.inj h
      try simp only [thenK, blockK, reduceIte]
      exact Or.inl (end_ok trivial (rs_t (v := .d (eB false)) rfl rs_nil) (en_d (to_d _) en_nil) ou_nil (by first | exact eok rfl rfl rfl rfl trivial | (refine eok ?_ ?_ ?_ ?_ ?_ <;> first | rfl | exact trivial | simp [retM, Mem.get, PV.renL, PV.ren, Blk.ren, comps, rhoR, rhoM, appN, PV.refsL, PV.refs, keys, nodupB, Blk.refs, allIn, Blk.bor])))

end Go.Proofs.Ty
