/- Each Go function comes to what its plain function says. PRINTED by a program of this session (ty.py). -/
import Derived.Test.YtkcbojjoellloaaS4
set_option linter.unusedVariables false
set_option linter.unusedSimpArgs false
set_option maxHeartbeats 4000000
set_option maxRecDepth 10000
namespace Go.Proofs.Ty
open Go Go.RW Go.Proofs
/-- passkey/passkeylaw6.SealStreams -/
def passkeylaw6SealStreamsH : Hints := ⟨[(0, [0, 1, 2, 3]), (1, [0, 1, 2, 3, 9, 10]), (2, [8])], []⟩
def passkeylaw6SealStreamsRc : RCode :=
  .seq (.region false [⟨some 8, .mv, [.k (.d (.bool false))], none, []⟩] [0, 1, 2, 3]) (.seq (.region false [⟨some 11, .mv, [.t 0], none, []⟩, ⟨some 12, .mv, [.t 1], none, []⟩, ⟨some
  13, .mv, [.t 2], none, []⟩, ⟨some 14, .call 9 true, [.t 11, .t 12, .t 13], none, []⟩, ⟨some 15, .mv, [.t 0], none, []⟩, ⟨some 16, .mv, [.t 1], none, []⟩, ⟨some 17, .mv, [.t 3],
  none, []⟩, ⟨some 18, .cvt .i64, [.t 17], none, []⟩, ⟨some 19, .call 9 true, [.t 15, .t 16, .t 18], none, []⟩, ⟨some 9, .mv, [.t 14], none, []⟩, ⟨some 10, .mv, [.t 19], none, []⟩]
  [0, 1, 2, 3, 9, 10]) (.seq (.region true [⟨some 20, .mv, [.t 9], none, []⟩, ⟨some 21, .b2s, [.t 20], none, [0]⟩, ⟨some 22, .mv, [.t 0], none, []⟩, ⟨some 23, .mv, [.t 1], none,
  []⟩, ⟨some 24, .mv, [.t 2], none, []⟩, ⟨some 25, .call 10 true, [.t 22, .t 23, .t 24], none, [2, 3, 4]⟩, ⟨some 26, .b2s, [.t 25], none, [2, 3, 4, 5]⟩, ⟨some 27, .bin .eql, [.t
  21, .t 26], none, [0, 1, 2, 3, 4, 5, 6]⟩, ⟨some 28, .mv, [.t 27], none, [0, 1, 2, 3, 4, 5, 6, 7]⟩, ⟨some 29, .mv, [.t 10], some (28, true), [0, 1, 2, 3, 4, 5, 6, 7, 8]⟩, ⟨some
  30, .b2s, [.t 29], some (28, true), [0, 1, 2, 3, 4, 5, 6, 7, 8, 9]⟩, ⟨some 31, .mv, [.t 0], some (28, true), [0, 1, 2, 3, 4, 5, 6, 7, 8]⟩, ⟨some 32, .mv, [.t 1], some (28, true),
  [0, 1, 2, 3, 4, 5, 6, 7, 8]⟩, ⟨some 33, .mv, [.t 3], some (28, true), [0, 1, 2, 3, 4, 5, 6, 7, 8]⟩, ⟨some 34, .cvt .i64, [.t 33], some (28, true), [0, 1, 2, 3, 4, 5, 6, 7, 8,
  13]⟩, ⟨some 35, .call 10 true, [.t 31, .t 32, .t 34], some (28, true), [0, 1, 2, 3, 4, 5, 6, 7, 8, 11, 12, 13, 14]⟩, ⟨some 36, .b2s, [.t 35], some (28, true), [0, 1, 2, 3, 4, 5,
  6, 7, 8, 11, 12, 13, 14, 15]⟩, ⟨some 37, .bin .eql, [.t 30, .t 36], some (28, true), [0, 1, 2, 3, 4, 5, 6, 7, 8, 9, 10, 11, 12, 13, 14, 15, 16]⟩, ⟨some 38, .pick, [.t 28, .t 37,
  .k (.d (.bool false))], none, [0, 1, 2, 3, 4, 5, 6, 7, 8, 9, 10, 11, 12, 13, 14, 15, 16, 17]⟩, ⟨some 39, .mv, [.t 38], none, [0, 1, 2, 3, 4, 5, 6, 7, 8, 9, 10, 11, 12, 13, 14,
  15, 16, 17, 18]⟩, ⟨some 40, .mv, [.t 9], some (39, true), [0, 1, 2, 3, 4, 5, 6, 7, 8, 9, 10, 11, 12, 13, 14, 15, 16, 17, 18, 19]⟩, ⟨some 41, .len, [.t 40], some (39, true), [0,
  1, 2, 3, 4, 5, 6, 7, 8, 9, 10, 11, 12, 13, 14, 15, 16, 17, 18, 19, 20]⟩, ⟨some 42, .mv, [.t 10], some (39, true), [0, 1, 2, 3, 4, 5, 6, 7, 8, 9, 10, 11, 12, 13, 14, 15, 16, 17,
  18, 19]⟩, ⟨some 43, .len, [.t 42], some (39, true), [0, 1, 2, 3, 4, 5, 6, 7, 8, 9, 10, 11, 12, 13, 14, 15, 16, 17, 18, 19, 22]⟩, ⟨some 44, .bin .lss, [.t 41, .t 43], some (39,
  true), [0, 1, 2, 3, 4, 5, 6, 7, 8, 9, 10, 11, 12, 13, 14, 15, 16, 17, 18, 19, 20, 21, 22, 23]⟩, ⟨some 45, .mv, [.t 44], some (39, true), [0, 1, 2, 3, 4, 5, 6, 7, 8, 9, 10, 11,
  12, 13, 14, 15, 16, 17, 18, 19, 20, 21, 22, 23, 24]⟩, ⟨some 46, .mv, [.t 9], some (45, false), [0, 1, 2, 3, 4, 5, 6, 7, 8, 9, 10, 11, 12, 13, 14, 15, 16, 17, 18, 19, 20, 21, 22,
  23, 24, 25]⟩, ⟨some 47, .mv, [.t 10], some (45, false), [0, 1, 2, 3, 4, 5, 6, 7, 8, 9, 10, 11, 12, 13, 14, 15, 16, 17, 18, 19, 20, 21, 22, 23, 24, 25]⟩, ⟨some 48, .len, [.t 47],
  some (45, false), [0, 1, 2, 3, 4, 5, 6, 7, 8, 9, 10, 11, 12, 13, 14, 15, 16, 17, 18, 19, 20, 21, 22, 23, 24, 25, 27]⟩, ⟨some 49, .slice 1 false true false, [.t 46, .t 48], some
  (45, false), [0, 1, 2, 3, 4, 5, 6, 7, 8, 9, 10, 11, 12, 13, 14, 15, 16, 17, 18, 19, 20, 21, 22, 23, 24, 25, 26, 27, 28]⟩, ⟨some 50, .b2s, [.t 49], some (45, false), [0, 1, 2, 3,
  4, 5, 6, 7, 8, 9, 10, 11, 12, 13, 14, 15, 16, 17, 18, 19, 20, 21, 22, 23, 24, 25, 26, 27, 28, 29]⟩, ⟨some 51, .mv, [.t 10], some (45, false), [0, 1, 2, 3, 4, 5, 6, 7, 8, 9, 10,
  11, 12, 13, 14, 15, 16, 17, 18, 19, 20, 21, 22, 23, 24, 25]⟩, ⟨some 52, .b2s, [.t 51], some (45, false), [0, 1, 2, 3, 4, 5, 6, 7, 8, 9, 10, 11, 12, 13, 14, 15, 16, 17, 18, 19,
  20, 21, 22, 23, 24, 25, 31]⟩, ⟨some 53, .bin .eql, [.t 50, .t 52], some (45, false), [0, 1, 2, 3, 4, 5, 6, 7, 8, 9, 10, 11, 12, 13, 14, 15, 16, 17, 18, 19, 20, 21, 22, 23, 24,
  25, 26, 27, 28, 29, 30, 31, 32]⟩, ⟨some 54, .pick, [.t 45, .k (.d (.bool true)), .t 53], some (39, true), [0, 1, 2, 3, 4, 5, 6, 7, 8, 9, 10, 11, 12, 13, 14, 15, 16, 17, 18, 19,
  20, 21, 22, 23, 24, 25, 26, 27, 28, 29, 30, 31, 32, 33]⟩, ⟨some 55, .pick, [.t 39, .t 54, .k (.d (.bool false))], none, [0, 1, 2, 3, 4, 5, 6, 7, 8, 9, 10, 11, 12, 13, 14, 15, 16,
  17, 18, 19, 20, 21, 22, 23, 24, 25, 26, 27, 28, 29, 30, 31, 32, 33, 34]⟩, ⟨some 56, .mv, [.t 55], none, [0, 1, 2, 3, 4, 5, 6, 7, 8, 9, 10, 11, 12, 13, 14, 15, 16, 17, 18, 19, 20,
  21, 22, 23, 24, 25, 26, 27, 28, 29, 30, 31, 32, 33, 34, 35]⟩, ⟨some 57, .call 11 false, [], some (56, true), [0, 1, 2, 3, 4, 5, 6, 7, 8, 9, 10, 11, 12, 13, 14, 15, 16, 17, 18,
  19, 20, 21, 22, 23, 24, 25, 26, 27, 28, 29, 30, 31, 32, 33, 34, 35, 36]⟩, ⟨some 58, .pick, [.t 56, .t 57, .k (.d (.bool false))], none, [0, 1, 2, 3, 4, 5, 6, 7, 8, 9, 10, 11, 12,
  13, 14, 15, 16, 17, 18, 19, 20, 21, 22, 23, 24, 25, 26, 27, 28, 29, 30, 31, 32, 33, 34, 35, 36, 37]⟩, ⟨some 8, .mv, [.t 58], none, [0, 1, 2, 3, 4, 5, 6, 7, 8, 9, 10, 11, 12, 13,
  14, 15, 16, 17, 18, 19, 20, 21, 22, 23, 24, 25, 26, 27, 28, 29, 30, 31, 32, 33, 34, 35, 36, 37, 38]⟩] [8]) .ret))
def passkeylaw6SealStreamsRr : List RR := [.t 8]
theorem passkeylaw6SealStreamsC : compFn Try.prog 3 passkeylaw6SealStreamsH = some (passkeylaw6SealStreamsRc, passkeylaw6SealStreamsRr, 59) := by kernel_rfl
theorem passkeylaw6SealStreamsOK (a0 : BitVec 64) (a1 : BitVec 64) (a2 : Int) (a3 : BitVec 8) (res : Bool) (h : passkeylaw6SealStreams a0 a1 a2 a3 = some res) : CallOK Try.prog 3 [.d (eU64 a0), .d (eU64 a1), .d (eI a2), .d (eU8 a3)] [] (.d (eB res)) [] := by
  unfold passkeylaw6SealStreams at h
  refine callOK passkeylaw6SealStreamsC fm rfl ?_
  simp only [initE, initM, nbor, List.map_cons, List.map_nil, Nat.reduceAdd]
  unfold passkeylaw6SealStreamsRc
  refine rwp_seq fun K1 hK1 => ?_
  refine rwp_region fun K2 hK2 => ?_
  refine st0 128 rfl (ok (mv (.d (eB false)))) ?_
  refine hK2 _ _ ?_
  simp only [thenK, blockK, keepE, updM, List.filter_cons, List.filter_nil, List.nil_append, List.cons_append, List.map_cons, List.map_nil, envE, Mem.get, Nat.reduceEqDiff, reduceIte, Option.isNone_none, Option.isNone_some, Bool.false_eq_true, List.length_cons, List.length_nil, Nat.reduceAdd, Nat.reduceMul]
  refine hK1 _ _ _ ?_
  refine rwp_seq fun K3 hK3 => ?_
  refine rwp_region fun K4 hK4 => ?_
  refine st0 192 rfl (ok (mv (.d (eU64 a0)))) ?_
  refine st0 256 rfl (ok (mv (.d (eU64 a1)))) ?_
  refine st0 320 rfl (ok (mv (.d (eI a2)))) ?_
  obtain ⟨y5, h6, h⟩ := bind_inv h
  refine st0 384 rfl (call_ok (v := .d ((eL 1 eU8) y5)) (u := []) (ar_d (eU64 a0) (ar_d (eU64 a1) (ar_d (eI a2) ar_nil))) rfl (sealStreamOK a0 a1 a2 y5 h6) rfl) ?_
  refine st0 448 rfl (ok (mv (.d (eU64 a0)))) ?_
  refine st0 512 rfl (ok (mv (.d (eU64 a1)))) ?_
  refine st0 576 rfl (ok (mv (.d (eU8 a3)))) ?_
  refine st0 640 rfl (ok (toI8 _)) ?_
  obtain ⟨y7, h8, h⟩ := bind_inv h
  refine st0 704 rfl (call_ok (v := .d ((eL 1 eU8) y7)) (u := []) (ar_d (eU64 a0) (ar_d (eU64 a1) (ar_d (eI (a3.toNat : Int)) ar_nil))) rfl (sealStreamOK a0 a1 (a3.toNat : Int) y7 h8) rfl) ?_
  refine st0 768 rfl (ok (mv (.d ((eL 1 eU8) y5)))) ?_
  refine st0 832 rfl (ok (mv (.d ((eL 1 eU8) y7)))) ?_
  refine hK4 _ _ ?_
  simp only [thenK, blockK, keepE, updM, List.filter_cons, List.filter_nil, List.nil_append, List.cons_append, List.map_cons, List.map_nil, envE, Mem.get, Nat.reduceEqDiff, reduceIte, Option.isNone_none, Option.isNone_some, Bool.false_eq_true, List.length_cons, List.length_nil, Nat.reduceAdd, Nat.reduceMul]
  refine hK3 _ _ _ ?_
  refine rwp_seq fun K9 hK9 => ?_
  refine rwp_draw fun K10 hK10 => ?_
  refine dr0 896 rfl (ok (mv (.d ((eL 1 eU8) y5)))) (by kernel_rfl) ?_
  refine dr0 960 rfl (ok (b2s contL)) (by kernel_rfl) ?_
  refine dr0 1024 rfl (ok (mv (.d (eU64 a0)))) (by kernel_rfl) ?_
  refine dr0 1088 rfl (ok (mv (.d (eU64 a1)))) (by kernel_rfl) ?_
  refine dr0 1152 rfl (ok (mv (.d (eI a2)))) (by kernel_rfl) ?_
  obtain ⟨y11, h12, h⟩ := bind_inv h
  refine dr0 1216 rfl (call_ok (v := .d ((eL 1 eU8) y11)) (u := []) (ar_d (eU64 a0) (ar_d (eU64 a1) (ar_d (eI a2) ar_nil))) rfl (passkeyref3StreamOK a0 a1 a2 y11 h12) rfl) (by kernel_rfl) ?_
  refine dr0 1280 rfl (ok (b2s contL)) (by kernel_rfl) ?_
  refine dr0 1344 rfl (ok (eqlS y5 y11)) (by kernel_rfl) ?_
  refine dr0 1408 rfl (ok (mv (.d (eB (y5 == y11))))) (by kernel_rfl) ?_
  rcases Bool.eq_false_or_eq_true ((y5 == y11)) with h13 | h13
  · replace h := ite_t h h13
    refine drG (isT h13) ?_
    refine dr0 1472 rfl (ok (mv (.d ((eL 1 eU8) y7)))) (by kernel_rfl) ?_
    refine drG (isT h13) ?_
    refine dr0 1536 rfl (ok (b2s contL)) (by kernel_rfl) ?_
    refine drG (isT h13) ?_
    refine dr0 1600 rfl (ok (mv (.d (eU64 a0)))) (by kernel_rfl) ?_
    refine drG (isT h13) ?_
    refine dr0 1664 rfl (ok (mv (.d (eU64 a1)))) (by kernel_rfl) ?_
    refine drG (isT h13) ?_
    refine dr0 1728 rfl (ok (mv (.d (eU8 a3)))) (by kernel_rfl) ?_
    refine drG (isT h13) ?_
    refine dr0 1792 rfl (ok (toI8 _)) (by kernel_rfl) ?_
    refine drG (isT h13) ?_
    obtain ⟨y14, h15, h⟩ := bind_inv h
    refine dr0 1856 rfl (call_ok (v := .d ((eL 1 eU8) y14)) (u := []) (ar_d (eU64 a0) (ar_d (eU64 a1) (ar_d (eI (a3.toNat : Int)) ar_nil))) rfl (passkeyref3StreamOK a0 a1 (a3.toNat : Int) y14 h15) rfl) (by kernel_rfl) ?_
    refine drG (isT h13) ?_
    refine dr0 1920 rfl (ok (b2s contL)) (by kernel_rfl) ?_
    refine drG (isT h13) ?_
    refine dr0 1984 rfl (ok (eqlS y7 y14)) (by kernel_rfl) ?_
    refine dr0 2048 rfl (ok (pick_t h13 (.d (eB (y7 == y14))) _)) (by kernel_rfl) ?_
    refine dr0 2112 rfl (ok (mv (.d (eB (y7 == y14))))) (by kernel_rfl) ?_
    rcases Bool.eq_false_or_eq_true ((y7 == y14)) with h16 | h16
    · replace h := ite_t h h16
      refine drG (isT h16) ?_
      refine dr0 2176 rfl (ok (mv (.d ((eL 1 eU8) y5)))) (by kernel_rfl) ?_
      refine drG (isT h16) ?_
      refine dr0 2240 rfl (ok (lenL _ _)) (by kernel_rfl) ?_
      refine drG (isT h16) ?_
      refine dr0 2304 rfl (ok (mv (.d ((eL 1 eU8) y7)))) (by kernel_rfl) ?_
      refine drG (isT h16) ?_
      refine dr0 2368 rfl (ok (lenL _ _)) (by kernel_rfl) ?_
      refine drG (isT h16) ?_
      refine dr0 2432 rfl (ok (lssI _ _)) (by kernel_rfl) ?_
      refine drG (isT h16) ?_
      refine dr0 2496 rfl (ok (mv (.d (eB (decide ((y5.length : Int) < (y7.length : Int))))))) (by kernel_rfl) ?_
      rcases Bool.eq_false_or_eq_true ((decide ((y5.length : Int) < (y7.length : Int)))) with h17 | h17
      · replace h := ite_t h h17
        refine drGN 2560 rfl rfl h17 ?_
        refine drGN 2624 rfl rfl h17 ?_
        refine drGN 2688 rfl rfl h17 ?_
        refine drGN 2752 rfl rfl h17 ?_
        refine drGN 2816 rfl rfl h17 ?_
        refine drGN 2880 rfl rfl h17 ?_
        refine drGN 2944 rfl rfl h17 ?_
        refine drGN 3008 rfl rfl h17 ?_
        refine drG (isT h16) ?_
        refine dr0 3072 rfl (ok (pick_t h17 (.d (eB true)) _)) (by kernel_rfl) ?_
        refine dr0 3136 rfl (ok (pick_t h16 (.d (eB true)) _)) (by kernel_rfl) ?_
        refine dr0 3200 rfl (ok (mv (.d (eB true)))) (by kernel_rfl) ?_
        refine drG rfl ?_
        obtain ⟨y18, h19, h⟩ := bind_inv h
        refine dr0 3264 rfl (call_ok (v := .d (eB y18)) (u := []) ar_nil rfl (passkeylaw6awakeOK  y18 h19) rfl) (by kernel_rfl) ?_
        refine dr0 3328 rfl (ok (pick_t rfl (.d (eB y18)) _)) (by kernel_rfl) ?_
        refine dr0 3392 rfl (ok (mv (.d (eB y18)))) (by kernel_rfl) ?_
        refine hK10 _ _ ?_
        simp only [thenK, blockK, keepE, updM, List.filter_cons, List.filter_nil, List.nil_append, List.cons_append, List.map_cons, List.map_nil, envE, Mem.get, Nat.reduceEqDiff, reduceIte, Option.isNone_none, Option.isNone_some, Bool.false_eq_true, List.length_cons, List.length_nil, Nat.reduceAdd, Nat.reduceMul]
        refine hK9 _ _ _ ?_
        refine rwp_ret ?_
        obtain rfl := Option.some.inj h
        try simp only [thenK, blockK, reduceIte]
        exact Or.inl (end_ok trivial (rs_t (v := .d (eB y18)) rfl rs_nil) (en_d (to_d _) en_nil) ou_nil (by first | exact eok rfl rfl rfl rfl trivial | (refine eok ?_ ?_ ?_ ?_ ?_ <;> first | rfl | exact trivial | simp [retM, Mem.get, PV.renL, PV.ren, Blk.ren, comps, rhoR, rhoM, appN, PV.refsL, PV.refs, keys, nodupB, Blk.refs, allIn, Blk.bor])))
      · replace h := ite_f h h17
        refine drG (isF h17) ?_
        refine dr0 2560 rfl (ok (mv (.d ((eL 1 eU8) y5)))) (by kernel_rfl) ?_
        refine drG (isF h17) ?_
        refine dr0 2624 rfl (ok (mv (.d ((eL 1 eU8) y7)))) (by kernel_rfl) ?_
        refine drG (isF h17) ?_
        refine dr0 2688 rfl (ok (lenL _ _)) (by kernel_rfl) ?_
        refine drG (isF h17) ?_
        obtain ⟨h20, h⟩ := asq_inv h
        refine dr0 2752 rfl (ok (slL_h (xs := y5) (e := eU8) h20)) (by kernel_rfl) ?_
        refine drG (isF h17) ?_
        refine dr0 2816 rfl (ok (b2s contL)) (by kernel_rfl) ?_
        refine drG (isF h17) ?_
        refine dr0 2880 rfl (ok (mv (.d ((eL 1 eU8) y7)))) (by kernel_rfl) ?_
        refine drG (isF h17) ?_
        refine dr0 2944 rfl (ok (b2s contL)) (by kernel_rfl) ?_
        refine drG (isF h17) ?_
        refine dr0 3008 rfl (ok (eqlS (dropTake 0 (y7.length : Int).toNat y5) y7)) (by kernel_rfl) ?_
        refine drG (isT h16) ?_
        refine dr0 3072 rfl (ok (pick_f h17 _ (.d (eB ((dropTake 0 (y7.length : Int).toNat y5) == y7))))) (by kernel_rfl) ?_
        refine dr0 3136 rfl (ok (pick_t h16 (.d (eB ((dropTake 0 (y7.length : Int).toNat y5) == y7))) _)) (by kernel_rfl) ?_
        refine dr0 3200 rfl (ok (mv (.d (eB ((dropTake 0 (y7.length : Int).toNat y5) == y7))))) (by kernel_rfl) ?_
        rcases Bool.eq_false_or_eq_true (((dropTake 0 (y7.length : Int).toNat y5) == y7)) with h21 | h21
        · replace h := ite_t h h21
          refine drG (isT h21) ?_
          obtain ⟨y22, h23, h⟩ := bind_inv h
          refine dr0 3264 rfl (call_ok (v := .d (eB y22)) (u := []) ar_nil rfl (passkeylaw6awakeOK  y22 h23) rfl) (by kernel_rfl) ?_
          refine dr0 3328 rfl (ok (pick_t h21 (.d (eB y22)) _)) (by kernel_rfl) ?_
          refine dr0 3392 rfl (ok (mv (.d (eB y22)))) (by kernel_rfl) ?_
          refine hK10 _ _ ?_
          simp only [thenK, blockK, keepE, updM, List.filter_cons, List.filter_nil, List.nil_append, List.cons_append, List.map_cons, List.map_nil, envE, Mem.get, Nat.reduceEqDiff, reduceIte, Option.isNone_none, Option.isNone_some, Bool.false_eq_true, List.length_cons, List.length_nil, Nat.reduceAdd, Nat.reduceMul]
          refine hK9 _ _ _ ?_
          refine rwp_ret ?_
          obtain rfl := Option.some.inj h
          try simp only [thenK, blockK, reduceIte]
          exact Or.inl (end_ok trivial (rs_t (v := .d (eB y22)) rfl rs_nil) (en_d (to_d _) en_nil) ou_nil (by first | exact eok rfl rfl rfl rfl trivial | (refine eok ?_ ?_ ?_ ?_ ?_ <;> first | rfl | exact trivial | simp [retM, Mem.get, PV.renL, PV.ren, Blk.ren, comps, rhoR, rhoM, appN, PV.refsL, PV.refs, keys, nodupB, Blk.refs, allIn, Blk.bor])))
        · replace h := ite_f h h21
          refine drGN 3264 rfl rfl h21 ?_
          refine dr0 3328 rfl (ok (pick_f h21 _ (.d (eB false)))) (by kernel_rfl) ?_
          refine dr0 3392 rfl (ok (mv (.d (eB false)))) (by kernel_rfl) ?_
          refine hK10 _ _ ?_
          simp only [thenK, blockK, keepE, updM, List.filter_cons, List.filter_nil, List.nil_append, List.cons_append, List.map_cons, List.map_nil, envE, Mem.get, Nat.reduceEqDiff, reduceIte, Option.isNone_none, Option.isNone_some, Bool.false_eq_true, List.length_cons, List.length_nil, Nat.reduceAdd, Nat.reduceMul]
          refine hK9 _ _ _ ?_
          refine rwp_ret ?_
          obtain rfl := Option.some.inj h
          try simp only [thenK, blockK, reduceIte]
          exact Or.inl (end_ok trivial (rs_t (v := .d (eB false)) rfl rs_nil) (en_d (to_d _) en_nil) ou_nil (by first | exact eok rfl rfl rfl rfl trivial | (refine eok ?_ ?_ ?_ ?_ ?_ <;> first | rfl | exact trivial | simp [retM, Mem.get, PV.renL, PV.ren, Blk.ren, comps, rhoR, rhoM, appN, PV.refsL, PV.refs, keys, nodupB, Blk.refs, allIn, Blk.bor])))
    · replace h := ite_f h h16
      refine drGN 2176 rfl rfl h16 ?_
      refine drGN 2240 rfl rfl h16 ?_
      refine drGN 2304 rfl rfl h16 ?_
      refine drGN 2368 rfl rfl h16 ?_
      refine drGN 2432 rfl rfl h16 ?_
      refine drGN 2496 rfl rfl h16 ?_
      refine drGS 2560 rfl rfl ?_
      refine drGS 2624 rfl rfl ?_
      refine drGS 2688 rfl rfl ?_
      refine drGS 2752 rfl rfl ?_
      refine drGS 2816 rfl rfl ?_
      refine drGS 2880 rfl rfl ?_
      refine drGS 2944 rfl rfl ?_
      refine drGS 3008 rfl rfl ?_
      refine drGN 3072 rfl rfl h16 ?_
      refine dr0 3136 rfl (ok (pick_f h16 _ (.d (eB false)))) (by kernel_rfl) ?_
      refine dr0 3200 rfl (ok (mv (.d (eB false)))) (by kernel_rfl) ?_
      refine drGN 3264 rfl rfl rfl ?_
      refine dr0 3328 rfl (ok (pick_f rfl _ (.d (eB false)))) (by kernel_rfl) ?_
      refine dr0 3392 rfl (ok (mv (.d (eB false)))) (by kernel_rfl) ?_
      refine hK10 _ _ ?_
      simp only [thenK, blockK, keepE, updM, List.filter_cons, List.filter_nil, List.nil_append, List.cons_append, List.map_cons, List.map_nil, envE, Mem.get, Nat.reduceEqDiff, reduceIte, Option.isNone_none, Option.isNone_some, Bool.false_eq_true, List.length_cons, List.length_nil, Nat.reduceAdd, Nat.reduceMul]
      refine hK9 _ _ _ ?_
      refine rwp_ret ?_
      obtain rfl := Option.some.inj h
      try simp only [thenK, blockK, reduceIte]
      exact Or.inl (end_ok trivial (rs_t (v := .d (eB false)) rfl rs_nil) (en_d (to_d _) en_nil) ou_nil (by first | exact eok rfl rfl rfl rfl trivial | (refine eok ?_ ?_ ?_ ?_ ?_ <;> first | rfl | exact trivial | simp [retM, Mem.get, PV.renL, PV.ren, Blk.ren, comps, rhoR, rhoM, appN, PV.refsL, PV.refs, keys, nodupB, Blk.refs, allIn, Blk.bor])))
  · replace h := ite_f h h13
    refine drGN 1472 rfl rfl h13 ?_
    refine drGN 1536 rfl rfl h13 ?_
    refine drGN 1600 rfl rfl h13 ?_
    refine drGN 1664 rfl rfl h13 ?_
    refine drGN 1728 rfl rfl h13 ?_
    refine drGN 1792 rfl rfl h13 ?_
    refine drGN 1856 rfl rfl h13 ?_
    refine drGN 1920 rfl rfl h13 ?_
    refine drGN 1984 rfl rfl h13 ?_
    refine dr0 2048 rfl (ok (pick_f h13 _ (.d (eB false)))) (by kernel_rfl) ?_
    refine dr0 2112 rfl (ok (mv (.d (eB false)))) (by kernel_rfl) ?_
    refine drGN 2176 rfl rfl rfl ?_
    refine drGN 2240 rfl rfl rfl ?_
    refine drGN 2304 rfl rfl rfl ?_
    refine drGN 2368 rfl rfl rfl ?_
    refine drGN 2432 rfl rfl rfl ?_
    refine drGN 2496 rfl rfl rfl ?_
    refine drGS 2560 rfl rfl ?_
    refine drGS 2624 rfl rfl ?_
    refine drGS 2688 rfl rfl ?_
    refine drGS 2752 rfl rfl ?_
    refine drGS 2816 rfl rfl ?_
    refine drGS 2880 rfl rfl ?_
    refine drGS 2944 rfl rfl ?_
    refine drGS 3008 rfl rfl ?_
    refine drGN 3072 rfl rfl rfl ?_
    refine dr0 3136 rfl (ok (pick_f rfl _ (.d (eB false)))) (by kernel_rfl) ?_
    refine dr0 3200 rfl (ok (mv (.d (eB false)))) (by kernel_rfl) ?_
    refine drGN 3264 rfl rfl rfl ?_
    refine dr0 3328 rfl (ok (pick_f rfl _ (.d (eB false)))) (by kernel_rfl) ?_
    refine dr0 3392 rfl (ok (mv (.d (eB false)))) (by kernel_rfl) ?_
    refine hK10 _ _ ?_
    simp only [thenK, blockK, keepE, updM, List.filter_cons, List.filter_nil, List.nil_append, List.cons_append, List.map_cons, List.map_nil, envE, Mem.get, Nat.reduceEqDiff, reduceIte, Option.isNone_none, Option.isNone_some, Bool.false_eq_true, List.length_cons, List.length_nil, Nat.reduceAdd, Nat.reduceMul]
    refine hK9 _ _ _ ?_
    refine rwp_ret ?_
    obtain rfl := Option.some.inj h
    try simp only [thenK, blockK, reduceIte]
    exact Or.inl (end_ok trivial (rs_t (v := .d (eB false)) rfl rs_nil) (en_d (to_d _) en_nil) ou_nil (by first | exact eok rfl rfl rfl rfl trivial | (refine eok ?_ ?_ ?_ ?_ ?_ <;> first | rfl | exact trivial | simp [retM, Mem.get, PV.renL, PV.ren, Blk.ren, comps, rhoR, rhoM, appN, PV.refsL, PV.refs, keys, nodupB, Blk.refs, allIn, Blk.bor])))

/-- passkey/passkeylaw6.short -/
def passkeylaw6shortH : Hints := ⟨[(0, [0]), (1, [0, 3]), (2, [0, 3, 7]), (4, [0, 3, 15]), (5, [2]), (3, [0, 3]), (6, [2])], []⟩
def passkeylaw6shortRc : RCode :=
  .seq (.region false [⟨some 2, .mv, [.k (.d (.bool false))], none, []⟩] [0]) (.seq (.seq (.region false [⟨some 3, .mv, [.k (.d (.int .i64 0))], none, []⟩] [0, 3]) (.block 0 (.loop
  [] (.seq (.seq (.region false [⟨some 4, .mv, [.t 3], none, []⟩, ⟨some 5, .mv, [.t 0], none, []⟩, ⟨some 6, .len, [.t 5], none, []⟩, ⟨some 7, .bin .lss, [.t 4, .t 6], none, []⟩]
  [0, 3, 7]) (.cond (.t 7) .skip (.exit 0))) (.seq (.block 1 (.seq (.region false [⟨some 10, .mv, [.t 0], none, []⟩, ⟨some 11, .mv, [.t 3], none, []⟩, ⟨some 12, .ia 1, [.t 10, .t
  11], none, []⟩, ⟨some 13, .load 1 false, [.t 12], none, []⟩, ⟨some 14, .len, [.t 13], none, []⟩, ⟨some 15, .bin .gtr, [.t 14, .k (.d (.int .i64 300))], none, []⟩] [0, 3, 15])
  (.cond (.t 15) (.seq (.region false [⟨some 2, .mv, [.k (.d (.bool false))], none, []⟩] [2]) .ret) .skip))) (.region false [⟨some 8, .mv, [.t 3], none, []⟩, ⟨some 9, .bin .add,
  [.t 8, .k (.d (.int .i64 1))], none, []⟩, ⟨some 3, .mv, [.t 9], none, []⟩] [0, 3])))))) (.seq (.region false [⟨some 2, .mv, [.k (.d (.bool true))], none, []⟩] [2]) .ret))
def passkeylaw6shortRr : List RR := [.t 2]
theorem passkeylaw6shortC : compFn Try.prog 12 passkeylaw6shortH = some (passkeylaw6shortRc, passkeylaw6shortRr, 16) := by kernel_rfl
theorem passkeylaw6shortOK (a0 : List (List (BitVec 8))) (res : Bool) (h : passkeylaw6short a0 = some res) : CallOK Try.prog 12 [.d ((eL 1 (eL 1 eU8)) a0)] [] (.d (eB res)) [] := by
  unfold passkeylaw6short at h
  refine callOK passkeylaw6shortC fm rfl ?_
  simp only [initE, initM, nbor, List.map_cons, List.map_nil, Nat.reduceAdd]
  unfold passkeylaw6shortRc
  refine rwp_seq fun K1 hK1 => ?_
  refine rwp_region fun K2 hK2 => ?_
  refine st0 128 rfl (ok (mv (.d (eB false)))) ?_
  refine hK2 _ _ ?_
  simp only [thenK, blockK, keepE, updM, List.filter_cons, List.filter_nil, List.nil_append, List.cons_append, List.map_cons, List.map_nil, envE, Mem.get, Nat.reduceEqDiff, reduceIte, Option.isNone_none, Option.isNone_some, Bool.false_eq_true, List.length_cons, List.length_nil, Nat.reduceAdd, Nat.reduceMul]
  refine hK1 _ _ _ ?_
  refine rwp_join ([], []) 1472 (fun env mem => passkeylaw6shortJ1 = some res ∧ env = [] ∧ mem = []) (fun _ _ hI => ?_) (fun K3 hK3 => ?_)
  · obtain ⟨h, rfl, rfl⟩ := hI
    unfold passkeylaw6shortJ1 at h
    refine rwp_seq fun K4 hK4 => ?_
    refine rwp_region fun K5 hK5 => ?_
    refine st0 1536 rfl (ok (mv (.d (eB true)))) ?_
    refine hK5 _ _ ?_
    simp only [thenK, blockK, keepE, updM, List.filter_cons, List.filter_nil, List.nil_append, List.cons_append, List.map_cons, List.map_nil, envE, Mem.get, Nat.reduceEqDiff, reduceIte, Option.isNone_none, Option.isNone_some, Bool.false_eq_true, List.length_cons, List.length_nil, Nat.reduceAdd, Nat.reduceMul]
    refine hK4 _ _ _ ?_
    refine rwp_ret ?_
    obtain rfl := Option.some.inj h
    try simp only [thenK, blockK, reduceIte]
    exact Or.inl (end_ok trivial (rs_t (v := .d (eB true)) rfl rs_nil) (en_d (to_d _) en_nil) ou_nil (by first | exact eok rfl rfl rfl rfl trivial | (refine eok ?_ ?_ ?_ ?_ ?_ <;> first | rfl | exact trivial | simp [retM, Mem.get, PV.renL, PV.ren, Blk.ren, comps, rhoR, rhoM, appN, PV.refsL, PV.refs, keys, nodupB, Blk.refs, allIn, Blk.bor])))
  · refine rwp_seq fun K6 hK6 => ?_
    refine rwp_region fun K7 hK7 => ?_
    refine st0 192 rfl (ok (mv (.d (eI (0 : Int))))) ?_
    refine hK7 _ _ ?_
    simp only [thenK, blockK, keepE, updM, List.filter_cons, List.filter_nil, List.nil_append, List.cons_append, List.map_cons, List.map_nil, envE, Mem.get, Nat.reduceEqDiff, reduceIte, Option.isNone_none, Option.isNone_some, Bool.false_eq_true, List.length_cons, List.length_nil, Nat.reduceAdd, Nat.reduceMul]
    refine hK6 _ _ _ ?_
    refine rwp_block fun K8 hK8 => ?_
    refine rwp_loop ([], []) 1152 (fun k env mem => ∃ (v9 : Int), passkeylaw6shortL2 a0 k v9 = some res ∧ env = [(0, .d ((eL 1 (eL 1 eU8)) a0)), (3, .d (eI v9))] ∧ mem = []) FUEL ⟨_, _, Settled.refl, _, _, ⟨_, h, rfl, rfl⟩, ⟨rfl, ⟨⟨rfl, rfl⟩, ⟨⟨rfl, rfl⟩, trivial⟩⟩, trivial⟩, rfl⟩ (fun k2 env1 mem1 hI K10 hK10 => ?_)
    obtain ⟨v9, h, rfl, rfl⟩ := hI
    cases k2 with
    | zero => simp [passkeylaw6shortL2] at h
    | succ k2 =>
      rw [passkeylaw6shortL2] at h
      refine rwp_seq fun K11 hK11 => ?_
      refine rwp_seq fun K12 hK12 => ?_
      refine rwp_region fun K13 hK13 => ?_
      refine st0 1216 rfl (ok (mv (.d (eI v9)))) ?_
      refine st0 1280 rfl (ok (mv (.d ((eL 1 (eL 1 eU8)) a0)))) ?_
      refine st0 1344 rfl (ok (lenL _ _)) ?_
      refine st0 1408 rfl (ok (lssI _ _)) ?_
      refine hK13 _ _ ?_
      simp only [thenK, blockK, keepE, updM, List.filter_cons, List.filter_nil, List.nil_append, List.cons_append, List.map_cons, List.map_nil, envE, Mem.get, Nat.reduceEqDiff, reduceIte, Option.isNone_none, Option.isNone_some, Bool.false_eq_true, List.length_cons, List.length_nil, Nat.reduceAdd, Nat.reduceMul]
      refine hK12 _ _ _ ?_
      rcases Bool.eq_false_or_eq_true ((decide (v9 < (a0.length : Int)))) with h14 | h14
      · replace h := ite_t h h14
        refine rwp_t (isT h14) ?_
        refine rwp_skip ?_
        refine hK11 _ _ _ ?_
        refine rwp_seq fun K15 hK15 => ?_
        refine rwp_block fun K16 hK16 => ?_
        refine rwp_seq fun K17 hK17 => ?_
        refine rwp_region fun K18 hK18 => ?_
        refine st0 1472 rfl (ok (mv (.d ((eL 1 (eL 1 eU8)) a0)))) ?_
        refine st0 1536 rfl (ok (mv (.d (eI v9)))) ?_
        obtain ⟨h19, h⟩ := asq_inv h
        refine st0 1600 rfl (ok (iaL (e := (eL 1 eU8)) (xs := a0) ([] : List (BitVec 8)) h19)) ?_
        refine st0 1664 rfl (ok (ld_i (v := (eL 1 eU8) (a0.getD v9.toNat ([] : List (BitVec 8)))) rfl rfl)) ?_
        refine st0 1728 rfl (ok (lenL _ _)) ?_
        refine st0 1792 rfl (ok (gtrI _ (300 : Int))) ?_
        refine hK18 _ _ ?_
        simp only [thenK, blockK, keepE, updM, List.filter_cons, List.filter_nil, List.nil_append, List.cons_append, List.map_cons, List.map_nil, envE, Mem.get, Nat.reduceEqDiff, reduceIte, Option.isNone_none, Option.isNone_some, Bool.false_eq_true, List.length_cons, List.length_nil, Nat.reduceAdd, Nat.reduceMul]
        refine hK17 _ _ _ ?_
        rcases Bool.eq_false_or_eq_true ((decide ((300 : Int) < (((a0.getD v9.toNat ([] : List (BitVec 8)))).length : Int)))) with h20 | h20
        · replace h := ite_t h h20
          refine rwp_t (isT h20) ?_
          refine rwp_seq fun K21 hK21 => ?_
          refine rwp_region fun K22 hK22 => ?_
          refine st0 1856 rfl (ok (mv (.d (eB false)))) ?_
          refine hK22 _ _ ?_
          simp only [thenK, blockK, keepE, updM, List.filter_cons, List.filter_nil, List.nil_append, List.cons_append, List.map_cons, List.map_nil, envE, Mem.get, Nat.reduceEqDiff, reduceIte, Option.isNone_none, Option.isNone_some, Bool.false_eq_true, List.length_cons, List.length_nil, Nat.reduceAdd, Nat.reduceMul]
          refine hK21 _ _ _ ?_
          refine rwp_ret ?_
          obtain rfl := Option.some.inj h
          try simp only [thenK, blockK, reduceIte]
          exact Or.inl (end_ok trivial (rs_t (v := .d (eB false)) rfl rs_nil) (en_d (to_d _) en_nil) ou_nil (by first | exact eok rfl rfl rfl rfl trivial | (refine eok ?_ ?_ ?_ ?_ ?_ <;> first | rfl | exact trivial | simp [retM, Mem.get, PV.renL, PV.ren, Blk.ren, comps, rhoR, rhoM, appN, PV.refsL, PV.refs, keys, nodupB, Blk.refs, allIn, Blk.bor])))
        · replace h := ite_f h h20
          refine rwp_f (isF h20) ?_
          refine rwp_skip ?_
          refine hK16 _ _ _ ?_
          refine hK15 _ _ _ ?_
          refine rwp_region fun K23 hK23 => ?_
          refine st0 1856 rfl (ok (mv (.d (eI v9)))) ?_
          refine st0 1920 rfl (ok (addI _ (1 : Int))) ?_
          refine st0 1984 rfl (ok (mv (.d (eI (w64 (v9 + (1 : Int))))))) ?_
          refine hK23 _ _ ?_
          simp only [thenK, blockK, keepE, updM, List.filter_cons, List.filter_nil, List.nil_append, List.cons_append, List.map_cons, List.map_nil, envE, Mem.get, Nat.reduceEqDiff, reduceIte, Option.isNone_none, Option.isNone_some, Bool.false_eq_true, List.length_cons, List.length_nil, Nat.reduceAdd, Nat.reduceMul]
          exact hK10.out _ _ _ k2 (Nat.lt_succ_self k2) ⟨_, _, Settled.refl, _, _, ⟨_, h, rfl, rfl⟩, ⟨rfl, ⟨⟨rfl, rfl⟩, ⟨⟨rfl, rfl⟩, trivial⟩⟩, trivial⟩, rfl⟩
      · replace h := ite_f h h14
        refine rwp_f (isF h14) ?_
        refine rwp_exit ?_
        refine hK8 _ _ _ ?_
        exact hK3 _ _ _ ⟨_, _, Settled.refl, _, _, ⟨h, rfl, rfl⟩, ⟨rfl, trivial, trivial⟩, rfl⟩

/-- passkey/passkeyref3.mix -/
def passkeyref3mixH : Hints := ⟨[(0, [0, 1, 2]), (1, [2, 7]), (2, [2, 7, 8]), (3, [2, 7, 8, 9]), (4, [2, 7, 8, 9, 18]), (6, [2, 7, 8, 9]), (5, [2, 7, 8, 9]), (7, [6])], []⟩
def passkeyref3mixRc : RCode :=
  .seq (.region false [⟨some 6, .mv, [.k (.nil 1)], none, []⟩] [0, 1, 2]) (.seq (.region false [⟨some 10, .mv, [.t 0], none, []⟩, ⟨some 11, .mv, [.t 1], none, []⟩, ⟨some 12, .mv, [.t
  2], none, []⟩, ⟨some 13, .len, [.t 12], none, []⟩, ⟨some 14, .call 10 true, [.t 10, .t 11, .t 13], none, []⟩, ⟨some 7, .mv, [.t 14], none, []⟩] [2, 7]) (.seq (.region false
  [⟨some 8, .mv, [.k (.nil 1)], none, []⟩] [2, 7, 8]) (.seq (.seq (.region false [⟨some 9, .mv, [.k (.d (.int .i64 0))], none, []⟩] [2, 7, 8, 9]) (.block 0 (.loop [] (.seq (.seq
  (.region false [⟨some 15, .mv, [.t 9], none, []⟩, ⟨some 16, .mv, [.t 2], none, []⟩, ⟨some 17, .len, [.t 16], none, []⟩, ⟨some 18, .bin .lss, [.t 15, .t 17], none, []⟩] [2, 7, 8,
  9, 18]) (.cond (.t 18) .skip (.exit 0))) (.seq (.block 1 (.region true [⟨some 21, .mv, [.t 8], none, []⟩, ⟨some 22, .mv, [.t 2], none, []⟩, ⟨some 23, .mv, [.t 9], none, []⟩,
  ⟨some 24, .ia 1, [.t 22, .t 23], none, [1, 2]⟩, ⟨some 25, .load 1 false, [.t 24], none, [1, 2, 3]⟩, ⟨some 26, .mv, [.t 7], none, []⟩, ⟨some 27, .mv, [.t 9], none, []⟩, ⟨some 28,
  .ia 1, [.t 26, .t 27], none, [5, 6]⟩, ⟨some 29, .load 1 false, [.t 28], none, [5, 6, 7]⟩, ⟨some 30, .bin .xor, [.t 25, .t 29], none, [1, 2, 3, 4, 5, 6, 7, 8]⟩, ⟨some 31, .bslice
  1 false 1 [.d (.int .u8 0)] [0], [.t 30], none, [1, 2, 3, 4, 5, 6, 7, 8, 9]⟩, ⟨some 32, .app 1 140737488355328, [.t 21, .t 31], none, [0, 1, 2, 3, 4, 5, 6, 7, 8, 9, 10]⟩, ⟨some
  8, .mv, [.t 32], none, [0, 1, 2, 3, 4, 5, 6, 7, 8, 9, 10, 11]⟩] [2, 7, 8, 9])) (.region false [⟨some 19, .mv, [.t 9], none, []⟩, ⟨some 20, .bin .add, [.t 19, .k (.d (.int .i64
  1))], none, []⟩, ⟨some 9, .mv, [.t 20], none, []⟩] [2, 7, 8, 9])))))) (.seq (.region false [⟨some 33, .mv, [.t 8], none, []⟩, ⟨some 6, .mv, [.t 33], none, []⟩] [6]) .ret))))
def passkeyref3mixRr : List RR := [.t 6]
theorem passkeyref3mixC : compFn Try.prog 25 passkeyref3mixH = some (passkeyref3mixRc, passkeyref3mixRr, 34) := by kernel_rfl
theorem passkeyref3mixOK (a0 : BitVec 64) (a1 : BitVec 64) (a2 : List (BitVec 8)) (res : List (BitVec 8)) (h : passkeyref3mix a0 a1 a2 = some res) : CallOK Try.prog 25 [.d (eU64 a0), .d (eU64 a1), .d ((eL 1 eU8) a2)] [] (.ref 0 res.length 0 res.length) [(0, .row true 1 (res.map eU8))] := by
  unfold passkeyref3mix at h
  refine callOK passkeyref3mixC fm rfl ?_
  simp only [initE, initM, nbor, List.map_cons, List.map_nil, Nat.reduceAdd]
  unfold passkeyref3mixRc
  refine rwp_seq fun K1 hK1 => ?_
  refine rwp_region fun K2 hK2 => ?_
  refine st0 128 rfl (ok (mv (.nil 1))) ?_
  refine hK2 _ _ ?_
  simp only [thenK, blockK, keepE, updM, List.filter_cons, List.filter_nil, List.nil_append, List.cons_append, List.map_cons, List.map_nil, envE, Mem.get, Nat.reduceEqDiff, reduceIte, Option.isNone_none, Option.isNone_some, Bool.false_eq_true, List.length_cons, List.length_nil, Nat.reduceAdd, Nat.reduceMul]
  refine hK1 _ _ _ ?_
  refine rwp_seq fun K3 hK3 => ?_
  refine rwp_region fun K4 hK4 => ?_
  refine st0 192 rfl (ok (mv (.d (eU64 a0)))) ?_
  refine st0 256 rfl (ok (mv (.d (eU64 a1)))) ?_
  refine st0 320 rfl (ok (mv (.d ((eL 1 eU8) a2)))) ?_
  refine st0 384 rfl (ok (lenL _ _)) ?_
  obtain ⟨y5, h6, h⟩ := bind_inv h
  refine st0 448 rfl (call_ok (v := .d ((eL 1 eU8) y5)) (u := []) (ar_d (eU64 a0) (ar_d (eU64 a1) (ar_d (eI (a2.length : Int)) ar_nil))) rfl (passkeyref3StreamOK a0 a1 (a2.length : Int) y5 h6) rfl) ?_
  refine st0 512 rfl (ok (mv (.d ((eL 1 eU8) y5)))) ?_
  refine hK4 _ _ ?_
  simp only [thenK, blockK, keepE, updM, List.filter_cons, List.filter_nil, List.nil_append, List.cons_append, List.map_cons, List.map_nil, envE, Mem.get, Nat.reduceEqDiff, reduceIte, Option.isNone_none, Option.isNone_some, Bool.false_eq_true, List.length_cons, List.length_nil, Nat.reduceAdd, Nat.reduceMul]
  refine hK3 _ _ _ ?_
  refine rwp_seq fun K7 hK7 => ?_
  refine rwp_region fun K8 hK8 => ?_
  refine st0 576 rfl (ok (mv (.nil 1))) ?_
  refine hK8 _ _ ?_
  simp only [thenK, blockK, keepE, updM, List.filter_cons, List.filter_nil, List.nil_append, List.cons_append, List.map_cons, List.map_nil, envE, Mem.get, Nat.reduceEqDiff, reduceIte, Option.isNone_none, Option.isNone_some, Bool.false_eq_true, List.length_cons, List.length_nil, Nat.reduceAdd, Nat.reduceMul]
  refine hK7 _ _ _ ?_
  refine rwp_join ([], []) 2432 (fun env mem => ∃ (v9 : List (BitVec 8)), passkeyref3mixJ1 v9 = some res ∧ env = [(8, .ref 2049 v9.length 0 v9.length)] ∧ mem = [(2049, .row true 1 (v9.map eU8))]) (fun _ _ hI => ?_) (fun K10 hK10 => ?_)
  · obtain ⟨v9, h, rfl, rfl⟩ := hI
    unfold passkeyref3mixJ1 at h
    refine rwp_seq fun K11 hK11 => ?_
    refine rwp_region fun K12 hK12 => ?_
    refine st0 2496 rfl (ok (mv (.ref 2049 v9.length 0 v9.length))) ?_
    refine st0 2560 rfl (ok (mv (.ref 2049 v9.length 0 v9.length))) ?_
    refine hK12 _ _ ?_
    simp only [thenK, blockK, keepE, updM, List.filter_cons, List.filter_nil, List.nil_append, List.cons_append, List.map_cons, List.map_nil, envE, Mem.get, Nat.reduceEqDiff, reduceIte, Option.isNone_none, Option.isNone_some, Bool.false_eq_true, List.length_cons, List.length_nil, Nat.reduceAdd, Nat.reduceMul]
    refine hK11 _ _ _ ?_
    refine rwp_ret ?_
    obtain rfl := Option.some.inj h
    try simp only [thenK, blockK, reduceIte]
    exact Or.inl (end_ok trivial (rs_t (v := .ref 2049 v9.length 0 v9.length) rfl rs_nil) (en_ref en_nil) ou_nil (by first | exact eok rfl rfl rfl rfl (And.intro (And.intro rfl rfl) trivial) | (refine eok ?_ ?_ ?_ ?_ ?_ <;> first | rfl | exact (And.intro (And.intro rfl rfl) trivial) | simp [retM, Mem.get, PV.renL, PV.ren, Blk.ren, comps, rhoR, rhoM, appN, PV.refsL, PV.refs, keys, nodupB, Blk.refs, allIn, Blk.bor])))
  · refine rwp_seq fun K13 hK13 => ?_
    refine rwp_region fun K14 hK14 => ?_
    refine st0 640 rfl (ok (mv (.d (eI (0 : Int))))) ?_
    refine hK14 _ _ ?_
    simp only [thenK, blockK, keepE, updM, List.filter_cons, List.filter_nil, List.nil_append, List.cons_append, List.map_cons, List.map_nil, envE, Mem.get, Nat.reduceEqDiff, reduceIte, Option.isNone_none, Option.isNone_some, Bool.false_eq_true, List.length_cons, List.length_nil, Nat.reduceAdd, Nat.reduceMul]
    refine hK13 _ _ _ ?_
    refine rwp_block fun K15 hK15 => ?_
    refine rwp_loop ([(8, 2049)], []) 2112 (fun k env mem => ∃ (v16 : List (BitVec 8)) (v17 : Int), passkeyref3mixL2 a2 y5 k v16 v17 = some res ∧ env = [(2, .d ((eL 1 eU8) a2)), (7, .d ((eL 1 eU8) y5)), (8, .ref 2049 v16.length 0 v16.length), (9, .d (eI v17))] ∧ mem = [(2049, .row true 1 (v16.map eU8))]) FUEL ⟨_, _, Settled.refl, _, _, ⟨_, _, h, rfl, rfl⟩, ⟨rfl, ⟨⟨rfl, rfl⟩, ⟨⟨rfl, rfl⟩, ⟨⟨rfl, rfl⟩, ⟨⟨rfl, rfl⟩, trivial⟩⟩⟩⟩, ⟨⟨rfl, rfl⟩, trivial⟩⟩, rfl⟩ (fun k2 env1 mem1 hI K18 hK18 => ?_)
    obtain ⟨v16, v17, h, rfl, rfl⟩ := hI
    cases k2 with
    | zero => simp [passkeyref3mixL2] at h
    | succ k2 =>
      rw [passkeyref3mixL2] at h
      refine rwp_seq fun K19 hK19 => ?_
      refine rwp_seq fun K20 hK20 => ?_
      refine rwp_region fun K21 hK21 => ?_
      refine st0 2176 rfl (ok (mv (.d (eI v17)))) ?_
      refine st0 2240 rfl (ok (mv (.d ((eL 1 eU8) a2)))) ?_
      refine st0 2304 rfl (ok (lenL _ _)) ?_
      refine st0 2368 rfl (ok (lssI _ _)) ?_
      refine hK21 _ _ ?_
      simp only [thenK, blockK, keepE, updM, List.filter_cons, List.filter_nil, List.nil_append, List.cons_append, List.map_cons, List.map_nil, envE, Mem.get, Nat.reduceEqDiff, reduceIte, Option.isNone_none, Option.isNone_some, Bool.false_eq_true, List.length_cons, List.length_nil, Nat.reduceAdd, Nat.reduceMul]
      refine hK20 _ _ _ ?_
      rcases Bool.eq_false_or_eq_true ((decide (v17 < (a2.length : Int)))) with h22 | h22
      · replace h := ite_t h h22
        refine rwp_t (isT h22) ?_
        refine rwp_skip ?_
        refine hK19 _ _ _ ?_
        refine rwp_seq fun K23 hK23 => ?_
        refine rwp_block fun K24 hK24 => ?_
        refine rwp_draw fun K25 hK25 => ?_
        refine dr0 2432 rfl (ok (mv (.ref 2049 v16.length 0 v16.length))) (by kernel_rfl) ?_
        refine dr0 2496 rfl (ok (mv (.d ((eL 1 eU8) a2)))) (by kernel_rfl) ?_
        refine dr0 2560 rfl (ok (mv (.d (eI v17)))) (by kernel_rfl) ?_
        obtain ⟨h26, h⟩ := asq_inv h
        refine dr0 2624 rfl (ok (iaL (e := eU8) (xs := a2) 0#8 h26)) (by kernel_rfl) ?_
        refine dr0 2688 rfl (ok (ld_i (v := eU8 (a2.getD v17.toNat 0#8)) rfl rfl)) (by kernel_rfl) ?_
        refine dr0 2752 rfl (ok (mv (.d ((eL 1 eU8) y5)))) (by kernel_rfl) ?_
        refine dr0 2816 rfl (ok (mv (.d (eI v17)))) (by kernel_rfl) ?_
        obtain ⟨h27, h⟩ := asq_inv h
        refine dr0 2880 rfl (ok (iaL (e := eU8) (xs := y5) 0#8 h27)) (by kernel_rfl) ?_
        refine dr0 2944 rfl (ok (ld_i (v := eU8 (y5.getD v17.toNat 0#8)) rfl rfl)) (by kernel_rfl) ?_
        refine dr0 3008 rfl (ok (xor8 _ _)) (by kernel_rfl) ?_
        refine dr1 3072 rfl (mem' := [(3008, .row true 1 (([((a2.getD v17.toNat 0#8) ^^^ (y5.getD v17.toNat 0#8))] : List (BitVec 8)).map eU8)), (2049, .row true 1 (v16.map eU8))]) (ok (bsl (e := eU8) (ys := ([((a2.getD v17.toNat 0#8) ^^^ (y5.getD v17.toNat 0#8))] : List (BitVec 8))) rfl rfl rfl)) rfl (by kernel_rfl) ?_
        obtain ⟨h28, h⟩ := asq_inv h
        refine dr1 3136 rfl (mem' := [(2049, .row true 1 ((v16 ++ ([((a2.getD v17.toNat 0#8) ^^^ (y5.getD v17.toNat 0#8))] : List (BitVec 8))).map eU8)), (3008, .row true 1 (([((a2.getD v17.toNat 0#8) ^^^ (y5.getD v17.toNat 0#8))] : List (BitVec 8)).map eU8))]) (ok (appR (e := eU8) (xs := v16) (ys := ([((a2.getD v17.toNat 0#8) ^^^ (y5.getD v17.toNat 0#8))] : List (BitVec 8))) (contR (xs := ([((a2.getD v17.toNat 0#8) ^^^ (y5.getD v17.toNat 0#8))] : List (BitVec 8))) rfl rfl rfl) rfl rfl rfl h28)) rfl (by kernel_rfl) ?_
        refine dr0 3200 rfl (ok (mv (.ref 2049 (((v16 ++ ([((a2.getD v17.toNat 0#8) ^^^ (y5.getD v17.toNat 0#8))] : List (BitVec 8)))).length) 0 (((v16 ++ ([((a2.getD v17.toNat 0#8) ^^^ (y5.getD v17.toNat 0#8))] : List (BitVec 8)))).length)))) (by kernel_rfl) ?_
        refine hK25 _ _ ?_
        simp only [thenK, blockK, keepE, updM, List.filter_cons, List.filter_nil, List.nil_append, List.cons_append, List.map_cons, List.map_nil, envE, Mem.get, Nat.reduceEqDiff, reduceIte, Option.isNone_none, Option.isNone_some, Bool.false_eq_true, List.length_cons, List.length_nil, Nat.reduceAdd, Nat.reduceMul]
        refine hK24 _ _ _ ?_
        refine hK23 _ _ _ ?_
        refine rwp_region fun K29 hK29 => ?_
        refine st0 3264 rfl (ok (mv (.d (eI v17)))) ?_
        refine st0 3328 rfl (ok (addI _ (1 : Int))) ?_
        refine st0 3392 rfl (ok (mv (.d (eI (w64 (v17 + (1 : Int))))))) ?_
        refine hK29 _ _ ?_
        simp only [thenK, blockK, keepE, updM, List.filter_cons, List.filter_nil, List.nil_append, List.cons_append, List.map_cons, List.map_nil, envE, Mem.get, Nat.reduceEqDiff, reduceIte, Option.isNone_none, Option.isNone_some, Bool.false_eq_true, List.length_cons, List.length_nil, Nat.reduceAdd, Nat.reduceMul]
        exact hK18.out _ _ _ k2 (Nat.lt_succ_self k2) ⟨_, _, Settled.refl, _, _, ⟨_, _, h, rfl, rfl⟩, ⟨rfl, ⟨⟨rfl, rfl⟩, ⟨⟨rfl, rfl⟩, ⟨⟨rfl, rfl⟩, ⟨⟨rfl, rfl⟩, trivial⟩⟩⟩⟩, ⟨⟨rfl, rfl⟩, trivial⟩⟩, rfl⟩
      · replace h := ite_f h h22
        refine rwp_f (isF h22) ?_
        refine rwp_exit ?_
        refine hK15 _ _ _ ?_
        exact hK10 _ _ _ ⟨_, _, Settled.refl, _, _, ⟨_, h, rfl, rfl⟩, ⟨rfl, ⟨⟨rfl, rfl⟩, trivial⟩, ⟨⟨rfl, rfl⟩, trivial⟩⟩, rfl⟩

/-- passkey/passkeyref3.tag -/
def passkeyref3tagH : Hints := ⟨[(0, [0, 1, 2, 3]), (1, [0, 2, 3, 9]), (2, [8])], []⟩
def passkeyref3tagRc : RCode :=
  .seq (.region false [⟨some 8, .mv, [.k (.d (.int .u64 0))], none, []⟩] [0, 1, 2, 3]) (.seq (.region false [⟨some 10, .mv, [.t 1], none, []⟩, ⟨some 11, .mv, [.t 2], none, []⟩, ⟨some
  12, .len, [.t 11], none, []⟩, ⟨some 13, .cvt .u64, [.t 12], none, []⟩, ⟨some 14, .bslice 1 false 2 [.d (.int .u64 0)] [0, 1], [.t 10, .t 13], none, []⟩, ⟨some 15, .call 21 true,
  [.t 14], none, []⟩, ⟨some 9, .mv, [.t 15], none, []⟩] [0, 2, 3, 9]) (.seq (.region false [⟨some 16, .mv, [.t 0], none, []⟩, ⟨some 17, .mv, [.t 9], none, []⟩, ⟨some 18, .mv, [.t
  2], none, []⟩, ⟨some 19, .app 1 140737488355328, [.t 17, .t 18], none, []⟩, ⟨some 20, .mv, [.t 3], none, []⟩, ⟨some 21, .app 1 140737488355328, [.t 19, .t 20], none, []⟩, ⟨some
  22, .call 22 false, [.t 16, .k (.d (.int .i64 6)), .t 21], none, []⟩, ⟨some 8, .mv, [.t 22], none, []⟩] [8]) .ret))
def passkeyref3tagRr : List RR := [.t 8]
theorem passkeyref3tagC : compFn Try.prog 26 passkeyref3tagH = some (passkeyref3tagRc, passkeyref3tagRr, 23) := by kernel_rfl
theorem passkeyref3tagOK (a0 : BitVec 64) (a1 : BitVec 64) (a2 : List (BitVec 8)) (a3 : List (BitVec 8)) (res : BitVec 64) (h : passkeyref3tag a0 a1 a2 a3 = some res) : CallOK Try.prog 26 [.d (eU64 a0), .d (eU64 a1), .d ((eL 1 eU8) a2), .d ((eL 1 eU8) a3)] [] (.d (eU64 res)) [] := by
  unfold passkeyref3tag at h
  refine callOK passkeyref3tagC fm rfl ?_
  simp only [initE, initM, nbor, List.map_cons, List.map_nil, Nat.reduceAdd]
  unfold passkeyref3tagRc
  refine rwp_seq fun K1 hK1 => ?_
  refine rwp_region fun K2 hK2 => ?_
  refine st0 128 rfl (ok (mv (.d (eU64 (0#64))))) ?_
  refine hK2 _ _ ?_
  simp only [thenK, blockK, keepE, updM, List.filter_cons, List.filter_nil, List.nil_append, List.cons_append, List.map_cons, List.map_nil, envE, Mem.get, Nat.reduceEqDiff, reduceIte, Option.isNone_none, Option.isNone_some, Bool.false_eq_true, List.length_cons, List.length_nil, Nat.reduceAdd, Nat.reduceMul]
  refine hK1 _ _ _ ?_
  refine rwp_seq fun K3 hK3 => ?_
  refine rwp_region fun K4 hK4 => ?_
  refine st0 192 rfl (ok (mv (.d (eU64 a1)))) ?_
  refine st0 256 rfl (ok (mv (.d ((eL 1 eU8) a2)))) ?_
  refine st0 320 rfl (ok (lenL _ _)) ?_
  refine st0 384 rfl (ok (ofI64 _ (a2.length : Int))) ?_
  refine st1 448 rfl (mem' := [(384, .row true 1 (([a1, (BitVec.ofInt 64 (a2.length : Int))] : List (BitVec 64)).map eU64))]) (ok (bsl (e := eU64) (ys := ([a1, (BitVec.ofInt 64 (a2.length : Int))] : List (BitVec 64))) rfl rfl rfl)) rfl ?_
  obtain ⟨y5, h6, h⟩ := bind_inv h
  refine st1 512 rfl (mem' := [(448, .row true 1 (y5.map eU8)), (384, .row false 1 (([a1, (BitVec.ofInt 64 (a2.length : Int))] : List (BitVec 64)).map eU64))]) (call_ok (v := .ref 448 y5.length 0 y5.length) (u := [(448, .row true 1 (y5.map eU8)), (384, .row false 1 (([a1, (BitVec.ofInt 64 (a2.length : Int))] : List (BitVec 64)).map eU64))]) (ar_to rfl (to_1 rfl (ds_r (ys := ([a1, (BitVec.ofInt 64 (a2.length : Int))] : List (BitVec 64))) rfl rfl rfl ds_nil)) ar_nil) rfl (passkeyref1WordsOK ([a1, (BitVec.ofInt 64 (a2.length : Int))] : List (BitVec 64)) y5 h6) rfl) rfl ?_
  refine st0 576 rfl (ok (mv (.ref 448 y5.length 0 y5.length))) ?_
  refine hK4 _ _ ?_
  simp only [thenK, blockK, keepE, updM, List.filter_cons, List.filter_nil, List.nil_append, List.cons_append, List.map_cons, List.map_nil, envE, Mem.get, Nat.reduceEqDiff, reduceIte, Option.isNone_none, Option.isNone_some, Bool.false_eq_true, List.length_cons, List.length_nil, Nat.reduceAdd, Nat.reduceMul]
  refine hK3 _ _ _ ?_
  refine rwp_seq fun K7 hK7 => ?_
  refine rwp_region fun K8 hK8 => ?_
  refine st0 640 rfl (ok (mv (.d (eU64 a0)))) ?_
  refine st0 704 rfl (ok (mv (.ref 448 y5.length 0 y5.length))) ?_
  refine st0 768 rfl (ok (mv (.d ((eL 1 eU8) a2)))) ?_
  obtain ⟨h9, h⟩ := asq_inv h
  refine st1 832 rfl (mem' := [(448, .row true 1 ((y5 ++ a2).map eU8)), (384, .row false 1 (([a1, (BitVec.ofInt 64 (a2.length : Int))] : List (BitVec 64)).map eU64))]) (ok (appR (e := eU8) (xs := y5) (ys := a2) contL rfl rfl rfl h9)) rfl ?_
  refine st0 896 rfl (ok (mv (.d ((eL 1 eU8) a3)))) ?_
  obtain ⟨h10, h⟩ := asq_inv h
  refine st1 960 rfl (mem' := [(448, .row true 1 (((y5 ++ a2) ++ a3).map eU8)), (384, .row false 1 (([a1, (BitVec.ofInt 64 (a2.length : Int))] : List (BitVec 64)).map eU64))]) (ok (appR (e := eU8) (xs := (y5 ++ a2)) (ys := a3) contL rfl rfl rfl h10)) rfl ?_
  obtain ⟨y11, h12, h⟩ := bind_inv h
  refine st0 1024 rfl (call_ok (v := .d (eU64 y11)) (u := []) (ar_d (eU64 a0) (ar_d (eI (6 : Int)) (ar_to rfl (to_1 rfl (ds_r (ys := ((y5 ++ a2) ++ a3)) rfl rfl rfl ds_nil)) ar_nil))) rfl (passkeyref1MacOK a0 (6 : Int) ((y5 ++ a2) ++ a3) y11 h12) rfl) ?_
  refine st0 1088 rfl (ok (mv (.d (eU64 y11)))) ?_
  refine hK8 _ _ ?_
  simp only [thenK, blockK, keepE, updM, List.filter_cons, List.filter_nil, List.nil_append, List.cons_append, List.map_cons, List.map_nil, envE, Mem.get, Nat.reduceEqDiff, reduceIte, Option.isNone_none, Option.isNone_some, Bool.false_eq_true, List.length_cons, List.length_nil, Nat.reduceAdd, Nat.reduceMul]
  refine hK7 _ _ _ ?_
  refine rwp_ret ?_
  obtain rfl := Option.some.inj h
  try simp only [thenK, blockK, reduceIte]
  exact Or.inl (end_ok trivial (rs_t (v := .d (eU64 y11)) rfl rs_nil) (en_d (to_d _) en_nil) ou_nil (by first | exact eok rfl rfl rfl rfl trivial | (refine eok ?_ ?_ ?_ ?_ ?_ <;> first | rfl | exact trivial | simp [retM, Mem.get, PV.renL, PV.ren, Blk.ren, comps, rhoR, rhoM, appN, PV.refsL, PV.refs, keys, nodupB, Blk.refs, allIn, Blk.bor])))

/-- passkey/passkeyref3.Seal -/
def passkeyref3SealH : Hints := ⟨[(0, [0, 1, 2, 3]), (1, [0, 1, 2, 3, 19]), (2, [8, 9]), (3, [0, 1, 2, 10]), (4, [0, 1, 2, 10, 11]), (5, [8, 9])], []⟩
def passkeyref3SealRc : RCode :=
  .seq (.region false [⟨some 8, .mv, [.k (.nil 1)], none, []⟩, ⟨some 9, .mv, [.k (.d (.int .i64 0))], none, []⟩] [0, 1, 2, 3]) (.seq (.seq (.region false [⟨some 12, .mv, [.t 3],
  none, []⟩, ⟨some 13, .len, [.t 12], none, []⟩, ⟨some 14, .bin .gtr, [.t 13, .k (.d (.int .i64 1024))], none, []⟩, ⟨some 15, .mv, [.t 14], none, []⟩, ⟨some 16, .mv, [.t 2], some
  (15, false), []⟩, ⟨some 17, .len, [.t 16], some (15, false), []⟩, ⟨some 18, .bin .gtr, [.t 17, .k (.d (.int .i64 1024))], some (15, false), []⟩, ⟨some 19, .pick, [.t 15, .k (.d
  (.bool true)), .t 18], none, []⟩] [0, 1, 2, 3, 19]) (.cond (.t 19) (.seq (.region false [⟨some 8, .mv, [.k (.nil 1)], none, []⟩, ⟨some 9, .mv, [.k (.d (.int .i64 8))], none, []⟩]
  [8, 9]) .ret) .skip)) (.seq (.region false [⟨some 20, .mv, [.t 0], none, []⟩, ⟨some 21, .mv, [.t 1], none, []⟩, ⟨some 22, .mv, [.t 3], none, []⟩, ⟨some 23, .call 25 true, [.t 20,
  .t 21, .t 22], none, []⟩, ⟨some 10, .mv, [.t 23], none, []⟩] [0, 1, 2, 10]) (.seq (.region false [⟨some 24, .mv, [.t 1], none, []⟩, ⟨some 25, .bslice 1 false 1 [.d (.int .u64 0)]
  [0], [.t 24], none, []⟩, ⟨some 26, .call 21 true, [.t 25], none, []⟩, ⟨some 27, .mv, [.t 10], none, []⟩, ⟨some 28, .app 1 140737488355328, [.t 26, .t 27], none, []⟩, ⟨some 11,
  .mv, [.t 28], none, []⟩] [0, 1, 2, 10, 11]) (.seq (.region false [⟨some 29, .mv, [.t 11], none, []⟩, ⟨some 30, .mv, [.t 0], none, []⟩, ⟨some 31, .mv, [.t 1], none, []⟩, ⟨some 32,
  .mv, [.t 2], none, []⟩, ⟨some 33, .mv, [.t 10], none, []⟩, ⟨some 34, .call 26 false, [.t 30, .t 31, .t 32, .t 33], none, []⟩, ⟨some 35, .bslice 1 false 1 [.d (.int .u64 0)] [0],
  [.t 34], none, []⟩, ⟨some 36, .call 21 true, [.t 35], none, []⟩, ⟨some 37, .app 1 140737488355328, [.t 29, .t 36], none, []⟩, ⟨some 8, .mv, [.t 37], none, []⟩, ⟨some 9, .mv, [.k
  (.d (.int .i64 0))], none, []⟩] [8, 9]) .ret))))
def passkeyref3SealRr : List RR := [.t 8, .t 9]
theorem passkeyref3SealC : compFn Try.prog 14 passkeyref3SealH = some (passkeyref3SealRc, passkeyref3SealRr, 38) := by kernel_rfl
theorem passkeyref3SealOK (a0 : BitVec 64) (a1 : BitVec 64) (a2 : List (BitVec 8)) (a3 : List (BitVec 8)) (res : (List (BitVec 8)) × Int) (h : passkeyref3Seal a0 a1 a2 a3 = some res) : CallOK Try.prog 14 [.d (eU64 a0), .d (eU64 a1), .d ((eL 1 eU8) a2), .d ((eL 1 eU8) a3)] [] (.tup [.ref 0 res.1.length 0 res.1.length, .d (eI res.2)]) [(0, .row true 1 (res.1.map eU8))] := by
  unfold passkeyref3Seal at h
  refine callOK passkeyref3SealC fm rfl ?_
  simp only [initE, initM, nbor, List.map_cons, List.map_nil, Nat.reduceAdd]
  unfold passkeyref3SealRc
  refine rwp_seq fun K1 hK1 => ?_
  refine rwp_region fun K2 hK2 => ?_
  refine st0 128 rfl (ok (mv (.nil 1))) ?_
  refine st0 192 rfl (ok (mv (.d (eI (0 : Int))))) ?_
  refine hK2 _ _ ?_
  simp only [thenK, blockK, keepE, updM, List.filter_cons, List.filter_nil, List.nil_append, List.cons_append, List.map_cons, List.map_nil, envE, Mem.get, Nat.reduceEqDiff, reduceIte, Option.isNone_none, Option.isNone_some, Bool.false_eq_true, List.length_cons, List.length_nil, Nat.reduceAdd, Nat.reduceMul]
  refine hK1 _ _ _ ?_
  refine rwp_seq fun K3 hK3 => ?_
  refine rwp_join ([], []) 768 (fun env mem => ∃ (v4 : Bool), passkeyref3SealJ1 a0 a1 a2 a3 v4 = some res ∧ env = [(0, .d (eU64 a0)), (1, .d (eU64 a1)), (2, .d ((eL 1 eU8) a2)), (3, .d ((eL 1 eU8) a3)), (19, .d (eB v4))] ∧ mem = []) (fun _ _ hI => ?_) (fun K5 hK5 => ?_)
  · obtain ⟨v4, h, rfl, rfl⟩ := hI
    unfold passkeyref3SealJ1 at h
    rcases Bool.eq_false_or_eq_true (v4) with h6 | h6
    · replace h := ite_t h h6
      refine rwp_t (isT h6) ?_
      refine rwp_seq fun K7 hK7 => ?_
      refine rwp_region fun K8 hK8 => ?_
      refine st0 832 rfl (ok (mv (.nil 1))) ?_
      refine st0 896 rfl (ok (mv (.d (eI (8 : Int))))) ?_
      refine hK8 _ _ ?_
      simp only [thenK, blockK, keepE, updM, List.filter_cons, List.filter_nil, List.nil_append, List.cons_append, List.map_cons, List.map_nil, envE, Mem.get, Nat.reduceEqDiff, reduceIte, Option.isNone_none, Option.isNone_some, Bool.false_eq_true, List.length_cons, List.length_nil, Nat.reduceAdd, Nat.reduceMul]
      refine hK7 _ _ _ ?_
      refine rwp_ret ?_
      obtain rfl := Option.some.inj h
      try simp only [thenK, blockK, reduceIte]
      exact Or.inl (end_ok trivial (rs_t (v := .nil 1) rfl (rs_t (v := .d (eI (8 : Int))) rfl rs_nil)) (en_nilr (en_d (to_d _) en_nil)) ou_nil (by first | exact eok rfl rfl rfl rfl (And.intro (And.intro rfl rfl) trivial) | (refine eok ?_ ?_ ?_ ?_ ?_ <;> first | rfl | exact (And.intro (And.intro rfl rfl) trivial) | simp [retM, Mem.get, PV.renL, PV.ren, Blk.ren, comps, rhoR, rhoM, appN, PV.refsL, PV.refs, keys, nodupB, Blk.refs, allIn, Blk.bor])))
    · replace h := ite_f h h6
      refine rwp_f (isF h6) ?_
      refine rwp_skip ?_
      refine hK3 _ _ _ ?_
      refine rwp_seq fun K9 hK9 => ?_
      refine rwp_region fun K10 hK10 => ?_
      refine st0 832 rfl (ok (mv (.d (eU64 a0)))) ?_
      refine st0 896 rfl (ok (mv (.d (eU64 a1)))) ?_
      refine st0 960 rfl (ok (mv (.d ((eL 1 eU8) a3)))) ?_
      obtain ⟨y11, h12, h⟩ := bind_inv h
      refine st1 1024 rfl (mem' := [(960, .row true 1 (y11.map eU8))]) (call_ok (v := .ref 960 y11.length 0 y11.length) (u := [(960, .row true 1 (y11.map eU8))]) (ar_d (eU64 a0) (ar_d (eU64 a1) (ar_d ((eL 1 eU8) a3) ar_nil))) rfl (passkeyref3mixOK a0 a1 a3 y11 h12) rfl) rfl ?_
      refine st0 1088 rfl (ok (mv (.ref 960 y11.length 0 y11.length))) ?_
      refine hK10 _ _ ?_
      simp only [thenK, blockK, keepE, updM, List.filter_cons, List.filter_nil, List.nil_append, List.cons_append, List.map_cons, List.map_nil, envE, Mem.get, Nat.reduceEqDiff, reduceIte, Option.isNone_none, Option.isNone_some, Bool.false_eq_true, List.length_cons, List.length_nil, Nat.reduceAdd, Nat.reduceMul]
      refine hK9 _ _ _ ?_
      refine rwp_seq fun K13 hK13 => ?_
      refine rwp_region fun K14 hK14 => ?_
      refine st0 1152 rfl (ok (mv (.d (eU64 a1)))) ?_
      refine st1 1216 rfl (mem' := [(1152, .row true 1 (([a1] : List (BitVec 64)).map eU64)), (960, .row true 1 (y11.map eU8))]) (ok (bsl (e := eU64) (ys := ([a1] : List (BitVec 64))) rfl rfl rfl)) rfl ?_
      obtain ⟨y15, h16, h⟩ := bind_inv h
      refine st1 1280 rfl (mem' := [(1216, .row true 1 (y15.map eU8)), (1152, .row false 1 (([a1] : List (BitVec 64)).map eU64)), (960, .row true 1 (y11.map eU8))]) (call_ok (v := .ref 1216 y15.length 0 y15.length) (u := [(1216, .row true 1 (y15.map eU8)), (1152, .row false 1 (([a1] : List (BitVec 64)).map eU64))]) (ar_to rfl (to_1 rfl (ds_r (ys := ([a1] : List (BitVec 64))) rfl rfl rfl ds_nil)) ar_nil) rfl (passkeyref1WordsOK ([a1] : List (BitVec 64)) y15 h16) rfl) rfl ?_
      refine st0 1344 rfl (ok (mv (.ref 960 y11.length 0 y11.length))) ?_
      obtain ⟨h17, h⟩ := asq_inv h
      refine st1 1408 rfl (mem' := [(1216, .row true 1 ((y15 ++ y11).map eU8)), (1152, .row false 1 (([a1] : List (BitVec 64)).map eU64)), (960, .row true 1 (y11.map eU8))]) (ok (appR (e := eU8) (xs := y15) (ys := y11) (contR (xs := y11) rfl rfl rfl) rfl rfl rfl h17)) rfl ?_
      refine st0 1472 rfl (ok (mv (.ref 1216 (((y15 ++ y11)).length) 0 (((y15 ++ y11)).length)))) ?_
      refine hK14 _ _ ?_
      simp only [thenK, blockK, keepE, updM, List.filter_cons, List.filter_nil, List.nil_append, List.cons_append, List.map_cons, List.map_nil, envE, Mem.get, Nat.reduceEqDiff, reduceIte, Option.isNone_none, Option.isNone_some, Bool.false_eq_true, List.length_cons, List.length_nil, Nat.reduceAdd, Nat.reduceMul]
      refine hK13 _ _ _ ?_
      refine rwp_seq fun K18 hK18 => ?_
      refine rwp_region fun K19 hK19 => ?_
      refine st0 1536 rfl (ok (mv (.ref 1216 (((y15 ++ y11)).length) 0 (((y15 ++ y11)).length)))) ?_
      refine st0 1600 rfl (ok (mv (.d (eU64 a0)))) ?_
      refine st0 1664 rfl (ok (mv (.d (eU64 a1)))) ?_
      refine st0 1728 rfl (ok (mv (.d ((eL 1 eU8) a2)))) ?_
      refine st0 1792 rfl (ok (mv (.ref 960 y11.length 0 y11.length))) ?_
      obtain ⟨y20, h21, h⟩ := bind_inv h
      refine st0 1856 rfl (call_ok (v := .d (eU64 y20)) (u := []) (ar_d (eU64 a0) (ar_d (eU64 a1) (ar_d ((eL 1 eU8) a2) (ar_to rfl (to_1 rfl (ds_r (ys := y11) rfl rfl rfl ds_nil)) ar_nil)))) rfl (passkeyref3tagOK a0 a1 a2 y11 y20 h21) rfl) ?_
      refine st1 1920 rfl (mem' := [(1856, .row true 1 (([y20] : List (BitVec 64)).map eU64)), (1216, .row true 1 ((y15 ++ y11).map eU8)), (1152, .row false 1 (([a1] : List (BitVec 64)).map eU64)), (960, .row true 1 (y11.map eU8))]) (ok (bsl (e := eU64) (ys := ([y20] : List (BitVec 64))) rfl rfl rfl)) rfl ?_
      obtain ⟨y22, h23, h⟩ := bind_inv h
      refine st1 1984 rfl (mem' := [(1920, .row true 1 (y22.map eU8)), (1856, .row false 1 (([y20] : List (BitVec 64)).map eU64)), (1216, .row true 1 ((y15 ++ y11).map eU8)), (1152, .row false 1 (([a1] : List (BitVec 64)).map eU64)), (960, .row true 1 (y11.map eU8))]) (call_ok (v := .ref 1920 y22.length 0 y22.length) (u := [(1920, .row true 1 (y22.map eU8)), (1856, .row false 1 (([y20] : List (BitVec 64)).map eU64))]) (ar_to rfl (to_1 rfl (ds_r (ys := ([y20] : List (BitVec 64))) rfl rfl rfl ds_nil)) ar_nil) rfl (passkeyref1WordsOK ([y20] : List (BitVec 64)) y22 h23) rfl) rfl ?_
      obtain ⟨h24, h⟩ := asq_inv h
      refine st1 2048 rfl (mem' := [(1216, .row true 1 (((y15 ++ y11) ++ y22).map eU8)), (1920, .row true 1 (y22.map eU8)), (1856, .row false 1 (([y20] : List (BitVec 64)).map eU64)), (1152, .row false 1 (([a1] : List (BitVec 64)).map eU64)), (960, .row true 1 (y11.map eU8))]) (ok (appR (e := eU8) (xs := (y15 ++ y11)) (ys := y22) (contR (xs := y22) rfl rfl rfl) rfl rfl rfl h24)) rfl ?_
      refine st0 2112 rfl (ok (mv (.ref 1216 ((((y15 ++ y11) ++ y22)).length) 0 ((((y15 ++ y11) ++ y22)).length)))) ?_
      refine st0 2176 rfl (ok (mv (.d (eI (0 : Int))))) ?_
      refine hK19 _ _ ?_
      simp only [thenK, blockK, keepE, updM, List.filter_cons, List.filter_nil, List.nil_append, List.cons_append, List.map_cons, List.map_nil, envE, Mem.get, Nat.reduceEqDiff, reduceIte, Option.isNone_none, Option.isNone_some, Bool.false_eq_true, List.length_cons, List.length_nil, Nat.reduceAdd, Nat.reduceMul]
      refine hK18 _ _ _ ?_
      refine rwp_ret ?_
      obtain rfl := Option.some.inj h
      try simp only [thenK, blockK, reduceIte]
      exact Or.inl (end_ok trivial (rs_t (v := .ref 1216 ((((y15 ++ y11) ++ y22)).length) 0 ((((y15 ++ y11) ++ y22)).length)) rfl (rs_t (v := .d (eI (0 : Int))) rfl rs_nil)) (en_ref (en_d (to_d _) en_nil)) ou_nil (by first | exact eok rfl rfl rfl rfl (And.intro (And.intro rfl rfl) trivial) | (refine eok ?_ ?_ ?_ ?_ ?_ <;> first | rfl | exact (And.intro (And.intro rfl rfl) trivial) | simp [retM, Mem.get, PV.renL, PV.ren, Blk.ren, comps, rhoR, rhoM, appN, PV.refsL, PV.refs, keys, nodupB, Blk.refs, allIn, Blk.bor])))
  · refine rwp_region fun K25 hK25 => ?_
    refine st0 256 rfl (ok (mv (.d ((eL 1 eU8) a3)))) ?_
    refine st0 320 rfl (ok (lenL _ _)) ?_
    refine st0 384 rfl (ok (gtrI _ (1024 : Int))) ?_
    refine st0 448 rfl (ok (mv (.d (eB (decide ((1024 : Int) < (a3.length : Int))))))) ?_
    rcases Bool.eq_false_or_eq_true ((decide ((1024 : Int) < (a3.length : Int)))) with h26 | h26
    · replace h := ite_t h h26
      refine stGN 512 rfl rfl h26 ?_
      refine stGN 576 rfl rfl h26 ?_
      refine stGN 640 rfl rfl h26 ?_
      refine st0 704 rfl (ok (pick_t h26 (.d (eB true)) _)) ?_
      refine hK25 _ _ ?_
      simp only [thenK, blockK, keepE, updM, List.filter_cons, List.filter_nil, List.nil_append, List.cons_append, List.map_cons, List.map_nil, envE, Mem.get, Nat.reduceEqDiff, reduceIte, Option.isNone_none, Option.isNone_some, Bool.false_eq_true, List.length_cons, List.length_nil, Nat.reduceAdd, Nat.reduceMul]
      exact hK5 _ _ _ ⟨_, _, Settled.refl, _, _, ⟨_, h, rfl, rfl⟩, ⟨rfl, ⟨⟨rfl, rfl⟩, ⟨⟨rfl, rfl⟩, ⟨⟨rfl, rfl⟩, ⟨⟨rfl, rfl⟩, ⟨⟨rfl, rfl⟩, trivial⟩⟩⟩⟩⟩, trivial⟩, rfl⟩
    · replace h := ite_f h h26
      refine stG (isF h26) ?_
      refine st0 512 rfl (ok (mv (.d ((eL 1 eU8) a2)))) ?_
      refine stG (isF h26) ?_
      refine st0 576 rfl (ok (lenL _ _)) ?_
      refine stG (isF h26) ?_
      refine st0 640 rfl (ok (gtrI _ (1024 : Int))) ?_
      refine st0 704 rfl (ok (pick_f h26 _ (.d (eB (decide ((1024 : Int) < (a2.length : Int))))))) ?_
      refine hK25 _ _ ?_
      simp only [thenK, blockK, keepE, updM, List.filter_cons, List.filter_nil, List.nil_append, List.cons_append, List.map_cons, List.map_nil, envE, Mem.get, Nat.reduceEqDiff, reduceIte, Option.isNone_none, Option.isNone_some, Bool.false_eq_true, List.length_cons, List.length_nil, Nat.reduceAdd, Nat.reduceMul]
      exact hK5 _ _ _ ⟨_, _, Settled.refl, _, _, ⟨_, h, rfl, rfl⟩, ⟨rfl, ⟨⟨rfl, rfl⟩, ⟨⟨rfl, rfl⟩, ⟨⟨rfl, rfl⟩, ⟨⟨rfl, rfl⟩, ⟨⟨rfl, rfl⟩, trivial⟩⟩⟩⟩⟩, trivial⟩, rfl⟩

end Go.Proofs.Ty
