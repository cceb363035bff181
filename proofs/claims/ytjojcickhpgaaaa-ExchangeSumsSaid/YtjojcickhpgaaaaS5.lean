/- Each Go function comes to what its plain function says. PRINTED by a program of this session (ty.py). -/
import Derived.Test.YtjojcickhpgaaaaS4
set_option linter.unusedVariables false
set_option linter.unusedSimpArgs false
set_option maxHeartbeats 4000000
set_option maxRecDepth 10000
namespace Go.Proofs.Ty
open Go Go.RW Go.Proofs
/-- passkey/passkeylaw5.ExchangeField -/
def passkeylaw5ExchangeFieldH : Hints := ⟨[(0, [0, 1, 2]), (1, [0, 1, 2]), (2, [6])], []⟩
def passkeylaw5ExchangeFieldRc : RCode :=
  .seq (.region false [⟨some 6, .mv, [.k (.d (.bool false))], none, []⟩] [0, 1, 2]) (.seq (.region false [⟨some 7, .mv, [.t 0], none, []⟩, ⟨some 8, .bin .rem, [.t 7, .k (.d (.int
  .u64 2305843009213693951))], none, []⟩, ⟨some 9, .mv, [.t 1], none, []⟩, ⟨some 10, .bin .rem, [.t 9, .k (.d (.int .u64 2305843009213693951))], none, []⟩, ⟨some 11, .mv, [.t 2],
  none, []⟩, ⟨some 12, .bin .rem, [.t 11, .k (.d (.int .u64 2305843009213693951))], none, []⟩, ⟨some 0, .mv, [.t 8], none, []⟩, ⟨some 1, .mv, [.t 10], none, []⟩, ⟨some 2, .mv, [.t
  12], none, []⟩] [0, 1, 2]) (.seq (.region false [⟨some 13, .mv, [.t 0], none, []⟩, ⟨some 14, .mv, [.t 1], none, []⟩, ⟨some 15, .call 9 false, [.t 13, .t 14], none, []⟩, ⟨some 16,
  .mv, [.t 1], none, []⟩, ⟨some 17, .mv, [.t 0], none, []⟩, ⟨some 18, .call 9 false, [.t 16, .t 17], none, []⟩, ⟨some 19, .bin .eql, [.t 15, .t 18], none, []⟩, ⟨some 20, .mv, [.t
  19], none, []⟩, ⟨some 21, .mv, [.t 0], some (20, true), []⟩, ⟨some 22, .mv, [.t 1], some (20, true), []⟩, ⟨some 23, .call 9 false, [.t 21, .t 22], some (20, true), []⟩, ⟨some 24,
  .mv, [.t 2], some (20, true), []⟩, ⟨some 25, .call 9 false, [.t 23, .t 24], some (20, true), []⟩, ⟨some 26, .mv, [.t 0], some (20, true), []⟩, ⟨some 27, .mv, [.t 1], some (20,
  true), []⟩, ⟨some 28, .mv, [.t 2], some (20, true), []⟩, ⟨some 29, .call 9 false, [.t 27, .t 28], some (20, true), []⟩, ⟨some 30, .call 9 false, [.t 26, .t 29], some (20, true),
  []⟩, ⟨some 31, .bin .eql, [.t 25, .t 30], some (20, true), []⟩, ⟨some 32, .pick, [.t 20, .t 31, .k (.d (.bool false))], none, []⟩, ⟨some 33, .mv, [.t 32], none, []⟩, ⟨some 34,
  .mv, [.t 0], some (33, true), []⟩, ⟨some 35, .mv, [.t 1], some (33, true), []⟩, ⟨some 36, .mv, [.t 2], some (33, true), []⟩, ⟨some 37, .bin .add, [.t 35, .t 36], some (33, true),
  []⟩, ⟨some 38, .bin .rem, [.t 37, .k (.d (.int .u64 2305843009213693951))], some (33, true), []⟩, ⟨some 39, .call 9 false, [.t 34, .t 38], some (33, true), []⟩, ⟨some 40, .mv,
  [.t 0], some (33, true), []⟩, ⟨some 41, .mv, [.t 1], some (33, true), []⟩, ⟨some 42, .call 9 false, [.t 40, .t 41], some (33, true), []⟩, ⟨some 43, .mv, [.t 0], some (33, true),
  []⟩, ⟨some 44, .mv, [.t 2], some (33, true), []⟩, ⟨some 45, .call 9 false, [.t 43, .t 44], some (33, true), []⟩, ⟨some 46, .bin .add, [.t 42, .t 45], some (33, true), []⟩, ⟨some
  47, .bin .rem, [.t 46, .k (.d (.int .u64 2305843009213693951))], some (33, true), []⟩, ⟨some 48, .bin .eql, [.t 39, .t 47], some (33, true), []⟩, ⟨some 49, .pick, [.t 33, .t 48,
  .k (.d (.bool false))], none, []⟩, ⟨some 50, .mv, [.t 49], none, []⟩, ⟨some 51, .mv, [.t 0], some (50, true), []⟩, ⟨some 52, .call 9 false, [.t 51, .k (.d (.int .u64 1))], some
  (50, true), []⟩, ⟨some 53, .mv, [.t 0], some (50, true), []⟩, ⟨some 54, .bin .eql, [.t 52, .t 53], some (50, true), []⟩, ⟨some 55, .pick, [.t 50, .t 54, .k (.d (.bool false))],
  none, []⟩, ⟨some 56, .mv, [.t 55], none, []⟩, ⟨some 57, .call 11 false, [], some (56, true), []⟩, ⟨some 58, .pick, [.t 56, .t 57, .k (.d (.bool false))], none, []⟩, ⟨some 6, .mv,
  [.t 58], none, []⟩] [6]) .ret))
def passkeylaw5ExchangeFieldRr : List RR := [.t 6]
theorem passkeylaw5ExchangeFieldC : compFn Try.prog 5 passkeylaw5ExchangeFieldH = some (passkeylaw5ExchangeFieldRc, passkeylaw5ExchangeFieldRr, 59) := by kernel_rfl
theorem passkeylaw5ExchangeFieldOK (a0 : BitVec 64) (a1 : BitVec 64) (a2 : BitVec 64) (res : Bool) (h : passkeylaw5ExchangeField a0 a1 a2 = some res) : CallOK Try.prog 5 [.d (eU64 a0), .d (eU64 a1), .d (eU64 a2)] [] (.d (eB res)) [] := by
  unfold passkeylaw5ExchangeField at h
  refine callOK passkeylaw5ExchangeFieldC fm rfl ?_
  simp only [initE, initM, nbor, List.map_cons, List.map_nil, Nat.reduceAdd]
  unfold passkeylaw5ExchangeFieldRc
  refine rwp_seq fun K1 hK1 => ?_
  refine rwp_region fun K2 hK2 => ?_
  refine st0 128 rfl (ok (mv (.d (eB false)))) ?_
  refine hK2 _ _ ?_
  simp only [thenK, blockK, keepE, updM, List.filter_cons, List.filter_nil, List.nil_append, List.cons_append, List.map_cons, List.map_nil, envE, Mem.get, Nat.reduceEqDiff, reduceIte, Option.isNone_none, Option.isNone_some, Bool.false_eq_true, List.length_cons, List.length_nil, Nat.reduceAdd, Nat.reduceMul]
  refine hK1 _ _ _ ?_
  refine rwp_seq fun K3 hK3 => ?_
  refine rwp_region fun K4 hK4 => ?_
  refine st0 192 rfl (ok (mv (.d (eU64 a0)))) ?_
  refine st0 256 rfl (ok (rem64 _ (2305843009213693951#64) (by decide))) ?_
  refine st0 320 rfl (ok (mv (.d (eU64 a1)))) ?_
  refine st0 384 rfl (ok (rem64 _ (2305843009213693951#64) (by decide))) ?_
  refine st0 448 rfl (ok (mv (.d (eU64 a2)))) ?_
  refine st0 512 rfl (ok (rem64 _ (2305843009213693951#64) (by decide))) ?_
  refine st0 576 rfl (ok (mv (.d (eU64 (a0 % (2305843009213693951#64)))))) ?_
  refine st0 640 rfl (ok (mv (.d (eU64 (a1 % (2305843009213693951#64)))))) ?_
  refine st0 704 rfl (ok (mv (.d (eU64 (a2 % (2305843009213693951#64)))))) ?_
  refine hK4 _ _ ?_
  simp only [thenK, blockK, keepE, updM, List.filter_cons, List.filter_nil, List.nil_append, List.cons_append, List.map_cons, List.map_nil, envE, Mem.get, Nat.reduceEqDiff, reduceIte, Option.isNone_none, Option.isNone_some, Bool.false_eq_true, List.length_cons, List.length_nil, Nat.reduceAdd, Nat.reduceMul]
  refine hK3 _ _ _ ?_
  refine rwp_seq fun K5 hK5 => ?_
  refine rwp_region fun K6 hK6 => ?_
  refine st0 768 rfl (ok (mv (.d (eU64 (a0 % (2305843009213693951#64)))))) ?_
  refine st0 832 rfl (ok (mv (.d (eU64 (a1 % (2305843009213693951#64)))))) ?_
  obtain ⟨y7, h8, h⟩ := bind_inv h
  refine st0 896 rfl (call_ok (v := .d (eU64 y7)) (u := []) (ar_d (eU64 (a0 % (2305843009213693951#64))) (ar_d (eU64 (a1 % (2305843009213693951#64))) ar_nil)) rfl (exchangeMulOK (a0 % (2305843009213693951#64)) (a1 % (2305843009213693951#64)) y7 h8) rfl) ?_
  refine st0 960 rfl (ok (mv (.d (eU64 (a1 % (2305843009213693951#64)))))) ?_
  refine st0 1024 rfl (ok (mv (.d (eU64 (a0 % (2305843009213693951#64)))))) ?_
  obtain ⟨y9, h10, h⟩ := bind_inv h
  refine st0 1088 rfl (call_ok (v := .d (eU64 y9)) (u := []) (ar_d (eU64 (a1 % (2305843009213693951#64))) (ar_d (eU64 (a0 % (2305843009213693951#64))) ar_nil)) rfl (exchangeMulOK (a1 % (2305843009213693951#64)) (a0 % (2305843009213693951#64)) y9 h10) rfl) ?_
  refine st0 1152 rfl (ok (eql64 _ _)) ?_
  refine st0 1216 rfl (ok (mv (.d (eB (y7 == y9))))) ?_
  rcases Bool.eq_false_or_eq_true ((y7 == y9)) with h11 | h11
  · replace h := ite_t h h11
    refine stG (isT h11) ?_
    refine st0 1280 rfl (ok (mv (.d (eU64 (a0 % (2305843009213693951#64)))))) ?_
    refine stG (isT h11) ?_
    refine st0 1344 rfl (ok (mv (.d (eU64 (a1 % (2305843009213693951#64)))))) ?_
    refine stG (isT h11) ?_
    obtain ⟨y12, h13, h⟩ := bind_inv h
    refine st0 1408 rfl (call_ok (v := .d (eU64 y12)) (u := []) (ar_d (eU64 (a0 % (2305843009213693951#64))) (ar_d (eU64 (a1 % (2305843009213693951#64))) ar_nil)) rfl (exchangeMulOK (a0 % (2305843009213693951#64)) (a1 % (2305843009213693951#64)) y12 h13) rfl) ?_
    refine stG (isT h11) ?_
    refine st0 1472 rfl (ok (mv (.d (eU64 (a2 % (2305843009213693951#64)))))) ?_
    refine stG (isT h11) ?_
    obtain ⟨y14, h15, h⟩ := bind_inv h
    refine st0 1536 rfl (call_ok (v := .d (eU64 y14)) (u := []) (ar_d (eU64 y12) (ar_d (eU64 (a2 % (2305843009213693951#64))) ar_nil)) rfl (exchangeMulOK y12 (a2 % (2305843009213693951#64)) y14 h15) rfl) ?_
    refine stG (isT h11) ?_
    refine st0 1600 rfl (ok (mv (.d (eU64 (a0 % (2305843009213693951#64)))))) ?_
    refine stG (isT h11) ?_
    refine st0 1664 rfl (ok (mv (.d (eU64 (a1 % (2305843009213693951#64)))))) ?_
    refine stG (isT h11) ?_
    refine st0 1728 rfl (ok (mv (.d (eU64 (a2 % (2305843009213693951#64)))))) ?_
    refine stG (isT h11) ?_
    obtain ⟨y16, h17, h⟩ := bind_inv h
    refine st0 1792 rfl (call_ok (v := .d (eU64 y16)) (u := []) (ar_d (eU64 (a1 % (2305843009213693951#64))) (ar_d (eU64 (a2 % (2305843009213693951#64))) ar_nil)) rfl (exchangeMulOK (a1 % (2305843009213693951#64)) (a2 % (2305843009213693951#64)) y16 h17) rfl) ?_
    refine stG (isT h11) ?_
    obtain ⟨y18, h19, h⟩ := bind_inv h
    refine st0 1856 rfl (call_ok (v := .d (eU64 y18)) (u := []) (ar_d (eU64 (a0 % (2305843009213693951#64))) (ar_d (eU64 y16) ar_nil)) rfl (exchangeMulOK (a0 % (2305843009213693951#64)) y16 y18 h19) rfl) ?_
    refine stG (isT h11) ?_
    refine st0 1920 rfl (ok (eql64 _ _)) ?_
    refine st0 1984 rfl (ok (pick_t h11 (.d (eB (y14 == y18))) _)) ?_
    refine st0 2048 rfl (ok (mv (.d (eB (y14 == y18))))) ?_
    rcases Bool.eq_false_or_eq_true ((y14 == y18)) with h20 | h20
    · replace h := ite_t h h20
      refine stG (isT h20) ?_
      refine st0 2112 rfl (ok (mv (.d (eU64 (a0 % (2305843009213693951#64)))))) ?_
      refine stG (isT h20) ?_
      refine st0 2176 rfl (ok (mv (.d (eU64 (a1 % (2305843009213693951#64)))))) ?_
      refine stG (isT h20) ?_
      refine st0 2240 rfl (ok (mv (.d (eU64 (a2 % (2305843009213693951#64)))))) ?_
      refine stG (isT h20) ?_
      obtain ⟨v21, h22, h⟩ := lett_inv h
      refine st0e 2304 rfl (ok (add64 _ _)) (congrArg (fun z => PV.d (eU64 z)) h22) ?_
      refine stG (isT h20) ?_
      refine st0 2368 rfl (ok (rem64 _ (2305843009213693951#64) (by decide))) ?_
      refine stG (isT h20) ?_
      obtain ⟨y23, h24, h⟩ := bind_inv h
      refine st0 2432 rfl (call_ok (v := .d (eU64 y23)) (u := []) (ar_d (eU64 (a0 % (2305843009213693951#64))) (ar_d (eU64 (v21 % (2305843009213693951#64))) ar_nil)) rfl (exchangeMulOK (a0 % (2305843009213693951#64)) (v21 % (2305843009213693951#64)) y23 h24) rfl) ?_
      refine stG (isT h20) ?_
      refine st0 2496 rfl (ok (mv (.d (eU64 (a0 % (2305843009213693951#64)))))) ?_
      refine stG (isT h20) ?_
      refine st0 2560 rfl (ok (mv (.d (eU64 (a1 % (2305843009213693951#64)))))) ?_
      refine stG (isT h20) ?_
      obtain ⟨y25, h26, h⟩ := bind_inv h
      refine st0 2624 rfl (call_ok (v := .d (eU64 y25)) (u := []) (ar_d (eU64 (a0 % (2305843009213693951#64))) (ar_d (eU64 (a1 % (2305843009213693951#64))) ar_nil)) rfl (exchangeMulOK (a0 % (2305843009213693951#64)) (a1 % (2305843009213693951#64)) y25 h26) rfl) ?_
      refine stG (isT h20) ?_
      refine st0 2688 rfl (ok (mv (.d (eU64 (a0 % (2305843009213693951#64)))))) ?_
      refine stG (isT h20) ?_
      refine st0 2752 rfl (ok (mv (.d (eU64 (a2 % (2305843009213693951#64)))))) ?_
      refine stG (isT h20) ?_
      obtain ⟨y27, h28, h⟩ := bind_inv h
      refine st0 2816 rfl (call_ok (v := .d (eU64 y27)) (u := []) (ar_d (eU64 (a0 % (2305843009213693951#64))) (ar_d (eU64 (a2 % (2305843009213693951#64))) ar_nil)) rfl (exchangeMulOK (a0 % (2305843009213693951#64)) (a2 % (2305843009213693951#64)) y27 h28) rfl) ?_
      refine stG (isT h20) ?_
      refine st0 2880 rfl (ok (add64 _ _)) ?_
      refine stG (isT h20) ?_
      refine st0 2944 rfl (ok (rem64 _ (2305843009213693951#64) (by decide))) ?_
      refine stG (isT h20) ?_
      refine st0 3008 rfl (ok (eql64 _ _)) ?_
      refine st0 3072 rfl (ok (pick_t h20 (.d (eB (y23 == ((y25 + y27) % (2305843009213693951#64))))) _)) ?_
      refine st0 3136 rfl (ok (mv (.d (eB (y23 == ((y25 + y27) % (2305843009213693951#64))))))) ?_
      rcases Bool.eq_false_or_eq_true ((y23 == ((y25 + y27) % (2305843009213693951#64)))) with h29 | h29
      · replace h := ite_t h h29
        refine stG (isT h29) ?_
        refine st0 3200 rfl (ok (mv (.d (eU64 (a0 % (2305843009213693951#64)))))) ?_
        refine stG (isT h29) ?_
        obtain ⟨y30, h31, h⟩ := bind_inv h
        refine st0 3264 rfl (call_ok (v := .d (eU64 y30)) (u := []) (ar_d (eU64 (a0 % (2305843009213693951#64))) (ar_d (eU64 (1#64)) ar_nil)) rfl (exchangeMulOK (a0 % (2305843009213693951#64)) (1#64) y30 h31) rfl) ?_
        refine stG (isT h29) ?_
        refine st0 3328 rfl (ok (mv (.d (eU64 (a0 % (2305843009213693951#64)))))) ?_
        refine stG (isT h29) ?_
        refine st0 3392 rfl (ok (eql64 _ _)) ?_
        refine st0 3456 rfl (ok (pick_t h29 (.d (eB (y30 == (a0 % (2305843009213693951#64))))) _)) ?_
        refine st0 3520 rfl (ok (mv (.d (eB (y30 == (a0 % (2305843009213693951#64))))))) ?_
        rcases Bool.eq_false_or_eq_true ((y30 == (a0 % (2305843009213693951#64)))) with h32 | h32
        · replace h := ite_t h h32
          refine stG (isT h32) ?_
          obtain ⟨y33, h34, h⟩ := bind_inv h
          refine st0 3584 rfl (call_ok (v := .d (eB y33)) (u := []) ar_nil rfl (passkeylaw5awakeOK  y33 h34) rfl) ?_
          refine st0 3648 rfl (ok (pick_t h32 (.d (eB y33)) _)) ?_
          refine st0 3712 rfl (ok (mv (.d (eB y33)))) ?_
          refine hK6 _ _ ?_
          simp only [thenK, blockK, keepE, updM, List.filter_cons, List.filter_nil, List.nil_append, List.cons_append, List.map_cons, List.map_nil, envE, Mem.get, Nat.reduceEqDiff, reduceIte, Option.isNone_none, Option.isNone_some, Bool.false_eq_true, List.length_cons, List.length_nil, Nat.reduceAdd, Nat.reduceMul]
          refine hK5 _ _ _ ?_
          refine rwp_ret ?_
          obtain rfl := Option.some.inj h
          try simp only [thenK, blockK, reduceIte]
          exact end_ok trivial (rs_t (v := .d (eB y33)) rfl rs_nil) (en_d (to_d _) en_nil) ou_nil (by first | exact eok rfl rfl rfl rfl trivial | (refine eok ?_ ?_ ?_ ?_ ?_ <;> first | rfl | exact trivial | simp [retM, Mem.get, PV.renL, PV.ren, Blk.ren, comps, rhoR, rhoM, appN, PV.refsL, PV.refs, keys, nodupB, Blk.refs, allIn, Blk.bor]))
        · replace h := ite_f h h32
          refine stGN 3584 rfl rfl h32 ?_
          refine st0 3648 rfl (ok (pick_f h32 _ (.d (eB false)))) ?_
          refine st0 3712 rfl (ok (mv (.d (eB false)))) ?_
          refine hK6 _ _ ?_
          simp only [thenK, blockK, keepE, updM, List.filter_cons, List.filter_nil, List.nil_append, List.cons_append, List.map_cons, List.map_nil, envE, Mem.get, Nat.reduceEqDiff, reduceIte, Option.isNone_none, Option.isNone_some, Bool.false_eq_true, List.length_cons, List.length_nil, Nat.reduceAdd, Nat.reduceMul]
          refine hK5 _ _ _ ?_
          refine rwp_ret ?_
          obtain rfl := Option.some.inj h
          try simp only [thenK, blockK, reduceIte]
          exact end_ok trivial (rs_t (v := .d (eB false)) rfl rs_nil) (en_d (to_d _) en_nil) ou_nil (by first | exact eok rfl rfl rfl rfl trivial | (refine eok ?_ ?_ ?_ ?_ ?_ <;> first | rfl | exact trivial | simp [retM, Mem.get, PV.renL, PV.ren, Blk.ren, comps, rhoR, rhoM, appN, PV.refsL, PV.refs, keys, nodupB, Blk.refs, allIn, Blk.bor]))
      · replace h := ite_f h h29
        refine stGN 3200 rfl rfl h29 ?_
        refine stGN 3264 rfl rfl h29 ?_
        refine stGN 3328 rfl rfl h29 ?_
        refine stGN 3392 rfl rfl h29 ?_
        refine st0 3456 rfl (ok (pick_f h29 _ (.d (eB false)))) ?_
        refine st0 3520 rfl (ok (mv (.d (eB false)))) ?_
        refine stGN 3584 rfl rfl rfl ?_
        refine st0 3648 rfl (ok (pick_f rfl _ (.d (eB false)))) ?_
        refine st0 3712 rfl (ok (mv (.d (eB false)))) ?_
        refine hK6 _ _ ?_
        simp only [thenK, blockK, keepE, updM, List.filter_cons, List.filter_nil, List.nil_append, List.cons_append, List.map_cons, List.map_nil, envE, Mem.get, Nat.reduceEqDiff, reduceIte, Option.isNone_none, Option.isNone_some, Bool.false_eq_true, List.length_cons, List.length_nil, Nat.reduceAdd, Nat.reduceMul]
        refine hK5 _ _ _ ?_
        refine rwp_ret ?_
        obtain rfl := Option.some.inj h
        try simp only [thenK, blockK, reduceIte]
        exact end_ok trivial (rs_t (v := .d (eB false)) rfl rs_nil) (en_d (to_d _) en_nil) ou_nil (by first | exact eok rfl rfl rfl rfl trivial | (refine eok ?_ ?_ ?_ ?_ ?_ <;> first | rfl | exact trivial | simp [retM, Mem.get, PV.renL, PV.ren, Blk.ren, comps, rhoR, rhoM, appN, PV.refsL, PV.refs, keys, nodupB, Blk.refs, allIn, Blk.bor]))
    · replace h := ite_f h h20
      refine stGN 2112 rfl rfl h20 ?_
      refine stGN 2176 rfl rfl h20 ?_
      refine stGN 2240 rfl rfl h20 ?_
      refine stGN 2304 rfl rfl h20 ?_
      refine stGN 2368 rfl rfl h20 ?_
      refine stGN 2432 rfl rfl h20 ?_
      refine stGN 2496 rfl rfl h20 ?_
      refine stGN 2560 rfl rfl h20 ?_
      refine stGN 2624 rfl rfl h20 ?_
      refine stGN 2688 rfl rfl h20 ?_
      refine stGN 2752 rfl rfl h20 ?_
      refine stGN 2816 rfl rfl h20 ?_
      refine stGN 2880 rfl rfl h20 ?_
      refine stGN 2944 rfl rfl h20 ?_
      refine stGN 3008 rfl rfl h20 ?_
      refine st0 3072 rfl (ok (pick_f h20 _ (.d (eB false)))) ?_
      refine st0 3136 rfl (ok (mv (.d (eB false)))) ?_
      refine stGN 3200 rfl rfl rfl ?_
      refine stGN 3264 rfl rfl rfl ?_
      refine stGN 3328 rfl rfl rfl ?_
      refine stGN 3392 rfl rfl rfl ?_
      refine st0 3456 rfl (ok (pick_f rfl _ (.d (eB false)))) ?_
      refine st0 3520 rfl (ok (mv (.d (eB false)))) ?_
      refine stGN 3584 rfl rfl rfl ?_
      refine st0 3648 rfl (ok (pick_f rfl _ (.d (eB false)))) ?_
      refine st0 3712 rfl (ok (mv (.d (eB false)))) ?_
      refine hK6 _ _ ?_
      simp only [thenK, blockK, keepE, updM, List.filter_cons, List.filter_nil, List.nil_append, List.cons_append, List.map_cons, List.map_nil, envE, Mem.get, Nat.reduceEqDiff, reduceIte, Option.isNone_none, Option.isNone_some, Bool.false_eq_true, List.length_cons, List.length_nil, Nat.reduceAdd, Nat.reduceMul]
      refine hK5 _ _ _ ?_
      refine rwp_ret ?_
      obtain rfl := Option.some.inj h
      try simp only [thenK, blockK, reduceIte]
      exact end_ok trivial (rs_t (v := .d (eB false)) rfl rs_nil) (en_d (to_d _) en_nil) ou_nil (by first | exact eok rfl rfl rfl rfl trivial | (refine eok ?_ ?_ ?_ ?_ ?_ <;> first | rfl | exact trivial | simp [retM, Mem.get, PV.renL, PV.ren, Blk.ren, comps, rhoR, rhoM, appN, PV.refsL, PV.refs, keys, nodupB, Blk.refs, allIn, Blk.bor]))
  · replace h := ite_f h h11
    refine stGN 1280 rfl rfl h11 ?_
    refine stGN 1344 rfl rfl h11 ?_
    refine stGN 1408 rfl rfl h11 ?_
    refine stGN 1472 rfl rfl h11 ?_
    refine stGN 1536 rfl rfl h11 ?_
    refine stGN 1600 rfl rfl h11 ?_
    refine stGN 1664 rfl rfl h11 ?_
    refine stGN 1728 rfl rfl h11 ?_
    refine stGN 1792 rfl rfl h11 ?_
    refine stGN 1856 rfl rfl h11 ?_
    refine stGN 1920 rfl rfl h11 ?_
    refine st0 1984 rfl (ok (pick_f h11 _ (.d (eB false)))) ?_
    refine st0 2048 rfl (ok (mv (.d (eB false)))) ?_
    refine stGN 2112 rfl rfl rfl ?_
    refine stGN 2176 rfl rfl rfl ?_
    refine stGN 2240 rfl rfl rfl ?_
    refine stGN 2304 rfl rfl rfl ?_
    refine stGN 2368 rfl rfl rfl ?_
    refine stGN 2432 rfl rfl rfl ?_
    refine stGN 2496 rfl rfl rfl ?_
    refine stGN 2560 rfl rfl rfl ?_
    refine stGN 2624 rfl rfl rfl ?_
    refine stGN 2688 rfl rfl rfl ?_
    refine stGN 2752 rfl rfl rfl ?_
    refine stGN 2816 rfl rfl rfl ?_
    refine stGN 2880 rfl rfl rfl ?_
    refine stGN 2944 rfl rfl rfl ?_
    refine stGN 3008 rfl rfl rfl ?_
    refine st0 3072 rfl (ok (pick_f rfl _ (.d (eB false)))) ?_
    refine st0 3136 rfl (ok (mv (.d (eB false)))) ?_
    refine stGN 3200 rfl rfl rfl ?_
    refine stGN 3264 rfl rfl rfl ?_
    refine stGN 3328 rfl rfl rfl ?_
    refine stGN 3392 rfl rfl rfl ?_
    refine st0 3456 rfl (ok (pick_f rfl _ (.d (eB false)))) ?_
    refine st0 3520 rfl (ok (mv (.d (eB false)))) ?_
    refine stGN 3584 rfl rfl rfl ?_
    refine st0 3648 rfl (ok (pick_f rfl _ (.d (eB false)))) ?_
    refine st0 3712 rfl (ok (mv (.d (eB false)))) ?_
    refine hK6 _ _ ?_
    simp only [thenK, blockK, keepE, updM, List.filter_cons, List.filter_nil, List.nil_append, List.cons_append, List.map_cons, List.map_nil, envE, Mem.get, Nat.reduceEqDiff, reduceIte, Option.isNone_none, Option.isNone_some, Bool.false_eq_true, List.length_cons, List.length_nil, Nat.reduceAdd, Nat.reduceMul]
    refine hK5 _ _ _ ?_
    refine rwp_ret ?_
    obtain rfl := Option.some.inj h
    try simp only [thenK, blockK, reduceIte]
    exact end_ok trivial (rs_t (v := .d (eB false)) rfl rs_nil) (en_d (to_d _) en_nil) ou_nil (by first | exact eok rfl rfl rfl rfl trivial | (refine eok ?_ ?_ ?_ ?_ ?_ <;> first | rfl | exact trivial | simp [retM, Mem.get, PV.renL, PV.ren, Blk.ren, comps, rhoR, rhoM, appN, PV.refsL, PV.refs, keys, nodupB, Blk.refs, allIn, Blk.bor]))

/-- passkey/passkeylaw5.ExchangeSums -/
def passkeylaw5ExchangeSumsH : Hints := ⟨[(0, [0, 1, 2]), (1, [0, 1, 2]), (2, [0, 1, 2, 7]), (3, [0, 1, 2, 7, 14]), (4, [0, 1, 2, 7]), (5, [6])], []⟩
def passkeylaw5ExchangeSumsRc : RCode :=
  .seq (.region false [⟨some 6, .mv, [.k (.d (.bool false))], none, []⟩] [0, 1, 2]) (.seq (.region false [⟨some 8, .mv, [.t 1], none, []⟩, ⟨some 9, .bin .shr, [.t 8, .k (.d (.int
  .u64 1))], none, []⟩, ⟨some 10, .mv, [.t 2], none, []⟩, ⟨some 11, .bin .shr, [.t 10, .k (.d (.int .u64 1))], none, []⟩, ⟨some 1, .mv, [.t 9], none, []⟩, ⟨some 2, .mv, [.t 11],
  none, []⟩] [0, 1, 2]) (.seq (.region false [⟨some 7, .mv, [.k (.d (.int .u64 1))], none, []⟩] [0, 1, 2, 7]) (.seq (.seq (.region false [⟨some 12, .mv, [.t 0], none, []⟩, ⟨some
  13, .bin .rem, [.t 12, .k (.d (.int .u64 2305843009213693951))], none, []⟩, ⟨some 14, .bin .eql, [.t 13, .k (.d (.int .u64 0))], none, []⟩] [0, 1, 2, 7, 14]) (.cond (.t 14)
  (.region false [⟨some 7, .mv, [.k (.d (.int .u64 0))], none, []⟩] [0, 1, 2, 7]) .skip)) (.seq (.region false [⟨some 15, .mv, [.t 0], none, []⟩, ⟨some 16, .mv, [.t 1], none, []⟩,
  ⟨some 17, .mv, [.t 2], none, []⟩, ⟨some 18, .bin .add, [.t 16, .t 17], none, []⟩, ⟨some 19, .call 12 false, [.t 15, .t 18], none, []⟩, ⟨some 20, .mv, [.t 0], none, []⟩, ⟨some 21,
  .mv, [.t 1], none, []⟩, ⟨some 22, .call 12 false, [.t 20, .t 21], none, []⟩, ⟨some 23, .mv, [.t 0], none, []⟩, ⟨some 24, .mv, [.t 2], none, []⟩, ⟨some 25, .call 12 false, [.t 23,
  .t 24], none, []⟩, ⟨some 26, .call 9 false, [.t 22, .t 25], none, []⟩, ⟨some 27, .bin .eql, [.t 19, .t 26], none, []⟩, ⟨some 28, .mv, [.t 27], none, []⟩, ⟨some 29, .mv, [.t 0],
  some (28, true), []⟩, ⟨some 30, .mv, [.t 0], some (28, true), []⟩, ⟨some 31, .call 12 false, [.t 30, .k (.d (.int .u64 2305843009213693949))], some (28, true), []⟩, ⟨some 32,
  .call 9 false, [.t 29, .t 31], some (28, true), []⟩, ⟨some 33, .mv, [.t 7], some (28, true), []⟩, ⟨some 34, .bin .eql, [.t 32, .t 33], some (28, true), []⟩, ⟨some 35, .pick, [.t
  28, .t 34, .k (.d (.bool false))], none, []⟩, ⟨some 36, .mv, [.t 35], none, []⟩, ⟨some 37, .call 11 false, [], some (36, true), []⟩, ⟨some 38, .pick, [.t 36, .t 37, .k (.d (.bool
  false))], none, []⟩, ⟨some 6, .mv, [.t 38], none, []⟩] [6]) .ret))))
def passkeylaw5ExchangeSumsRr : List RR := [.t 6]
theorem passkeylaw5ExchangeSumsC : compFn Try.prog 6 passkeylaw5ExchangeSumsH = some (passkeylaw5ExchangeSumsRc, passkeylaw5ExchangeSumsRr, 39) := by kernel_rfl
theorem passkeylaw5ExchangeSumsOK (a0 : BitVec 64) (a1 : BitVec 64) (a2 : BitVec 64) (res : Bool) (h : passkeylaw5ExchangeSums a0 a1 a2 = some res) : CallOK Try.prog 6 [.d (eU64 a0), .d (eU64 a1), .d (eU64 a2)] [] (.d (eB res)) [] := by
  unfold passkeylaw5ExchangeSums at h
  refine callOK passkeylaw5ExchangeSumsC fm rfl ?_
  simp only [initE, initM, nbor, List.map_cons, List.map_nil, Nat.reduceAdd]
  unfold passkeylaw5ExchangeSumsRc
  refine rwp_seq fun K1 hK1 => ?_
  refine rwp_region fun K2 hK2 => ?_
  refine st0 128 rfl (ok (mv (.d (eB false)))) ?_
  refine hK2 _ _ ?_
  simp only [thenK, blockK, keepE, updM, List.filter_cons, List.filter_nil, List.nil_append, List.cons_append, List.map_cons, List.map_nil, envE, Mem.get, Nat.reduceEqDiff, reduceIte, Option.isNone_none, Option.isNone_some, Bool.false_eq_true, List.length_cons, List.length_nil, Nat.reduceAdd, Nat.reduceMul]
  refine hK1 _ _ _ ?_
  refine rwp_seq fun K3 hK3 => ?_
  refine rwp_region fun K4 hK4 => ?_
  refine st0 192 rfl (ok (mv (.d (eU64 a1)))) ?_
  refine st0 256 rfl (ok (shrL64 _ 1 rfl)) ?_
  refine st0 320 rfl (ok (mv (.d (eU64 a2)))) ?_
  refine st0 384 rfl (ok (shrL64 _ 1 rfl)) ?_
  refine st0 448 rfl (ok (mv (.d (eU64 (a1 >>> 1))))) ?_
  refine st0 512 rfl (ok (mv (.d (eU64 (a2 >>> 1))))) ?_
  refine hK4 _ _ ?_
  simp only [thenK, blockK, keepE, updM, List.filter_cons, List.filter_nil, List.nil_append, List.cons_append, List.map_cons, List.map_nil, envE, Mem.get, Nat.reduceEqDiff, reduceIte, Option.isNone_none, Option.isNone_some, Bool.false_eq_true, List.length_cons, List.length_nil, Nat.reduceAdd, Nat.reduceMul]
  refine hK3 _ _ _ ?_
  refine rwp_seq fun K5 hK5 => ?_
  refine rwp_region fun K6 hK6 => ?_
  refine st0 576 rfl (ok (mv (.d (eU64 (1#64))))) ?_
  refine hK6 _ _ ?_
  simp only [thenK, blockK, keepE, updM, List.filter_cons, List.filter_nil, List.nil_append, List.cons_append, List.map_cons, List.map_nil, envE, Mem.get, Nat.reduceEqDiff, reduceIte, Option.isNone_none, Option.isNone_some, Bool.false_eq_true, List.length_cons, List.length_nil, Nat.reduceAdd, Nat.reduceMul]
  refine hK5 _ _ _ ?_
  refine rwp_join ([], []) 896 (fun env mem => ∃ (v7 : BitVec 64), passkeylaw5ExchangeSumsJ1 a0 a1 a2 v7 = some res ∧ env = [(0, .d (eU64 a0)), (1, .d (eU64 (a1 >>> 1))), (2, .d (eU64 (a2 >>> 1))), (7, .d (eU64 v7))] ∧ mem = []) (fun _ _ hI => ?_) (fun K8 hK8 => ?_)
  · obtain ⟨v7, h, rfl, rfl⟩ := hI
    unfold passkeylaw5ExchangeSumsJ1 at h
    refine rwp_seq fun K9 hK9 => ?_
    refine rwp_region fun K10 hK10 => ?_
    refine st0 960 rfl (ok (mv (.d (eU64 a0)))) ?_
    refine st0 1024 rfl (ok (mv (.d (eU64 (a1 >>> 1))))) ?_
    refine st0 1088 rfl (ok (mv (.d (eU64 (a2 >>> 1))))) ?_
    refine st0 1152 rfl (ok (add64 _ _)) ?_
    obtain ⟨y11, h12, h⟩ := bind_inv h
    refine st0 1216 rfl (call_ok (v := .d (eU64 y11)) (u := []) (ar_d (eU64 a0) (ar_d (eU64 ((a1 >>> 1) + (a2 >>> 1))) ar_nil)) rfl (exchangePowerOK a0 ((a1 >>> 1) + (a2 >>> 1)) y11 h12) rfl) ?_
    refine st0 1280 rfl (ok (mv (.d (eU64 a0)))) ?_
    refine st0 1344 rfl (ok (mv (.d (eU64 (a1 >>> 1))))) ?_
    obtain ⟨y13, h14, h⟩ := bind_inv h
    refine st0 1408 rfl (call_ok (v := .d (eU64 y13)) (u := []) (ar_d (eU64 a0) (ar_d (eU64 (a1 >>> 1)) ar_nil)) rfl (exchangePowerOK a0 (a1 >>> 1) y13 h14) rfl) ?_
    refine st0 1472 rfl (ok (mv (.d (eU64 a0)))) ?_
    refine st0 1536 rfl (ok (mv (.d (eU64 (a2 >>> 1))))) ?_
    obtain ⟨y15, h16, h⟩ := bind_inv h
    refine st0 1600 rfl (call_ok (v := .d (eU64 y15)) (u := []) (ar_d (eU64 a0) (ar_d (eU64 (a2 >>> 1)) ar_nil)) rfl (exchangePowerOK a0 (a2 >>> 1) y15 h16) rfl) ?_
    obtain ⟨y17, h18, h⟩ := bind_inv h
    refine st0 1664 rfl (call_ok (v := .d (eU64 y17)) (u := []) (ar_d (eU64 y13) (ar_d (eU64 y15) ar_nil)) rfl (exchangeMulOK y13 y15 y17 h18) rfl) ?_
    refine st0 1728 rfl (ok (eql64 _ _)) ?_
    refine st0 1792 rfl (ok (mv (.d (eB (y11 == y17))))) ?_
    rcases Bool.eq_false_or_eq_true ((y11 == y17)) with h19 | h19
    · replace h := ite_t h h19
      refine stG (isT h19) ?_
      refine st0 1856 rfl (ok (mv (.d (eU64 a0)))) ?_
      refine stG (isT h19) ?_
      refine st0 1920 rfl (ok (mv (.d (eU64 a0)))) ?_
      refine stG (isT h19) ?_
      obtain ⟨y20, h21, h⟩ := bind_inv h
      refine st0 1984 rfl (call_ok (v := .d (eU64 y20)) (u := []) (ar_d (eU64 a0) (ar_d (eU64 (2305843009213693949#64)) ar_nil)) rfl (exchangePowerOK a0 (2305843009213693949#64) y20 h21) rfl) ?_
      refine stG (isT h19) ?_
      obtain ⟨y22, h23, h⟩ := bind_inv h
      refine st0 2048 rfl (call_ok (v := .d (eU64 y22)) (u := []) (ar_d (eU64 a0) (ar_d (eU64 y20) ar_nil)) rfl (exchangeMulOK a0 y20 y22 h23) rfl) ?_
      refine stG (isT h19) ?_
      refine st0 2112 rfl (ok (mv (.d (eU64 v7)))) ?_
      refine stG (isT h19) ?_
      refine st0 2176 rfl (ok (eql64 _ _)) ?_
      refine st0 2240 rfl (ok (pick_t h19 (.d (eB (y22 == v7))) _)) ?_
      refine st0 2304 rfl (ok (mv (.d (eB (y22 == v7))))) ?_
      rcases Bool.eq_false_or_eq_true ((y22 == v7)) with h24 | h24
      · replace h := ite_t h h24
        refine stG (isT h24) ?_
        obtain ⟨y25, h26, h⟩ := bind_inv h
        refine st0 2368 rfl (call_ok (v := .d (eB y25)) (u := []) ar_nil rfl (passkeylaw5awakeOK  y25 h26) rfl) ?_
        refine st0 2432 rfl (ok (pick_t h24 (.d (eB y25)) _)) ?_
        refine st0 2496 rfl (ok (mv (.d (eB y25)))) ?_
        refine hK10 _ _ ?_
        simp only [thenK, blockK, keepE, updM, List.filter_cons, List.filter_nil, List.nil_append, List.cons_append, List.map_cons, List.map_nil, envE, Mem.get, Nat.reduceEqDiff, reduceIte, Option.isNone_none, Option.isNone_some, Bool.false_eq_true, List.length_cons, List.length_nil, Nat.reduceAdd, Nat.reduceMul]
        refine hK9 _ _ _ ?_
        refine rwp_ret ?_
        obtain rfl := Option.some.inj h
        try simp only [thenK, blockK, reduceIte]
        exact end_ok trivial (rs_t (v := .d (eB y25)) rfl rs_nil) (en_d (to_d _) en_nil) ou_nil (by first | exact eok rfl rfl rfl rfl trivial | (refine eok ?_ ?_ ?_ ?_ ?_ <;> first | rfl | exact trivial | simp [retM, Mem.get, PV.renL, PV.ren, Blk.ren, comps, rhoR, rhoM, appN, PV.refsL, PV.refs, keys, nodupB, Blk.refs, allIn, Blk.bor]))
      · replace h := ite_f h h24
        refine stGN 2368 rfl rfl h24 ?_
        refine st0 2432 rfl (ok (pick_f h24 _ (.d (eB false)))) ?_
        refine st0 2496 rfl (ok (mv (.d (eB false)))) ?_
        refine hK10 _ _ ?_
        simp only [thenK, blockK, keepE, updM, List.filter_cons, List.filter_nil, List.nil_append, List.cons_append, List.map_cons, List.map_nil, envE, Mem.get, Nat.reduceEqDiff, reduceIte, Option.isNone_none, Option.isNone_some, Bool.false_eq_true, List.length_cons, List.length_nil, Nat.reduceAdd, Nat.reduceMul]
        refine hK9 _ _ _ ?_
        refine rwp_ret ?_
        obtain rfl := Option.some.inj h
        try simp only [thenK, blockK, reduceIte]
        exact end_ok trivial (rs_t (v := .d (eB false)) rfl rs_nil) (en_d (to_d _) en_nil) ou_nil (by first | exact eok rfl rfl rfl rfl trivial | (refine eok ?_ ?_ ?_ ?_ ?_ <;> first | rfl | exact trivial | simp [retM, Mem.get, PV.renL, PV.ren, Blk.ren, comps, rhoR, rhoM, appN, PV.refsL, PV.refs, keys, nodupB, Blk.refs, allIn, Blk.bor]))
    · replace h := ite_f h h19
      refine stGN 1856 rfl rfl h19 ?_
      refine stGN 1920 rfl rfl h19 ?_
      refine stGN 1984 rfl rfl h19 ?_
      refine stGN 2048 rfl rfl h19 ?_
      refine stGN 2112 rfl rfl h19 ?_
      refine stGN 2176 rfl rfl h19 ?_
      refine st0 2240 rfl (ok (pick_f h19 _ (.d (eB false)))) ?_
      refine st0 2304 rfl (ok (mv (.d (eB false)))) ?_
      refine stGN 2368 rfl rfl rfl ?_
      refine st0 2432 rfl (ok (pick_f rfl _ (.d (eB false)))) ?_
      refine st0 2496 rfl (ok (mv (.d (eB false)))) ?_
      refine hK10 _ _ ?_
      simp only [thenK, blockK, keepE, updM, List.filter_cons, List.filter_nil, List.nil_append, List.cons_append, List.map_cons, List.map_nil, envE, Mem.get, Nat.reduceEqDiff, reduceIte, Option.isNone_none, Option.isNone_some, Bool.false_eq_true, List.length_cons, List.length_nil, Nat.reduceAdd, Nat.reduceMul]
      refine hK9 _ _ _ ?_
      refine rwp_ret ?_
      obtain rfl := Option.some.inj h
      try simp only [thenK, blockK, reduceIte]
      exact end_ok trivial (rs_t (v := .d (eB false)) rfl rs_nil) (en_d (to_d _) en_nil) ou_nil (by first | exact eok rfl rfl rfl rfl trivial | (refine eok ?_ ?_ ?_ ?_ ?_ <;> first | rfl | exact trivial | simp [retM, Mem.get, PV.renL, PV.ren, Blk.ren, comps, rhoR, rhoM, appN, PV.refsL, PV.refs, keys, nodupB, Blk.refs, allIn, Blk.bor]))
  · refine rwp_seq fun K27 hK27 => ?_
    refine rwp_region fun K28 hK28 => ?_
    refine st0 640 rfl (ok (mv (.d (eU64 a0)))) ?_
    refine st0 704 rfl (ok (rem64 _ (2305843009213693951#64) (by decide))) ?_
    refine st0 768 rfl (ok (eql64 _ (0#64))) ?_
    refine hK28 _ _ ?_
    simp only [thenK, blockK, keepE, updM, List.filter_cons, List.filter_nil, List.nil_append, List.cons_append, List.map_cons, List.map_nil, envE, Mem.get, Nat.reduceEqDiff, reduceIte, Option.isNone_none, Option.isNone_some, Bool.false_eq_true, List.length_cons, List.length_nil, Nat.reduceAdd, Nat.reduceMul]
    refine hK27 _ _ _ ?_
    rcases Bool.eq_false_or_eq_true (((a0 % (2305843009213693951#64)) == (0#64))) with h29 | h29
    · replace h := ite_t h h29
      refine rwp_t (isT h29) ?_
      refine rwp_region fun K30 hK30 => ?_
      refine st0 832 rfl (ok (mv (.d (eU64 (0#64))))) ?_
      refine hK30 _ _ ?_
      simp only [thenK, blockK, keepE, updM, List.filter_cons, List.filter_nil, List.nil_append, List.cons_append, List.map_cons, List.map_nil, envE, Mem.get, Nat.reduceEqDiff, reduceIte, Option.isNone_none, Option.isNone_some, Bool.false_eq_true, List.length_cons, List.length_nil, Nat.reduceAdd, Nat.reduceMul]
      exact hK8 _ _ _ ⟨_, _, Settled.refl, _, _, ⟨_, h, rfl, rfl⟩, ⟨rfl, ⟨⟨rfl, rfl⟩, ⟨⟨rfl, rfl⟩, ⟨⟨rfl, rfl⟩, ⟨⟨rfl, rfl⟩, trivial⟩⟩⟩⟩, trivial⟩, rfl⟩
    · replace h := ite_f h h29
      refine rwp_f (isF h29) ?_
      refine rwp_skip ?_
      exact hK8 _ _ _ ⟨_, _, Settled.refl, _, _, ⟨_, h, rfl, rfl⟩, ⟨rfl, ⟨⟨rfl, rfl⟩, ⟨⟨rfl, rfl⟩, ⟨⟨rfl, rfl⟩, ⟨⟨rfl, rfl⟩, trivial⟩⟩⟩⟩, trivial⟩, rfl⟩

/-- passkey/passkeyref3.exponent -/
def passkeyref3exponentH : Hints := ⟨[(0, [0]), (1, [2])], []⟩
def passkeyref3exponentRc : RCode :=
  .seq (.region false [⟨some 2, .mv, [.k (.d (.int .u64 0))], none, []⟩] [0]) (.seq (.region false [⟨some 3, .mv, [.t 0], none, []⟩, ⟨some 4, .bin .rem, [.t 3, .k (.d (.int .u64
  2305843009213693948))], none, []⟩, ⟨some 5, .bin .add, [.k (.d (.int .u64 2)), .t 4], none, []⟩, ⟨some 2, .mv, [.t 5], none, []⟩] [2]) .ret)
def passkeyref3exponentRr : List RR := [.t 2]
theorem passkeyref3exponentC : compFn Try.prog 25 passkeyref3exponentH = some (passkeyref3exponentRc, passkeyref3exponentRr, 6) := by kernel_rfl
theorem passkeyref3exponentOK (a0 : BitVec 64) (res : BitVec 64) (h : passkeyref3exponent a0 = some res) : CallOK Try.prog 25 [.d (eU64 a0)] [] (.d (eU64 res)) [] := by
  unfold passkeyref3exponent at h
  refine callOK passkeyref3exponentC fm rfl ?_
  simp only [initE, initM, nbor, List.map_cons, List.map_nil, Nat.reduceAdd]
  unfold passkeyref3exponentRc
  refine rwp_seq fun K1 hK1 => ?_
  refine rwp_region fun K2 hK2 => ?_
  refine st0 128 rfl (ok (mv (.d (eU64 (0#64))))) ?_
  refine hK2 _ _ ?_
  simp only [thenK, blockK, keepE, updM, List.filter_cons, List.filter_nil, List.nil_append, List.cons_append, List.map_cons, List.map_nil, envE, Mem.get, Nat.reduceEqDiff, reduceIte, Option.isNone_none, Option.isNone_some, Bool.false_eq_true, List.length_cons, List.length_nil, Nat.reduceAdd, Nat.reduceMul]
  refine hK1 _ _ _ ?_
  refine rwp_seq fun K3 hK3 => ?_
  refine rwp_region fun K4 hK4 => ?_
  refine st0 192 rfl (ok (mv (.d (eU64 a0)))) ?_
  refine st0 256 rfl (ok (rem64 _ (2305843009213693948#64) (by decide))) ?_
  refine st0 320 rfl (ok (add64 (2#64) _)) ?_
  refine st0 384 rfl (ok (mv (.d (eU64 ((2#64) + (a0 % (2305843009213693948#64))))))) ?_
  refine hK4 _ _ ?_
  simp only [thenK, blockK, keepE, updM, List.filter_cons, List.filter_nil, List.nil_append, List.cons_append, List.map_cons, List.map_nil, envE, Mem.get, Nat.reduceEqDiff, reduceIte, Option.isNone_none, Option.isNone_some, Bool.false_eq_true, List.length_cons, List.length_nil, Nat.reduceAdd, Nat.reduceMul]
  refine hK3 _ _ _ ?_
  refine rwp_ret ?_
  obtain rfl := Option.some.inj h
  try simp only [thenK, blockK, reduceIte]
  exact end_ok trivial (rs_t (v := .d (eU64 ((2#64) + (a0 % (2305843009213693948#64))))) rfl rs_nil) (en_d (to_d _) en_nil) ou_nil (by first | exact eok rfl rfl rfl rfl trivial | (refine eok ?_ ?_ ?_ ?_ ?_ <;> first | rfl | exact trivial | simp [retM, Mem.get, PV.renL, PV.ren, Blk.ren, comps, rhoR, rhoM, appN, PV.refsL, PV.refs, keys, nodupB, Blk.refs, allIn, Blk.bor]))

/-- passkey/passkeyref1.Words -/
def passkeyref1WordsH : Hints := ⟨[(0, [0]), (1, [0, 3]), (2, [0, 3, 4]), (3, [0, 3, 4, 9]), (5, [0, 3, 4, 5]), (6, [0, 3, 4, 5, 13]), (8, [0, 3, 4, 5]), (7, [0, 3, 4, 5]), (4, [0, 3, 4]), (9, [2])], []⟩
def passkeyref1WordsRc : RCode :=
  .seq (.region false [⟨some 2, .mv, [.k (.nil 1)], none, []⟩] [0]) (.seq (.region false [⟨some 3, .mv, [.k (.nil 1)], none, []⟩] [0, 3]) (.seq (.seq (.region false [⟨some 4, .mv,
  [.k (.d (.int .i64 0))], none, []⟩] [0, 3, 4]) (.block 0 (.loop [] (.seq (.seq (.region false [⟨some 6, .mv, [.t 4], none, []⟩, ⟨some 7, .mv, [.t 0], none, []⟩, ⟨some 8, .len,
  [.t 7], none, []⟩, ⟨some 9, .bin .lss, [.t 6, .t 8], none, []⟩] [0, 3, 4, 9]) (.cond (.t 9) .skip (.exit 0))) (.seq (.block 1 (.seq (.region false [⟨some 5, .mv, [.k (.d (.int
  .i64 7))], none, []⟩] [0, 3, 4, 5]) (.block 2 (.loop [] (.seq (.seq (.region false [⟨some 12, .mv, [.t 5], none, []⟩, ⟨some 13, .bin .geq, [.t 12, .k (.d (.int .i64 0))], none,
  []⟩] [0, 3, 4, 5, 13]) (.cond (.t 13) .skip (.exit 2))) (.seq (.block 3 (.region false [⟨some 16, .mv, [.t 3], none, []⟩, ⟨some 17, .mv, [.t 0], none, []⟩, ⟨some 18, .mv, [.t 4],
  none, []⟩, ⟨some 19, .ia 1, [.t 17, .t 18], none, []⟩, ⟨some 20, .load 1 false, [.t 19], none, []⟩, ⟨some 21, .mv, [.t 5], none, []⟩, ⟨some 22, .bin .mul, [.k (.d (.int .i64 8)),
  .t 21], none, []⟩, ⟨some 23, .cvt .u64, [.t 22], none, []⟩, ⟨some 24, .bin .shr, [.t 20, .t 23], none, []⟩, ⟨some 25, .cvt .u8, [.t 24], none, []⟩, ⟨some 26, .bslice 1 false 1
  [.d (.int .u8 0)] [0], [.t 25], none, []⟩, ⟨some 27, .app 1 140737488355328, [.t 16, .t 26], none, []⟩, ⟨some 3, .mv, [.t 27], none, []⟩] [0, 3, 4, 5])) (.region false [⟨some 14,
  .mv, [.t 5], none, []⟩, ⟨some 15, .bin .sub, [.t 14, .k (.d (.int .i64 1))], none, []⟩, ⟨some 5, .mv, [.t 15], none, []⟩] [0, 3, 4, 5]))))))) (.region false [⟨some 10, .mv, [.t
  4], none, []⟩, ⟨some 11, .bin .add, [.t 10, .k (.d (.int .i64 1))], none, []⟩, ⟨some 4, .mv, [.t 11], none, []⟩] [0, 3, 4])))))) (.seq (.region false [⟨some 28, .mv, [.t 3],
  none, []⟩, ⟨some 2, .mv, [.t 28], none, []⟩] [2]) .ret)))
def passkeyref1WordsRr : List RR := [.t 2]
theorem passkeyref1WordsC : compFn Try.prog 24 passkeyref1WordsH = some (passkeyref1WordsRc, passkeyref1WordsRr, 29) := by kernel_rfl
theorem passkeyref1WordsOK (a0 : List (BitVec 64)) (res : List (BitVec 8)) (h : passkeyref1Words a0 = some res) : CallOK Try.prog 24 [.d ((eL 1 eU64) a0)] [] (.ref 0 res.length 0 res.length) [(0, .row true 1 (res.map eU8))] := by
  unfold passkeyref1Words at h
  refine callOK passkeyref1WordsC fm rfl ?_
  simp only [initE, initM, nbor, List.map_cons, List.map_nil, Nat.reduceAdd]
  unfold passkeyref1WordsRc
  refine rwp_seq fun K1 hK1 => ?_
  refine rwp_region fun K2 hK2 => ?_
  refine st0 128 rfl (ok (mv (.nil 1))) ?_
  refine hK2 _ _ ?_
  simp only [thenK, blockK, keepE, updM, List.filter_cons, List.filter_nil, List.nil_append, List.cons_append, List.map_cons, List.map_nil, envE, Mem.get, Nat.reduceEqDiff, reduceIte, Option.isNone_none, Option.isNone_some, Bool.false_eq_true, List.length_cons, List.length_nil, Nat.reduceAdd, Nat.reduceMul]
  refine hK1 _ _ _ ?_
  refine rwp_seq fun K3 hK3 => ?_
  refine rwp_region fun K4 hK4 => ?_
  refine st0 192 rfl (ok (mv (.nil 1))) ?_
  refine hK4 _ _ ?_
  simp only [thenK, blockK, keepE, updM, List.filter_cons, List.filter_nil, List.nil_append, List.cons_append, List.map_cons, List.map_nil, envE, Mem.get, Nat.reduceEqDiff, reduceIte, Option.isNone_none, Option.isNone_some, Bool.false_eq_true, List.length_cons, List.length_nil, Nat.reduceAdd, Nat.reduceMul]
  refine hK3 _ _ _ ?_
  refine rwp_join ([], []) 2816 (fun env mem => ∃ (v5 : List (BitVec 8)), passkeyref1WordsJ1 v5 = some res ∧ env = [(3, .ref 2433 v5.length 0 v5.length)] ∧ mem = [(2433, .row true 1 (v5.map eU8))]) (fun _ _ hI => ?_) (fun K6 hK6 => ?_)
  · obtain ⟨v5, h, rfl, rfl⟩ := hI
    unfold passkeyref1WordsJ1 at h
    refine rwp_seq fun K7 hK7 => ?_
    refine rwp_region fun K8 hK8 => ?_
    refine st0 2880 rfl (ok (mv (.ref 2433 v5.length 0 v5.length))) ?_
    refine st0 2944 rfl (ok (mv (.ref 2433 v5.length 0 v5.length))) ?_
    refine hK8 _ _ ?_
    simp only [thenK, blockK, keepE, updM, List.filter_cons, List.filter_nil, List.nil_append, List.cons_append, List.map_cons, List.map_nil, envE, Mem.get, Nat.reduceEqDiff, reduceIte, Option.isNone_none, Option.isNone_some, Bool.false_eq_true, List.length_cons, List.length_nil, Nat.reduceAdd, Nat.reduceMul]
    refine hK7 _ _ _ ?_
    refine rwp_ret ?_
    obtain rfl := Option.some.inj h
    try simp only [thenK, blockK, reduceIte]
    exact end_ok trivial (rs_t (v := .ref 2433 v5.length 0 v5.length) rfl rs_nil) (en_ref en_nil) ou_nil (by first | exact eok rfl rfl rfl rfl (And.intro (And.intro rfl rfl) trivial) | (refine eok ?_ ?_ ?_ ?_ ?_ <;> first | rfl | exact (And.intro (And.intro rfl rfl) trivial) | simp [retM, Mem.get, PV.renL, PV.ren, Blk.ren, comps, rhoR, rhoM, appN, PV.refsL, PV.refs, keys, nodupB, Blk.refs, allIn, Blk.bor]))
  · refine rwp_seq fun K9 hK9 => ?_
    refine rwp_region fun K10 hK10 => ?_
    refine st0 256 rfl (ok (mv (.d (eI (0 : Int))))) ?_
    refine hK10 _ _ ?_
    simp only [thenK, blockK, keepE, updM, List.filter_cons, List.filter_nil, List.nil_append, List.cons_append, List.map_cons, List.map_nil, envE, Mem.get, Nat.reduceEqDiff, reduceIte, Option.isNone_none, Option.isNone_some, Bool.false_eq_true, List.length_cons, List.length_nil, Nat.reduceAdd, Nat.reduceMul]
    refine hK9 _ _ _ ?_
    refine rwp_block fun K11 hK11 => ?_
    refine rwp_loop ([(3, 2433)], []) 2496 (fun k env mem => ∃ (v12 : List (BitVec 8)) (v13 : Int), passkeyref1WordsL2 a0 k v12 v13 = some res ∧ env = [(0, .d ((eL 1 eU64) a0)), (3, .ref 2433 v12.length 0 v12.length), (4, .d (eI v13))] ∧ mem = [(2433, .row true 1 (v12.map eU8))]) FUEL ⟨_, _, Settled.refl, _, _, ⟨_, _, h, rfl, rfl⟩, ⟨rfl, ⟨⟨rfl, rfl⟩, ⟨⟨rfl, rfl⟩, ⟨⟨rfl, rfl⟩, trivial⟩⟩⟩, ⟨⟨rfl, rfl⟩, trivial⟩⟩, rfl⟩ (fun k2 env1 mem1 hI K14 hK14 => ?_)
    obtain ⟨v12, v13, h, rfl, rfl⟩ := hI
    cases k2 with
    | zero => simp [passkeyref1WordsL2] at h
    | succ k2 =>
      rw [passkeyref1WordsL2] at h
      refine rwp_seq fun K15 hK15 => ?_
      refine rwp_seq fun K16 hK16 => ?_
      refine rwp_region fun K17 hK17 => ?_
      refine st0 2560 rfl (ok (mv (.d (eI v13)))) ?_
      refine st0 2624 rfl (ok (mv (.d ((eL 1 eU64) a0)))) ?_
      refine st0 2688 rfl (ok (lenL _ _)) ?_
      refine st0 2752 rfl (ok (lssI _ _)) ?_
      refine hK17 _ _ ?_
      simp only [thenK, blockK, keepE, updM, List.filter_cons, List.filter_nil, List.nil_append, List.cons_append, List.map_cons, List.map_nil, envE, Mem.get, Nat.reduceEqDiff, reduceIte, Option.isNone_none, Option.isNone_some, Bool.false_eq_true, List.length_cons, List.length_nil, Nat.reduceAdd, Nat.reduceMul]
      refine hK16 _ _ _ ?_
      rcases Bool.eq_false_or_eq_true ((decide (v13 < (a0.length : Int)))) with h18 | h18
      · replace h := ite_t h h18
        refine rwp_t (isT h18) ?_
        refine rwp_skip ?_
        refine hK15 _ _ _ ?_
        refine rwp_join ([], []) 4288 (fun env mem => ∃ (v19 : List (BitVec 8)), passkeyref1WordsJ3 (passkeyref1WordsL2 a0 k2) v13 v19 = some res ∧ env = [(0, .d ((eL 1 eU64) a0)), (3, .ref 2433 v19.length 0 v19.length), (4, .d (eI v13))] ∧ mem = [(2433, .row true 1 (v19.map eU8))]) (fun _ _ hI => ?_) (fun K20 hK20 => ?_)
        · obtain ⟨v19, h, rfl, rfl⟩ := hI
          unfold passkeyref1WordsJ3 at h
          refine rwp_region fun K21 hK21 => ?_
          refine st0 4352 rfl (ok (mv (.d (eI v13)))) ?_
          refine st0 4416 rfl (ok (addI _ (1 : Int))) ?_
          refine st0 4480 rfl (ok (mv (.d (eI (w64 (v13 + (1 : Int))))))) ?_
          refine hK21 _ _ ?_
          simp only [thenK, blockK, keepE, updM, List.filter_cons, List.filter_nil, List.nil_append, List.cons_append, List.map_cons, List.map_nil, envE, Mem.get, Nat.reduceEqDiff, reduceIte, Option.isNone_none, Option.isNone_some, Bool.false_eq_true, List.length_cons, List.length_nil, Nat.reduceAdd, Nat.reduceMul]
          exact hK14.out _ _ _ k2 (Nat.lt_succ_self k2) ⟨_, _, Settled.refl, _, _, ⟨_, _, h, rfl, rfl⟩, ⟨rfl, ⟨⟨rfl, rfl⟩, ⟨⟨rfl, rfl⟩, ⟨⟨rfl, rfl⟩, trivial⟩⟩⟩, ⟨⟨rfl, rfl⟩, trivial⟩⟩, rfl⟩
        · refine rwp_block fun K22 hK22 => ?_
          refine rwp_seq fun K23 hK23 => ?_
          refine rwp_region fun K24 hK24 => ?_
          refine st0 2816 rfl (ok (mv (.d (eI (7 : Int))))) ?_
          refine hK24 _ _ ?_
          simp only [thenK, blockK, keepE, updM, List.filter_cons, List.filter_nil, List.nil_append, List.cons_append, List.map_cons, List.map_nil, envE, Mem.get, Nat.reduceEqDiff, reduceIte, Option.isNone_none, Option.isNone_some, Bool.false_eq_true, List.length_cons, List.length_nil, Nat.reduceAdd, Nat.reduceMul]
          refine hK23 _ _ _ ?_
          refine rwp_block fun K25 hK25 => ?_
          refine rwp_loop ([], []) 4096 (fun k env mem => ∃ (v26 : List (BitVec 8)) (v27 : Int), passkeyref1WordsL4 (passkeyref1WordsL2 a0 k2) a0 v13 k v26 v27 = some res ∧ env = [(0, .d ((eL 1 eU64) a0)), (3, .ref 2433 v26.length 0 v26.length), (4, .d (eI v13)), (5, .d (eI v27))] ∧ mem = [(2433, .row true 1 (v26.map eU8))]) FUEL ⟨_, _, Settled.refl, _, _, ⟨_, _, h, rfl, rfl⟩, ⟨rfl, ⟨⟨rfl, rfl⟩, ⟨⟨rfl, rfl⟩, ⟨⟨rfl, rfl⟩, ⟨⟨rfl, rfl⟩, trivial⟩⟩⟩⟩, ⟨⟨rfl, rfl⟩, trivial⟩⟩, rfl⟩ (fun k4 env1 mem1 hI K28 hK28 => ?_)
          obtain ⟨v26, v27, h, rfl, rfl⟩ := hI
          cases k4 with
          | zero => simp [passkeyref1WordsL4] at h
          | succ k4 =>
            rw [passkeyref1WordsL4] at h
            refine rwp_seq fun K29 hK29 => ?_
            refine rwp_seq fun K30 hK30 => ?_
            refine rwp_region fun K31 hK31 => ?_
            refine st0 4160 rfl (ok (mv (.d (eI v27)))) ?_
            refine st0 4224 rfl (ok (geqI _ (0 : Int))) ?_
            refine hK31 _ _ ?_
            simp only [thenK, blockK, keepE, updM, List.filter_cons, List.filter_nil, List.nil_append, List.cons_append, List.map_cons, List.map_nil, envE, Mem.get, Nat.reduceEqDiff, reduceIte, Option.isNone_none, Option.isNone_some, Bool.false_eq_true, List.length_cons, List.length_nil, Nat.reduceAdd, Nat.reduceMul]
            refine hK30 _ _ _ ?_
            rcases Bool.eq_false_or_eq_true ((decide ((0 : Int) ≤ v27))) with h32 | h32
            · replace h := ite_t h h32
              refine rwp_t (isT h32) ?_
              refine rwp_skip ?_
              refine hK29 _ _ _ ?_
              refine rwp_seq fun K33 hK33 => ?_
              refine rwp_block fun K34 hK34 => ?_
              refine rwp_region fun K35 hK35 => ?_
              refine st0 4288 rfl (ok (mv (.ref 2433 v26.length 0 v26.length))) ?_
              refine st0 4352 rfl (ok (mv (.d ((eL 1 eU64) a0)))) ?_
              refine st0 4416 rfl (ok (mv (.d (eI v13)))) ?_
              obtain ⟨h36, h⟩ := asq_inv h
              refine st0 4480 rfl (ok (iaL (e := eU64) (xs := a0) 0#64 h36)) ?_
              refine st0 4544 rfl (ok (ld_i (v := eU64 (a0.getD v13.toNat 0#64)) rfl rfl)) ?_
              refine st0 4608 rfl (ok (mv (.d (eI v27)))) ?_
              refine st0 4672 rfl (ok (mulI (8 : Int) _)) ?_
              refine st0 4736 rfl (ok (ofI64 _ (w64 ((8 : Int) * v27)))) ?_
              obtain ⟨v37, h38, h⟩ := lett_inv h
              refine st0e 4800 rfl (ok (shr64_64 _ _)) (congrArg (fun z => PV.d (eU64 z)) h38) ?_
              refine st0 4864 rfl (ok (cvt64_8 _)) ?_
              refine st1 4928 rfl (mem' := [(4864, .row true 1 (([(v37.setWidth 8)] : List (BitVec 8)).map eU8)), (2433, .row true 1 (v26.map eU8))]) (ok (bsl (e := eU8) (ys := ([(v37.setWidth 8)] : List (BitVec 8))) rfl rfl rfl)) rfl ?_
              obtain ⟨h39, h⟩ := asq_inv h
              refine st1 4992 rfl (mem' := [(2433, .row true 1 ((v26 ++ ([(v37.setWidth 8)] : List (BitVec 8))).map eU8)), (4864, .row true 1 (([(v37.setWidth 8)] : List (BitVec 8)).map eU8))]) (ok (appR (e := eU8) (xs := v26) (ys := ([(v37.setWidth 8)] : List (BitVec 8))) (contR (xs := ([(v37.setWidth 8)] : List (BitVec 8))) rfl rfl rfl) rfl rfl rfl h39)) rfl ?_
              refine st0 5056 rfl (ok (mv (.ref 2433 (((v26 ++ ([(v37.setWidth 8)] : List (BitVec 8)))).length) 0 (((v26 ++ ([(v37.setWidth 8)] : List (BitVec 8)))).length)))) ?_
              refine hK35 _ _ ?_
              simp only [thenK, blockK, keepE, updM, List.filter_cons, List.filter_nil, List.nil_append, List.cons_append, List.map_cons, List.map_nil, envE, Mem.get, Nat.reduceEqDiff, reduceIte, Option.isNone_none, Option.isNone_some, Bool.false_eq_true, List.length_cons, List.length_nil, Nat.reduceAdd, Nat.reduceMul]
              refine hK34 _ _ _ ?_
              refine hK33 _ _ _ ?_
              refine rwp_region fun K40 hK40 => ?_
              refine st0 5120 rfl (ok (mv (.d (eI v27)))) ?_
              refine st0 5184 rfl (ok (subI _ (1 : Int))) ?_
              refine st0 5248 rfl (ok (mv (.d (eI (w64 (v27 - (1 : Int))))))) ?_
              refine hK40 _ _ ?_
              simp only [thenK, blockK, keepE, updM, List.filter_cons, List.filter_nil, List.nil_append, List.cons_append, List.map_cons, List.map_nil, envE, Mem.get, Nat.reduceEqDiff, reduceIte, Option.isNone_none, Option.isNone_some, Bool.false_eq_true, List.length_cons, List.length_nil, Nat.reduceAdd, Nat.reduceMul]
              exact hK28.out _ _ _ k4 (Nat.lt_succ_self k4) ⟨_, _, Settled.refl, _, _, ⟨_, _, h, rfl, rfl⟩, ⟨rfl, ⟨⟨rfl, rfl⟩, ⟨⟨rfl, rfl⟩, ⟨⟨rfl, rfl⟩, ⟨⟨rfl, rfl⟩, trivial⟩⟩⟩⟩, ⟨⟨rfl, rfl⟩, trivial⟩⟩, rfl⟩
            · replace h := ite_f h h32
              refine rwp_f (isF h32) ?_
              refine rwp_exit ?_
              refine hK25 _ _ _ ?_
              refine hK22 _ _ _ ?_
              exact hK20 _ _ _ ⟨_, _, Settled.refl, _, _, ⟨_, h, rfl, rfl⟩, ⟨rfl, ⟨⟨rfl, rfl⟩, ⟨⟨rfl, rfl⟩, ⟨⟨rfl, rfl⟩, trivial⟩⟩⟩, ⟨⟨rfl, rfl⟩, trivial⟩⟩, rfl⟩
      · replace h := ite_f h h18
        refine rwp_f (isF h18) ?_
        refine rwp_exit ?_
        refine hK11 _ _ _ ?_
        exact hK6 _ _ _ ⟨_, _, Settled.refl, _, _, ⟨_, h, rfl, rfl⟩, ⟨rfl, ⟨⟨rfl, rfl⟩, trivial⟩, ⟨⟨rfl, rfl⟩, trivial⟩⟩, rfl⟩

/-- passkey/passkeyref1.rotl -/
def passkeyref1rotlH : Hints := ⟨[(0, [0, 1]), (1, [4])], []⟩
def passkeyref1rotlRc : RCode :=
  .seq (.region false [⟨some 4, .mv, [.k (.d (.int .u64 0))], none, []⟩] [0, 1]) (.seq (.region false [⟨some 5, .mv, [.t 0], none, []⟩, ⟨some 6, .mv, [.t 1], none, []⟩, ⟨some 7, .bin
  .shl, [.t 5, .t 6], none, []⟩, ⟨some 8, .mv, [.t 0], none, []⟩, ⟨some 9, .mv, [.t 1], none, []⟩, ⟨some 10, .bin .sub, [.k (.d (.int .u64 64)), .t 9], none, []⟩, ⟨some 11, .bin
  .shr, [.t 8, .t 10], none, []⟩, ⟨some 12, .bin .or, [.t 7, .t 11], none, []⟩, ⟨some 4, .mv, [.t 12], none, []⟩] [4]) .ret)
def passkeyref1rotlRr : List RR := [.t 4]
theorem passkeyref1rotlC : compFn Try.prog 36 passkeyref1rotlH = some (passkeyref1rotlRc, passkeyref1rotlRr, 13) := by kernel_rfl
theorem passkeyref1rotlOK (a0 : BitVec 64) (a1 : BitVec 64) (res : BitVec 64) (h : passkeyref1rotl a0 a1 = some res) : CallOK Try.prog 36 [.d (eU64 a0), .d (eU64 a1)] [] (.d (eU64 res)) [] := by
  unfold passkeyref1rotl at h
  refine callOK passkeyref1rotlC fm rfl ?_
  simp only [initE, initM, nbor, List.map_cons, List.map_nil, Nat.reduceAdd]
  unfold passkeyref1rotlRc
  refine rwp_seq fun K1 hK1 => ?_
  refine rwp_region fun K2 hK2 => ?_
  refine st0 128 rfl (ok (mv (.d (eU64 (0#64))))) ?_
  refine hK2 _ _ ?_
  simp only [thenK, blockK, keepE, updM, List.filter_cons, List.filter_nil, List.nil_append, List.cons_append, List.map_cons, List.map_nil, envE, Mem.get, Nat.reduceEqDiff, reduceIte, Option.isNone_none, Option.isNone_some, Bool.false_eq_true, List.length_cons, List.length_nil, Nat.reduceAdd, Nat.reduceMul]
  refine hK1 _ _ _ ?_
  refine rwp_seq fun K3 hK3 => ?_
  refine rwp_region fun K4 hK4 => ?_
  refine st0 192 rfl (ok (mv (.d (eU64 a0)))) ?_
  refine st0 256 rfl (ok (mv (.d (eU64 a1)))) ?_
  refine st0 320 rfl (ok (shl64_64 _ _)) ?_
  refine st0 384 rfl (ok (mv (.d (eU64 a0)))) ?_
  refine st0 448 rfl (ok (mv (.d (eU64 a1)))) ?_
  refine st0 512 rfl (ok (sub64 (64#64) _)) ?_
  refine st0 576 rfl (ok (shr64_64 _ _)) ?_
  refine st0 640 rfl (ok (or64 _ _)) ?_
  refine st0 704 rfl (ok (mv (.d (eU64 ((a0 <<< a1.toNat) ||| (a0 >>> ((64#64) - a1).toNat)))))) ?_
  refine hK4 _ _ ?_
  simp only [thenK, blockK, keepE, updM, List.filter_cons, List.filter_nil, List.nil_append, List.cons_append, List.map_cons, List.map_nil, envE, Mem.get, Nat.reduceEqDiff, reduceIte, Option.isNone_none, Option.isNone_some, Bool.false_eq_true, List.length_cons, List.length_nil, Nat.reduceAdd, Nat.reduceMul]
  refine hK3 _ _ _ ?_
  refine rwp_ret ?_
  obtain rfl := Option.some.inj h
  try simp only [thenK, blockK, reduceIte]
  exact end_ok trivial (rs_t (v := .d (eU64 ((a0 <<< a1.toNat) ||| (a0 >>> ((64#64) - a1).toNat)))) rfl rs_nil) (en_d (to_d _) en_nil) ou_nil (by first | exact eok rfl rfl rfl rfl trivial | (refine eok ?_ ?_ ?_ ?_ ?_ <;> first | rfl | exact trivial | simp [retM, Mem.get, PV.renL, PV.ren, Blk.ren, comps, rhoR, rhoM, appN, PV.refsL, PV.refs, keys, nodupB, Blk.refs, allIn, Blk.bor]))

end Go.Proofs.Ty
