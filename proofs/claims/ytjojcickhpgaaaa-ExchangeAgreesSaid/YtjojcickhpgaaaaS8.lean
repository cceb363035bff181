/- Each Go function comes to what its plain function says. PRINTED by a program of this session (ty.py). -/
import Derived.Test.YtjojcickhpgaaaaS7
set_option linter.unusedVariables false
set_option linter.unusedSimpArgs false
set_option maxHeartbeats 4000000
set_option maxRecDepth 10000
namespace Go.Proofs.Ty
open Go Go.RW Go.Proofs
/-- passkey/passkeylaw5.ExchangeAgrees -/
def passkeylaw5ExchangeAgreesH : Hints := ⟨[(0, [0, 1]), (1, [0, 1, 5, 6]), (2, [0, 1, 5, 6, 28]), (3, [4]), (4, [1, 5, 7, 8]), (5, [7, 8, 9, 10]), (6, [4])], []⟩
def passkeylaw5ExchangeAgreesRc : RCode :=
  .seq (.region false [⟨some 4, .mv, [.k (.d (.bool false))], none, []⟩] [0, 1]) (.seq (.region false [⟨some 11, .mv, [.t 0], none, []⟩, ⟨some 12, .call 16 false, [.t 11], none, []⟩,
  ⟨some 13, .mv, [.t 1], none, []⟩, ⟨some 14, .call 16 false, [.t 13], none, []⟩, ⟨some 5, .mv, [.t 12], none, []⟩, ⟨some 6, .mv, [.t 14], none, []⟩] [0, 1, 5, 6]) (.seq (.seq
  (.region false [⟨some 15, .mv, [.t 5], none, []⟩, ⟨some 16, .bin .lss, [.t 15, .k (.d (.int .u64 2))], none, []⟩, ⟨some 17, .mv, [.t 16], none, []⟩, ⟨some 18, .mv, [.t 5], some
  (17, false), []⟩, ⟨some 19, .bin .gtr, [.t 18, .k (.d (.int .u64 2305843009213693949))], some (17, false), []⟩, ⟨some 20, .pick, [.t 17, .k (.d (.bool true)), .t 19], none, []⟩,
  ⟨some 21, .mv, [.t 20], none, []⟩, ⟨some 22, .mv, [.t 6], some (21, false), []⟩, ⟨some 23, .bin .lss, [.t 22, .k (.d (.int .u64 2))], some (21, false), []⟩, ⟨some 24, .pick, [.t
  21, .k (.d (.bool true)), .t 23], none, []⟩, ⟨some 25, .mv, [.t 24], none, []⟩, ⟨some 26, .mv, [.t 6], some (25, false), []⟩, ⟨some 27, .bin .gtr, [.t 26, .k (.d (.int .u64
  2305843009213693949))], some (25, false), []⟩, ⟨some 28, .pick, [.t 25, .k (.d (.bool true)), .t 27], none, []⟩] [0, 1, 5, 6, 28]) (.cond (.t 28) (.seq (.region false [⟨some 29,
  .mv, [.t 5], none, []⟩, ⟨some 30, .mv, [.t 0], none, []⟩, ⟨some 31, .call 17 false, [.t 30], none, []⟩, ⟨some 32, .bin .eql, [.t 29, .t 31], none, []⟩, ⟨some 33, .mv, [.t 32],
  none, []⟩, ⟨some 34, .mv, [.t 6], some (33, true), []⟩, ⟨some 35, .mv, [.t 1], some (33, true), []⟩, ⟨some 36, .call 17 false, [.t 35], some (33, true), []⟩, ⟨some 37, .bin .eql,
  [.t 34, .t 36], some (33, true), []⟩, ⟨some 38, .pick, [.t 33, .t 37, .k (.d (.bool false))], none, []⟩, ⟨some 39, .mv, [.t 38], none, []⟩, ⟨some 40, .call 11 false, [], some
  (39, true), []⟩, ⟨some 41, .pick, [.t 39, .t 40, .k (.d (.bool false))], none, []⟩, ⟨some 4, .mv, [.t 41], none, []⟩] [4]) .ret) .skip)) (.seq (.region false [⟨some 43, .mv, [.t
  0], none, []⟩, ⟨some 44, .mv, [.t 6], none, []⟩, ⟨some 45, .call 14 false, [.t 43, .t 44], none, []⟩, ⟨some 42, .mv, [.t 45], none, []⟩, ⟨some 46, .ext 0, [.t 42], none, []⟩,
  ⟨some 47, .ext 1, [.t 42], none, []⟩, ⟨some 7, .mv, [.t 46], none, []⟩, ⟨some 8, .mv, [.t 47], none, []⟩] [1, 5, 7, 8]) (.seq (.region false [⟨some 49, .mv, [.t 1], none, []⟩,
  ⟨some 50, .mv, [.t 5], none, []⟩, ⟨some 51, .call 14 false, [.t 49, .t 50], none, []⟩, ⟨some 48, .mv, [.t 51], none, []⟩, ⟨some 52, .ext 0, [.t 48], none, []⟩, ⟨some 53, .ext 1,
  [.t 48], none, []⟩, ⟨some 9, .mv, [.t 52], none, []⟩, ⟨some 10, .mv, [.t 53], none, []⟩] [7, 8, 9, 10]) (.seq (.region false [⟨some 54, .mv, [.t 8], none, []⟩, ⟨some 55, .bin
  .eql, [.t 54, .k (.d (.int .i64 0))], none, []⟩, ⟨some 56, .mv, [.t 55], none, []⟩, ⟨some 57, .mv, [.t 10], some (56, true), []⟩, ⟨some 58, .bin .eql, [.t 57, .k (.d (.int .i64
  0))], some (56, true), []⟩, ⟨some 59, .pick, [.t 56, .t 58, .k (.d (.bool false))], none, []⟩, ⟨some 60, .mv, [.t 59], none, []⟩, ⟨some 61, .mv, [.t 7], some (60, true), []⟩,
  ⟨some 62, .mv, [.t 9], some (60, true), []⟩, ⟨some 63, .bin .eql, [.t 61, .t 62], some (60, true), []⟩, ⟨some 64, .pick, [.t 60, .t 63, .k (.d (.bool false))], none, []⟩, ⟨some
  65, .mv, [.t 64], none, []⟩, ⟨some 66, .call 11 false, [], some (65, true), []⟩, ⟨some 67, .pick, [.t 65, .t 66, .k (.d (.bool false))], none, []⟩, ⟨some 4, .mv, [.t 67], none,
  []⟩] [4]) .ret)))))
def passkeylaw5ExchangeAgreesRr : List RR := [.t 4]
theorem passkeylaw5ExchangeAgreesC : compFn Try.prog 8 passkeylaw5ExchangeAgreesH = some (passkeylaw5ExchangeAgreesRc, passkeylaw5ExchangeAgreesRr, 68) := by kernel_rfl
theorem passkeylaw5ExchangeAgreesOK (a0 : BitVec 64) (a1 : BitVec 64) (res : Bool) (h : passkeylaw5ExchangeAgrees a0 a1 = some res) : CallOK Try.prog 8 [.d (eU64 a0), .d (eU64 a1)] [] (.d (eB res)) [] := by
  unfold passkeylaw5ExchangeAgrees at h
  refine callOK passkeylaw5ExchangeAgreesC fm rfl ?_
  simp only [initE, initM, nbor, List.map_cons, List.map_nil, Nat.reduceAdd]
  unfold passkeylaw5ExchangeAgreesRc
  refine rwp_seq fun K1 hK1 => ?_
  refine rwp_region fun K2 hK2 => ?_
  refine st0 128 rfl (ok (mv (.d (eB false)))) ?_
  refine hK2 _ _ ?_
  simp only [thenK, blockK, keepE, updM, List.filter_cons, List.filter_nil, List.nil_append, List.cons_append, List.map_cons, List.map_nil, envE, Mem.get, Nat.reduceEqDiff, reduceIte, Option.isNone_none, Option.isNone_some, Bool.false_eq_true, List.length_cons, List.length_nil, Nat.reduceAdd, Nat.reduceMul]
  refine hK1 _ _ _ ?_
  refine rwp_seq fun K3 hK3 => ?_
  refine rwp_region fun K4 hK4 => ?_
  refine st0 192 rfl (ok (mv (.d (eU64 a0)))) ?_
  obtain ⟨y5, h6, h⟩ := bind_inv h
  refine st0 256 rfl (call_ok (v := .d (eU64 y5)) (u := []) (ar_d (eU64 a0) ar_nil) rfl (exchangePublicOK a0 y5 h6) rfl) ?_
  refine st0 320 rfl (ok (mv (.d (eU64 a1)))) ?_
  obtain ⟨y7, h8, h⟩ := bind_inv h
  refine st0 384 rfl (call_ok (v := .d (eU64 y7)) (u := []) (ar_d (eU64 a1) ar_nil) rfl (exchangePublicOK a1 y7 h8) rfl) ?_
  refine st0 448 rfl (ok (mv (.d (eU64 y5)))) ?_
  refine st0 512 rfl (ok (mv (.d (eU64 y7)))) ?_
  refine hK4 _ _ ?_
  simp only [thenK, blockK, keepE, updM, List.filter_cons, List.filter_nil, List.nil_append, List.cons_append, List.map_cons, List.map_nil, envE, Mem.get, Nat.reduceEqDiff, reduceIte, Option.isNone_none, Option.isNone_some, Bool.false_eq_true, List.length_cons, List.length_nil, Nat.reduceAdd, Nat.reduceMul]
  refine hK3 _ _ _ ?_
  refine rwp_seq fun K9 hK9 => ?_
  refine rwp_join ([], []) 1472 (fun env mem => ∃ (v10 : Bool), passkeylaw5ExchangeAgreesJ1 a0 a1 y5 y7 v10 = some res ∧ env = [(0, .d (eU64 a0)), (1, .d (eU64 a1)), (5, .d (eU64 y5)), (6, .d (eU64 y7)), (28, .d (eB v10))] ∧ mem = []) (fun _ _ hI => ?_) (fun K11 hK11 => ?_)
  · obtain ⟨v10, h, rfl, rfl⟩ := hI
    unfold passkeylaw5ExchangeAgreesJ1 at h
    rcases Bool.eq_false_or_eq_true (v10) with h12 | h12
    · replace h := ite_t h h12
      refine rwp_t (isT h12) ?_
      refine rwp_seq fun K13 hK13 => ?_
      refine rwp_region fun K14 hK14 => ?_
      refine st0 1536 rfl (ok (mv (.d (eU64 y5)))) ?_
      refine st0 1600 rfl (ok (mv (.d (eU64 a0)))) ?_
      obtain ⟨y15, h16, h⟩ := bind_inv h
      refine st0 1664 rfl (call_ok (v := .d (eU64 y15)) (u := []) (ar_d (eU64 a0) ar_nil) rfl (passkeyref3PublicWordOK a0 y15 h16) rfl) ?_
      refine st0 1728 rfl (ok (eql64 _ _)) ?_
      refine st0 1792 rfl (ok (mv (.d (eB (y5 == y15))))) ?_
      rcases Bool.eq_false_or_eq_true ((y5 == y15)) with h17 | h17
      · replace h := ite_t h h17
        refine stG (isT h17) ?_
        refine st0 1856 rfl (ok (mv (.d (eU64 y7)))) ?_
        refine stG (isT h17) ?_
        refine st0 1920 rfl (ok (mv (.d (eU64 a1)))) ?_
        refine stG (isT h17) ?_
        obtain ⟨y18, h19, h⟩ := bind_inv h
        refine st0 1984 rfl (call_ok (v := .d (eU64 y18)) (u := []) (ar_d (eU64 a1) ar_nil) rfl (passkeyref3PublicWordOK a1 y18 h19) rfl) ?_
        refine stG (isT h17) ?_
        refine st0 2048 rfl (ok (eql64 _ _)) ?_
        refine st0 2112 rfl (ok (pick_t h17 (.d (eB (y7 == y18))) _)) ?_
        refine st0 2176 rfl (ok (mv (.d (eB (y7 == y18))))) ?_
        rcases Bool.eq_false_or_eq_true ((y7 == y18)) with h20 | h20
        · replace h := ite_t h h20
          refine stG (isT h20) ?_
          obtain ⟨y21, h22, h⟩ := bind_inv h
          refine st0 2240 rfl (call_ok (v := .d (eB y21)) (u := []) ar_nil rfl (passkeylaw5awakeOK  y21 h22) rfl) ?_
          refine st0 2304 rfl (ok (pick_t h20 (.d (eB y21)) _)) ?_
          refine st0 2368 rfl (ok (mv (.d (eB y21)))) ?_
          refine hK14 _ _ ?_
          simp only [thenK, blockK, keepE, updM, List.filter_cons, List.filter_nil, List.nil_append, List.cons_append, List.map_cons, List.map_nil, envE, Mem.get, Nat.reduceEqDiff, reduceIte, Option.isNone_none, Option.isNone_some, Bool.false_eq_true, List.length_cons, List.length_nil, Nat.reduceAdd, Nat.reduceMul]
          refine hK13 _ _ _ ?_
          refine rwp_ret ?_
          obtain rfl := Option.some.inj h
          try simp only [thenK, blockK, reduceIte]
          exact end_ok trivial (rs_t (v := .d (eB y21)) rfl rs_nil) (en_d (to_d _) en_nil) ou_nil (by first | exact eok rfl rfl rfl rfl trivial | (refine eok ?_ ?_ ?_ ?_ ?_ <;> first | rfl | exact trivial | simp [retM, Mem.get, PV.renL, PV.ren, Blk.ren, comps, rhoR, rhoM, appN, PV.refsL, PV.refs, keys, nodupB, Blk.refs, allIn, Blk.bor]))
        · replace h := ite_f h h20
          refine stGN 2240 rfl rfl h20 ?_
          refine st0 2304 rfl (ok (pick_f h20 _ (.d (eB false)))) ?_
          refine st0 2368 rfl (ok (mv (.d (eB false)))) ?_
          refine hK14 _ _ ?_
          simp only [thenK, blockK, keepE, updM, List.filter_cons, List.filter_nil, List.nil_append, List.cons_append, List.map_cons, List.map_nil, envE, Mem.get, Nat.reduceEqDiff, reduceIte, Option.isNone_none, Option.isNone_some, Bool.false_eq_true, List.length_cons, List.length_nil, Nat.reduceAdd, Nat.reduceMul]
          refine hK13 _ _ _ ?_
          refine rwp_ret ?_
          obtain rfl := Option.some.inj h
          try simp only [thenK, blockK, reduceIte]
          exact end_ok trivial (rs_t (v := .d (eB false)) rfl rs_nil) (en_d (to_d _) en_nil) ou_nil (by first | exact eok rfl rfl rfl rfl trivial | (refine eok ?_ ?_ ?_ ?_ ?_ <;> first | rfl | exact trivial | simp [retM, Mem.get, PV.renL, PV.ren, Blk.ren, comps, rhoR, rhoM, appN, PV.refsL, PV.refs, keys, nodupB, Blk.refs, allIn, Blk.bor]))
      · replace h := ite_f h h17
        refine stGN 1856 rfl rfl h17 ?_
        refine stGN 1920 rfl rfl h17 ?_
        refine stGN 1984 rfl rfl h17 ?_
        refine stGN 2048 rfl rfl h17 ?_
        refine st0 2112 rfl (ok (pick_f h17 _ (.d (eB false)))) ?_
        refine st0 2176 rfl (ok (mv (.d (eB false)))) ?_
        refine stGN 2240 rfl rfl rfl ?_
        refine st0 2304 rfl (ok (pick_f rfl _ (.d (eB false)))) ?_
        refine st0 2368 rfl (ok (mv (.d (eB false)))) ?_
        refine hK14 _ _ ?_
        simp only [thenK, blockK, keepE, updM, List.filter_cons, List.filter_nil, List.nil_append, List.cons_append, List.map_cons, List.map_nil, envE, Mem.get, Nat.reduceEqDiff, reduceIte, Option.isNone_none, Option.isNone_some, Bool.false_eq_true, List.length_cons, List.length_nil, Nat.reduceAdd, Nat.reduceMul]
        refine hK13 _ _ _ ?_
        refine rwp_ret ?_
        obtain rfl := Option.some.inj h
        try simp only [thenK, blockK, reduceIte]
        exact end_ok trivial (rs_t (v := .d (eB false)) rfl rs_nil) (en_d (to_d _) en_nil) ou_nil (by first | exact eok rfl rfl rfl rfl trivial | (refine eok ?_ ?_ ?_ ?_ ?_ <;> first | rfl | exact trivial | simp [retM, Mem.get, PV.renL, PV.ren, Blk.ren, comps, rhoR, rhoM, appN, PV.refsL, PV.refs, keys, nodupB, Blk.refs, allIn, Blk.bor]))
    · replace h := ite_f h h12
      refine rwp_f (isF h12) ?_
      refine rwp_skip ?_
      refine hK9 _ _ _ ?_
      refine rwp_seq fun K23 hK23 => ?_
      refine rwp_region fun K24 hK24 => ?_
      refine st0 1536 rfl (ok (mv (.d (eU64 a0)))) ?_
      refine st0 1600 rfl (ok (mv (.d (eU64 y7)))) ?_
      obtain ⟨y25, h26, h⟩ := bind_inv h
      refine st0 1664 rfl (call_ok (v := .tup [.d (eU64 y25.1), .d (eI y25.2)]) (u := []) (ar_d (eU64 a0) (ar_d (eU64 y7) ar_nil)) rfl (exchangeSharedOK a0 y7 y25 h26) rfl) ?_
      refine st0 1728 rfl (ok (mv (.tup [.d (eU64 y25.1), .d (eI y25.2)]))) ?_
      refine st0 1792 rfl (ok (extr (v := .d (eU64 y25.1)) rfl rfl)) ?_
      refine st0 1856 rfl (ok (extr (v := .d (eI y25.2)) rfl rfl)) ?_
      refine st0 1920 rfl (ok (mv (.d (eU64 y25.1)))) ?_
      refine st0 1984 rfl (ok (mv (.d (eI y25.2)))) ?_
      refine hK24 _ _ ?_
      simp only [thenK, blockK, keepE, updM, List.filter_cons, List.filter_nil, List.nil_append, List.cons_append, List.map_cons, List.map_nil, envE, Mem.get, Nat.reduceEqDiff, reduceIte, Option.isNone_none, Option.isNone_some, Bool.false_eq_true, List.length_cons, List.length_nil, Nat.reduceAdd, Nat.reduceMul]
      refine hK23 _ _ _ ?_
      refine rwp_seq fun K27 hK27 => ?_
      refine rwp_region fun K28 hK28 => ?_
      refine st0 2048 rfl (ok (mv (.d (eU64 a1)))) ?_
      refine st0 2112 rfl (ok (mv (.d (eU64 y5)))) ?_
      obtain ⟨y29, h30, h⟩ := bind_inv h
      refine st0 2176 rfl (call_ok (v := .tup [.d (eU64 y29.1), .d (eI y29.2)]) (u := []) (ar_d (eU64 a1) (ar_d (eU64 y5) ar_nil)) rfl (exchangeSharedOK a1 y5 y29 h30) rfl) ?_
      refine st0 2240 rfl (ok (mv (.tup [.d (eU64 y29.1), .d (eI y29.2)]))) ?_
      refine st0 2304 rfl (ok (extr (v := .d (eU64 y29.1)) rfl rfl)) ?_
      refine st0 2368 rfl (ok (extr (v := .d (eI y29.2)) rfl rfl)) ?_
      refine st0 2432 rfl (ok (mv (.d (eU64 y29.1)))) ?_
      refine st0 2496 rfl (ok (mv (.d (eI y29.2)))) ?_
      refine hK28 _ _ ?_
      simp only [thenK, blockK, keepE, updM, List.filter_cons, List.filter_nil, List.nil_append, List.cons_append, List.map_cons, List.map_nil, envE, Mem.get, Nat.reduceEqDiff, reduceIte, Option.isNone_none, Option.isNone_some, Bool.false_eq_true, List.length_cons, List.length_nil, Nat.reduceAdd, Nat.reduceMul]
      refine hK27 _ _ _ ?_
      refine rwp_seq fun K31 hK31 => ?_
      refine rwp_region fun K32 hK32 => ?_
      refine st0 2560 rfl (ok (mv (.d (eI y25.2)))) ?_
      refine st0 2624 rfl (ok (eqlI _ (0 : Int))) ?_
      refine st0 2688 rfl (ok (mv (.d (eB (y25.2 == (0 : Int)))))) ?_
      rcases Bool.eq_false_or_eq_true ((y25.2 == (0 : Int))) with h33 | h33
      · replace h := ite_t h h33
        refine stG (isT h33) ?_
        refine st0 2752 rfl (ok (mv (.d (eI y29.2)))) ?_
        refine stG (isT h33) ?_
        refine st0 2816 rfl (ok (eqlI _ (0 : Int))) ?_
        refine st0 2880 rfl (ok (pick_t h33 (.d (eB (y29.2 == (0 : Int)))) _)) ?_
        refine st0 2944 rfl (ok (mv (.d (eB (y29.2 == (0 : Int)))))) ?_
        rcases Bool.eq_false_or_eq_true ((y29.2 == (0 : Int))) with h34 | h34
        · replace h := ite_t h h34
          refine stG (isT h34) ?_
          refine st0 3008 rfl (ok (mv (.d (eU64 y25.1)))) ?_
          refine stG (isT h34) ?_
          refine st0 3072 rfl (ok (mv (.d (eU64 y29.1)))) ?_
          refine stG (isT h34) ?_
          refine st0 3136 rfl (ok (eql64 _ _)) ?_
          refine st0 3200 rfl (ok (pick_t h34 (.d (eB (y25.1 == y29.1))) _)) ?_
          refine st0 3264 rfl (ok (mv (.d (eB (y25.1 == y29.1))))) ?_
          rcases Bool.eq_false_or_eq_true ((y25.1 == y29.1)) with h35 | h35
          · replace h := ite_t h h35
            refine stG (isT h35) ?_
            obtain ⟨y36, h37, h⟩ := bind_inv h
            refine st0 3328 rfl (call_ok (v := .d (eB y36)) (u := []) ar_nil rfl (passkeylaw5awakeOK  y36 h37) rfl) ?_
            refine st0 3392 rfl (ok (pick_t h35 (.d (eB y36)) _)) ?_
            refine st0 3456 rfl (ok (mv (.d (eB y36)))) ?_
            refine hK32 _ _ ?_
            simp only [thenK, blockK, keepE, updM, List.filter_cons, List.filter_nil, List.nil_append, List.cons_append, List.map_cons, List.map_nil, envE, Mem.get, Nat.reduceEqDiff, reduceIte, Option.isNone_none, Option.isNone_some, Bool.false_eq_true, List.length_cons, List.length_nil, Nat.reduceAdd, Nat.reduceMul]
            refine hK31 _ _ _ ?_
            refine rwp_ret ?_
            obtain rfl := Option.some.inj h
            try simp only [thenK, blockK, reduceIte]
            exact end_ok trivial (rs_t (v := .d (eB y36)) rfl rs_nil) (en_d (to_d _) en_nil) ou_nil (by first | exact eok rfl rfl rfl rfl trivial | (refine eok ?_ ?_ ?_ ?_ ?_ <;> first | rfl | exact trivial | simp [retM, Mem.get, PV.renL, PV.ren, Blk.ren, comps, rhoR, rhoM, appN, PV.refsL, PV.refs, keys, nodupB, Blk.refs, allIn, Blk.bor]))
          · replace h := ite_f h h35
            refine stGN 3328 rfl rfl h35 ?_
            refine st0 3392 rfl (ok (pick_f h35 _ (.d (eB false)))) ?_
            refine st0 3456 rfl (ok (mv (.d (eB false)))) ?_
            refine hK32 _ _ ?_
            simp only [thenK, blockK, keepE, updM, List.filter_cons, List.filter_nil, List.nil_append, List.cons_append, List.map_cons, List.map_nil, envE, Mem.get, Nat.reduceEqDiff, reduceIte, Option.isNone_none, Option.isNone_some, Bool.false_eq_true, List.length_cons, List.length_nil, Nat.reduceAdd, Nat.reduceMul]
            refine hK31 _ _ _ ?_
            refine rwp_ret ?_
            obtain rfl := Option.some.inj h
            try simp only [thenK, blockK, reduceIte]
            exact end_ok trivial (rs_t (v := .d (eB false)) rfl rs_nil) (en_d (to_d _) en_nil) ou_nil (by first | exact eok rfl rfl rfl rfl trivial | (refine eok ?_ ?_ ?_ ?_ ?_ <;> first | rfl | exact trivial | simp [retM, Mem.get, PV.renL, PV.ren, Blk.ren, comps, rhoR, rhoM, appN, PV.refsL, PV.refs, keys, nodupB, Blk.refs, allIn, Blk.bor]))
        · replace h := ite_f h h34
          refine stGN 3008 rfl rfl h34 ?_
          refine stGN 3072 rfl rfl h34 ?_
          refine stGN 3136 rfl rfl h34 ?_
          refine st0 3200 rfl (ok (pick_f h34 _ (.d (eB false)))) ?_
          refine st0 3264 rfl (ok (mv (.d (eB false)))) ?_
          refine stGN 3328 rfl rfl rfl ?_
          refine st0 3392 rfl (ok (pick_f rfl _ (.d (eB false)))) ?_
          refine st0 3456 rfl (ok (mv (.d (eB false)))) ?_
          refine hK32 _ _ ?_
          simp only [thenK, blockK, keepE, updM, List.filter_cons, List.filter_nil, List.nil_append, List.cons_append, List.map_cons, List.map_nil, envE, Mem.get, Nat.reduceEqDiff, reduceIte, Option.isNone_none, Option.isNone_some, Bool.false_eq_true, List.length_cons, List.length_nil, Nat.reduceAdd, Nat.reduceMul]
          refine hK31 _ _ _ ?_
          refine rwp_ret ?_
          obtain rfl := Option.some.inj h
          try simp only [thenK, blockK, reduceIte]
          exact end_ok trivial (rs_t (v := .d (eB false)) rfl rs_nil) (en_d (to_d _) en_nil) ou_nil (by first | exact eok rfl rfl rfl rfl trivial | (refine eok ?_ ?_ ?_ ?_ ?_ <;> first | rfl | exact trivial | simp [retM, Mem.get, PV.renL, PV.ren, Blk.ren, comps, rhoR, rhoM, appN, PV.refsL, PV.refs, keys, nodupB, Blk.refs, allIn, Blk.bor]))
      · replace h := ite_f h h33
        refine stGN 2752 rfl rfl h33 ?_
        refine stGN 2816 rfl rfl h33 ?_
        refine st0 2880 rfl (ok (pick_f h33 _ (.d (eB false)))) ?_
        refine st0 2944 rfl (ok (mv (.d (eB false)))) ?_
        refine stGN 3008 rfl rfl rfl ?_
        refine stGN 3072 rfl rfl rfl ?_
        refine stGN 3136 rfl rfl rfl ?_
        refine st0 3200 rfl (ok (pick_f rfl _ (.d (eB false)))) ?_
        refine st0 3264 rfl (ok (mv (.d (eB false)))) ?_
        refine stGN 3328 rfl rfl rfl ?_
        refine st0 3392 rfl (ok (pick_f rfl _ (.d (eB false)))) ?_
        refine st0 3456 rfl (ok (mv (.d (eB false)))) ?_
        refine hK32 _ _ ?_
        simp only [thenK, blockK, keepE, updM, List.filter_cons, List.filter_nil, List.nil_append, List.cons_append, List.map_cons, List.map_nil, envE, Mem.get, Nat.reduceEqDiff, reduceIte, Option.isNone_none, Option.isNone_some, Bool.false_eq_true, List.length_cons, List.length_nil, Nat.reduceAdd, Nat.reduceMul]
        refine hK31 _ _ _ ?_
        refine rwp_ret ?_
        obtain rfl := Option.some.inj h
        try simp only [thenK, blockK, reduceIte]
        exact end_ok trivial (rs_t (v := .d (eB false)) rfl rs_nil) (en_d (to_d _) en_nil) ou_nil (by first | exact eok rfl rfl rfl rfl trivial | (refine eok ?_ ?_ ?_ ?_ ?_ <;> first | rfl | exact trivial | simp [retM, Mem.get, PV.renL, PV.ren, Blk.ren, comps, rhoR, rhoM, appN, PV.refsL, PV.refs, keys, nodupB, Blk.refs, allIn, Blk.bor]))
  · refine rwp_region fun K38 hK38 => ?_
    refine st0 576 rfl (ok (mv (.d (eU64 y5)))) ?_
    refine st0 640 rfl (ok (lss64 _ (2#64))) ?_
    refine st0 704 rfl (ok (mv (.d (eB (decide (y5.toNat < (2#64).toNat)))))) ?_
    rcases Bool.eq_false_or_eq_true ((decide (y5.toNat < (2#64).toNat))) with h39 | h39
    · replace h := ite_t h h39
      refine stGN 768 rfl rfl h39 ?_
      refine stGN 832 rfl rfl h39 ?_
      refine st0 896 rfl (ok (pick_t h39 (.d (eB true)) _)) ?_
      refine st0 960 rfl (ok (mv (.d (eB true)))) ?_
      refine stGN 1024 rfl rfl rfl ?_
      refine stGN 1088 rfl rfl rfl ?_
      refine st0 1152 rfl (ok (pick_t rfl (.d (eB true)) _)) ?_
      refine st0 1216 rfl (ok (mv (.d (eB true)))) ?_
      refine stGN 1280 rfl rfl rfl ?_
      refine stGN 1344 rfl rfl rfl ?_
      refine st0 1408 rfl (ok (pick_t rfl (.d (eB true)) _)) ?_
      refine hK38 _ _ ?_
      simp only [thenK, blockK, keepE, updM, List.filter_cons, List.filter_nil, List.nil_append, List.cons_append, List.map_cons, List.map_nil, envE, Mem.get, Nat.reduceEqDiff, reduceIte, Option.isNone_none, Option.isNone_some, Bool.false_eq_true, List.length_cons, List.length_nil, Nat.reduceAdd, Nat.reduceMul]
      exact hK11 _ _ _ ⟨_, _, Settled.refl, _, _, ⟨_, h, rfl, rfl⟩, ⟨rfl, ⟨⟨rfl, rfl⟩, ⟨⟨rfl, rfl⟩, ⟨⟨rfl, rfl⟩, ⟨⟨rfl, rfl⟩, ⟨⟨rfl, rfl⟩, trivial⟩⟩⟩⟩⟩, trivial⟩, rfl⟩
    · replace h := ite_f h h39
      refine stG (isF h39) ?_
      refine st0 768 rfl (ok (mv (.d (eU64 y5)))) ?_
      refine stG (isF h39) ?_
      refine st0 832 rfl (ok (gtr64 _ (2305843009213693949#64))) ?_
      refine st0 896 rfl (ok (pick_f h39 _ (.d (eB (decide ((2305843009213693949#64).toNat < y5.toNat)))))) ?_
      refine st0 960 rfl (ok (mv (.d (eB (decide ((2305843009213693949#64).toNat < y5.toNat)))))) ?_
      rcases Bool.eq_false_or_eq_true ((decide ((2305843009213693949#64).toNat < y5.toNat))) with h40 | h40
      · replace h := ite_t h h40
        refine stGN 1024 rfl rfl h40 ?_
        refine stGN 1088 rfl rfl h40 ?_
        refine st0 1152 rfl (ok (pick_t h40 (.d (eB true)) _)) ?_
        refine st0 1216 rfl (ok (mv (.d (eB true)))) ?_
        refine stGN 1280 rfl rfl rfl ?_
        refine stGN 1344 rfl rfl rfl ?_
        refine st0 1408 rfl (ok (pick_t rfl (.d (eB true)) _)) ?_
        refine hK38 _ _ ?_
        simp only [thenK, blockK, keepE, updM, List.filter_cons, List.filter_nil, List.nil_append, List.cons_append, List.map_cons, List.map_nil, envE, Mem.get, Nat.reduceEqDiff, reduceIte, Option.isNone_none, Option.isNone_some, Bool.false_eq_true, List.length_cons, List.length_nil, Nat.reduceAdd, Nat.reduceMul]
        exact hK11 _ _ _ ⟨_, _, Settled.refl, _, _, ⟨_, h, rfl, rfl⟩, ⟨rfl, ⟨⟨rfl, rfl⟩, ⟨⟨rfl, rfl⟩, ⟨⟨rfl, rfl⟩, ⟨⟨rfl, rfl⟩, ⟨⟨rfl, rfl⟩, trivial⟩⟩⟩⟩⟩, trivial⟩, rfl⟩
      · replace h := ite_f h h40
        refine stG (isF h40) ?_
        refine st0 1024 rfl (ok (mv (.d (eU64 y7)))) ?_
        refine stG (isF h40) ?_
        refine st0 1088 rfl (ok (lss64 _ (2#64))) ?_
        refine st0 1152 rfl (ok (pick_f h40 _ (.d (eB (decide (y7.toNat < (2#64).toNat)))))) ?_
        refine st0 1216 rfl (ok (mv (.d (eB (decide (y7.toNat < (2#64).toNat)))))) ?_
        rcases Bool.eq_false_or_eq_true ((decide (y7.toNat < (2#64).toNat))) with h41 | h41
        · replace h := ite_t h h41
          refine stGN 1280 rfl rfl h41 ?_
          refine stGN 1344 rfl rfl h41 ?_
          refine st0 1408 rfl (ok (pick_t h41 (.d (eB true)) _)) ?_
          refine hK38 _ _ ?_
          simp only [thenK, blockK, keepE, updM, List.filter_cons, List.filter_nil, List.nil_append, List.cons_append, List.map_cons, List.map_nil, envE, Mem.get, Nat.reduceEqDiff, reduceIte, Option.isNone_none, Option.isNone_some, Bool.false_eq_true, List.length_cons, List.length_nil, Nat.reduceAdd, Nat.reduceMul]
          exact hK11 _ _ _ ⟨_, _, Settled.refl, _, _, ⟨_, h, rfl, rfl⟩, ⟨rfl, ⟨⟨rfl, rfl⟩, ⟨⟨rfl, rfl⟩, ⟨⟨rfl, rfl⟩, ⟨⟨rfl, rfl⟩, ⟨⟨rfl, rfl⟩, trivial⟩⟩⟩⟩⟩, trivial⟩, rfl⟩
        · replace h := ite_f h h41
          refine stG (isF h41) ?_
          refine st0 1280 rfl (ok (mv (.d (eU64 y7)))) ?_
          refine stG (isF h41) ?_
          refine st0 1344 rfl (ok (gtr64 _ (2305843009213693949#64))) ?_
          refine st0 1408 rfl (ok (pick_f h41 _ (.d (eB (decide ((2305843009213693949#64).toNat < y7.toNat)))))) ?_
          refine hK38 _ _ ?_
          simp only [thenK, blockK, keepE, updM, List.filter_cons, List.filter_nil, List.nil_append, List.cons_append, List.map_cons, List.map_nil, envE, Mem.get, Nat.reduceEqDiff, reduceIte, Option.isNone_none, Option.isNone_some, Bool.false_eq_true, List.length_cons, List.length_nil, Nat.reduceAdd, Nat.reduceMul]
          exact hK11 _ _ _ ⟨_, _, Settled.refl, _, _, ⟨_, h, rfl, rfl⟩, ⟨rfl, ⟨⟨rfl, rfl⟩, ⟨⟨rfl, rfl⟩, ⟨⟨rfl, rfl⟩, ⟨⟨rfl, rfl⟩, ⟨⟨rfl, rfl⟩, trivial⟩⟩⟩⟩⟩, trivial⟩, rfl⟩

end Go.Proofs.Ty
