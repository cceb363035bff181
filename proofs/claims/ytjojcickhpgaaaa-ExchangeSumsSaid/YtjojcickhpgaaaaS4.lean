/- Each Go function comes to what its plain function says. PRINTED by a program of this session (ty.py). -/
import Derived.Test.YtjojcickhpgaaaaS3
set_option linter.unusedVariables false
set_option linter.unusedSimpArgs false
set_option maxHeartbeats 4000000
set_option maxRecDepth 10000
namespace Go.Proofs.Ty
open Go Go.RW Go.Proofs
/-- passkey/exchange.Shared -/
def exchangeSharedH : Hints := ⟨[(0, [0, 1]), (1, [0, 1, 11]), (2, [4, 5]), (3, [4, 5])], []⟩
def exchangeSharedRc : RCode :=
  .seq (.region false [⟨some 4, .mv, [.k (.d (.int .u64 0))], none, []⟩, ⟨some 5, .mv, [.k (.d (.int .i64 0))], none, []⟩] [0, 1]) (.seq (.seq (.region false [⟨some 6, .mv, [.t 1],
  none, []⟩, ⟨some 7, .bin .lss, [.t 6, .k (.d (.int .u64 2))], none, []⟩, ⟨some 8, .mv, [.t 7], none, []⟩, ⟨some 9, .mv, [.t 1], some (8, false), []⟩, ⟨some 10, .bin .gtr, [.t 9,
  .k (.d (.int .u64 2305843009213693949))], some (8, false), []⟩, ⟨some 11, .pick, [.t 8, .k (.d (.bool true)), .t 10], none, []⟩] [0, 1, 11]) (.cond (.t 11) (.seq (.region false
  [⟨some 4, .mv, [.k (.d (.int .u64 0))], none, []⟩, ⟨some 5, .mv, [.k (.d (.int .i64 9))], none, []⟩] [4, 5]) .ret) .skip)) (.seq (.region false [⟨some 12, .mv, [.t 1], none, []⟩,
  ⟨some 13, .mv, [.t 0], none, []⟩, ⟨some 14, .call 22 false, [.t 13], none, []⟩, ⟨some 15, .call 12 false, [.t 12, .t 14], none, []⟩, ⟨some 16, .bslice 1 false 1 [.d (.int .u64
  0)] [0], [.t 15], none, []⟩, ⟨some 17, .call 21 true, [.t 16], none, []⟩, ⟨some 18, .call 20 false, [.k (.d (.int .i64 12)), .t 17], none, []⟩, ⟨some 4, .mv, [.t 18], none, []⟩,
  ⟨some 5, .mv, [.k (.d (.int .i64 0))], none, []⟩] [4, 5]) .ret))
def exchangeSharedRr : List RR := [.t 4, .t 5]
theorem exchangeSharedC : compFn Try.prog 14 exchangeSharedH = some (exchangeSharedRc, exchangeSharedRr, 19) := by kernel_rfl
theorem exchangeSharedOK (a0 : BitVec 64) (a1 : BitVec 64) (res : (BitVec 64) × Int) (h : exchangeShared a0 a1 = some res) : CallOK Try.prog 14 [.d (eU64 a0), .d (eU64 a1)] [] (.tup [.d (eU64 res.1), .d (eI res.2)]) [] := by
  unfold exchangeShared at h
  refine callOK exchangeSharedC fm rfl ?_
  simp only [initE, initM, nbor, List.map_cons, List.map_nil, Nat.reduceAdd]
  unfold exchangeSharedRc
  refine rwp_seq fun K1 hK1 => ?_
  refine rwp_region fun K2 hK2 => ?_
  refine st0 128 rfl (ok (mv (.d (eU64 (0#64))))) ?_
  refine st0 192 rfl (ok (mv (.d (eI (0 : Int))))) ?_
  refine hK2 _ _ ?_
  simp only [thenK, blockK, keepE, updM, List.filter_cons, List.filter_nil, List.nil_append, List.cons_append, List.map_cons, List.map_nil, envE, Mem.get, Nat.reduceEqDiff, reduceIte, Option.isNone_none, Option.isNone_some, Bool.false_eq_true, List.length_cons, List.length_nil, Nat.reduceAdd, Nat.reduceMul]
  refine hK1 _ _ _ ?_
  refine rwp_seq fun K3 hK3 => ?_
  refine rwp_join ([], []) 640 (fun env mem => ∃ (v4 : Bool), exchangeSharedJ1 a0 a1 v4 = some res ∧ env = [(0, .d (eU64 a0)), (1, .d (eU64 a1)), (11, .d (eB v4))] ∧ mem = []) (fun _ _ hI => ?_) (fun K5 hK5 => ?_)
  · obtain ⟨v4, h, rfl, rfl⟩ := hI
    unfold exchangeSharedJ1 at h
    rcases Bool.eq_false_or_eq_true (v4) with h6 | h6
    · replace h := ite_t h h6
      refine rwp_t (isT h6) ?_
      refine rwp_seq fun K7 hK7 => ?_
      refine rwp_region fun K8 hK8 => ?_
      refine st0 704 rfl (ok (mv (.d (eU64 (0#64))))) ?_
      refine st0 768 rfl (ok (mv (.d (eI (9 : Int))))) ?_
      refine hK8 _ _ ?_
      simp only [thenK, blockK, keepE, updM, List.filter_cons, List.filter_nil, List.nil_append, List.cons_append, List.map_cons, List.map_nil, envE, Mem.get, Nat.reduceEqDiff, reduceIte, Option.isNone_none, Option.isNone_some, Bool.false_eq_true, List.length_cons, List.length_nil, Nat.reduceAdd, Nat.reduceMul]
      refine hK7 _ _ _ ?_
      refine rwp_ret ?_
      obtain rfl := Option.some.inj h
      try simp only [thenK, blockK, reduceIte]
      exact end_ok trivial (rs_t (v := .d (eU64 (0#64))) rfl (rs_t (v := .d (eI (9 : Int))) rfl rs_nil)) (en_d (to_d _) (en_d (to_d _) en_nil)) ou_nil (by first | exact eok rfl rfl rfl rfl trivial | (refine eok ?_ ?_ ?_ ?_ ?_ <;> first | rfl | exact trivial | simp [retM, Mem.get, PV.renL, PV.ren, Blk.ren, comps, rhoR, rhoM, appN, PV.refsL, PV.refs, keys, nodupB, Blk.refs, allIn, Blk.bor]))
    · replace h := ite_f h h6
      refine rwp_f (isF h6) ?_
      refine rwp_skip ?_
      refine hK3 _ _ _ ?_
      refine rwp_seq fun K9 hK9 => ?_
      refine rwp_region fun K10 hK10 => ?_
      refine st0 704 rfl (ok (mv (.d (eU64 a1)))) ?_
      refine st0 768 rfl (ok (mv (.d (eU64 a0)))) ?_
      obtain ⟨y11, h12, h⟩ := bind_inv h
      refine st0 832 rfl (call_ok (v := .d (eU64 y11)) (u := []) (ar_d (eU64 a0) ar_nil) rfl (exchangeexponentOK a0 y11 h12) rfl) ?_
      obtain ⟨y13, h14, h⟩ := bind_inv h
      refine st0 896 rfl (call_ok (v := .d (eU64 y13)) (u := []) (ar_d (eU64 a1) (ar_d (eU64 y11) ar_nil)) rfl (exchangePowerOK a1 y11 y13 h14) rfl) ?_
      refine st1 960 rfl (mem' := [(896, .row true 1 (([y13] : List (BitVec 64)).map eU64))]) (ok (bsl (e := eU64) (ys := ([y13] : List (BitVec 64))) rfl rfl rfl)) rfl ?_
      obtain ⟨y15, h16, h⟩ := bind_inv h
      refine st1 1024 rfl (mem' := [(960, .row true 1 (y15.map eU8)), (896, .row false 1 (([y13] : List (BitVec 64)).map eU64))]) (call_ok (v := .ref 960 y15.length 0 y15.length) (u := [(960, .row true 1 (y15.map eU8)), (896, .row false 1 (([y13] : List (BitVec 64)).map eU64))]) (ar_to rfl (to_1 rfl (ds_r (ys := ([y13] : List (BitVec 64))) rfl rfl rfl ds_nil)) ar_nil) rfl (digestWordsOK ([y13] : List (BitVec 64)) y15 h16) rfl) rfl ?_
      obtain ⟨y17, h18, h⟩ := bind_inv h
      refine st0 1088 rfl (call_ok (v := .d (eU64 y17)) (u := []) (ar_d (eI (12 : Int)) (ar_to rfl (to_1 rfl (ds_r (ys := y15) rfl rfl rfl ds_nil)) ar_nil)) rfl (digestHashOK (12 : Int) y15 y17 h18) rfl) ?_
      refine st0 1152 rfl (ok (mv (.d (eU64 y17)))) ?_
      refine st0 1216 rfl (ok (mv (.d (eI (0 : Int))))) ?_
      refine hK10 _ _ ?_
      simp only [thenK, blockK, keepE, updM, List.filter_cons, List.filter_nil, List.nil_append, List.cons_append, List.map_cons, List.map_nil, envE, Mem.get, Nat.reduceEqDiff, reduceIte, Option.isNone_none, Option.isNone_some, Bool.false_eq_true, List.length_cons, List.length_nil, Nat.reduceAdd, Nat.reduceMul]
      refine hK9 _ _ _ ?_
      refine rwp_ret ?_
      obtain rfl := Option.some.inj h
      try simp only [thenK, blockK, reduceIte]
      exact end_ok trivial (rs_t (v := .d (eU64 y17)) rfl (rs_t (v := .d (eI (0 : Int))) rfl rs_nil)) (en_d (to_d _) (en_d (to_d _) en_nil)) ou_nil (by first | exact eok rfl rfl rfl rfl trivial | (refine eok ?_ ?_ ?_ ?_ ?_ <;> first | rfl | exact trivial | simp [retM, Mem.get, PV.renL, PV.ren, Blk.ren, comps, rhoR, rhoM, appN, PV.refsL, PV.refs, keys, nodupB, Blk.refs, allIn, Blk.bor]))
  · refine rwp_region fun K19 hK19 => ?_
    refine st0 256 rfl (ok (mv (.d (eU64 a1)))) ?_
    refine st0 320 rfl (ok (lss64 _ (2#64))) ?_
    refine st0 384 rfl (ok (mv (.d (eB (decide (a1.toNat < (2#64).toNat)))))) ?_
    rcases Bool.eq_false_or_eq_true ((decide (a1.toNat < (2#64).toNat))) with h20 | h20
    · replace h := ite_t h h20
      refine stGN 448 rfl rfl h20 ?_
      refine stGN 512 rfl rfl h20 ?_
      refine st0 576 rfl (ok (pick_t h20 (.d (eB true)) _)) ?_
      refine hK19 _ _ ?_
      simp only [thenK, blockK, keepE, updM, List.filter_cons, List.filter_nil, List.nil_append, List.cons_append, List.map_cons, List.map_nil, envE, Mem.get, Nat.reduceEqDiff, reduceIte, Option.isNone_none, Option.isNone_some, Bool.false_eq_true, List.length_cons, List.length_nil, Nat.reduceAdd, Nat.reduceMul]
      exact hK5 _ _ _ ⟨_, _, Settled.refl, _, _, ⟨_, h, rfl, rfl⟩, ⟨rfl, ⟨⟨rfl, rfl⟩, ⟨⟨rfl, rfl⟩, ⟨⟨rfl, rfl⟩, trivial⟩⟩⟩, trivial⟩, rfl⟩
    · replace h := ite_f h h20
      refine stG (isF h20) ?_
      refine st0 448 rfl (ok (mv (.d (eU64 a1)))) ?_
      refine stG (isF h20) ?_
      refine st0 512 rfl (ok (gtr64 _ (2305843009213693949#64))) ?_
      refine st0 576 rfl (ok (pick_f h20 _ (.d (eB (decide ((2305843009213693949#64).toNat < a1.toNat)))))) ?_
      refine hK19 _ _ ?_
      simp only [thenK, blockK, keepE, updM, List.filter_cons, List.filter_nil, List.nil_append, List.cons_append, List.map_cons, List.map_nil, envE, Mem.get, Nat.reduceEqDiff, reduceIte, Option.isNone_none, Option.isNone_some, Bool.false_eq_true, List.length_cons, List.length_nil, Nat.reduceAdd, Nat.reduceMul]
      exact hK5 _ _ _ ⟨_, _, Settled.refl, _, _, ⟨_, h, rfl, rfl⟩, ⟨rfl, ⟨⟨rfl, rfl⟩, ⟨⟨rfl, rfl⟩, ⟨⟨rfl, rfl⟩, trivial⟩⟩⟩, trivial⟩, rfl⟩

/-- passkey/passkeylaw5.awake -/
def passkeylaw5awakeH : Hints := ⟨[(0, []), (1, [2]), (2, [0])], []⟩
def passkeylaw5awakeRc : RCode :=
  .seq (.region false [⟨some 0, .mv, [.k (.d (.bool false))], none, []⟩] []) (.seq (.region false [⟨some 4, .call 14 false, [.k (.d (.int .u64 5)), .k (.d (.int .u64 1))], none, []⟩,
  ⟨some 3, .mv, [.t 4], none, []⟩, ⟨some 5, .ext 0, [.t 3], none, []⟩, ⟨some 6, .ext 1, [.t 3], none, []⟩, ⟨some 1, .mv, [.t 5], none, []⟩, ⟨some 2, .mv, [.t 6], none, []⟩] [2])
  (.seq (.region false [⟨some 7, .call 9 false, [.k (.d (.int .u64 1152921504606846976)), .k (.d (.int .u64 2))], none, []⟩, ⟨some 8, .bin .eql, [.t 7, .k (.d (.int .u64 1))],
  none, []⟩, ⟨some 9, .mv, [.t 8], none, []⟩, ⟨some 10, .call 12 false, [.k (.d (.int .u64 37)), .k (.d (.int .u64 1))], some (9, true), []⟩, ⟨some 11, .bin .eql, [.t 10, .k (.d
  (.int .u64 37))], some (9, true), []⟩, ⟨some 12, .pick, [.t 9, .t 11, .k (.d (.bool false))], none, []⟩, ⟨some 13, .mv, [.t 12], none, []⟩, ⟨some 14, .mv, [.t 2], some (13,
  true), []⟩, ⟨some 15, .bin .eql, [.t 14, .k (.d (.int .i64 9))], some (13, true), []⟩, ⟨some 16, .pick, [.t 13, .t 15, .k (.d (.bool false))], none, []⟩, ⟨some 17, .mv, [.t 16],
  none, []⟩, ⟨some 18, .call 12 false, [.k (.d (.int .u64 2)), .k (.d (.int .u64 61))], some (17, true), []⟩, ⟨some 19, .bin .eql, [.t 18, .k (.d (.int .u64 1))], some (17, true),
  []⟩, ⟨some 20, .pick, [.t 17, .t 19, .k (.d (.bool false))], none, []⟩, ⟨some 0, .mv, [.t 20], none, []⟩] [0]) .ret))
def passkeylaw5awakeRr : List RR := [.t 0]
theorem passkeylaw5awakeC : compFn Try.prog 11 passkeylaw5awakeH = some (passkeylaw5awakeRc, passkeylaw5awakeRr, 21) := by kernel_rfl
theorem passkeylaw5awakeOK  (res : Bool) (h : passkeylaw5awake  = some res) : CallOK Try.prog 11 [] [] (.d (eB res)) [] := by
  unfold passkeylaw5awake at h
  refine callOK passkeylaw5awakeC fm rfl ?_
  simp only [initE, initM, nbor, List.map_cons, List.map_nil, Nat.reduceAdd]
  unfold passkeylaw5awakeRc
  refine rwp_seq fun K1 hK1 => ?_
  refine rwp_region fun K2 hK2 => ?_
  refine st0 128 rfl (ok (mv (.d (eB false)))) ?_
  refine hK2 _ _ ?_
  simp only [thenK, blockK, keepE, updM, List.filter_cons, List.filter_nil, List.nil_append, List.cons_append, List.map_cons, List.map_nil, envE, Mem.get, Nat.reduceEqDiff, reduceIte, Option.isNone_none, Option.isNone_some, Bool.false_eq_true, List.length_cons, List.length_nil, Nat.reduceAdd, Nat.reduceMul]
  refine hK1 _ _ _ ?_
  refine rwp_seq fun K3 hK3 => ?_
  refine rwp_region fun K4 hK4 => ?_
  obtain ⟨y5, h6, h⟩ := bind_inv h
  refine st0 192 rfl (call_ok (v := .tup [.d (eU64 y5.1), .d (eI y5.2)]) (u := []) (ar_d (eU64 (5#64)) (ar_d (eU64 (1#64)) ar_nil)) rfl (exchangeSharedOK (5#64) (1#64) y5 h6) rfl) ?_
  refine st0 256 rfl (ok (mv (.tup [.d (eU64 y5.1), .d (eI y5.2)]))) ?_
  refine st0 320 rfl (ok (extr (v := .d (eU64 y5.1)) rfl rfl)) ?_
  refine st0 384 rfl (ok (extr (v := .d (eI y5.2)) rfl rfl)) ?_
  refine st0 448 rfl (ok (mv (.d (eU64 y5.1)))) ?_
  refine st0 512 rfl (ok (mv (.d (eI y5.2)))) ?_
  refine hK4 _ _ ?_
  simp only [thenK, blockK, keepE, updM, List.filter_cons, List.filter_nil, List.nil_append, List.cons_append, List.map_cons, List.map_nil, envE, Mem.get, Nat.reduceEqDiff, reduceIte, Option.isNone_none, Option.isNone_some, Bool.false_eq_true, List.length_cons, List.length_nil, Nat.reduceAdd, Nat.reduceMul]
  refine hK3 _ _ _ ?_
  refine rwp_seq fun K7 hK7 => ?_
  refine rwp_region fun K8 hK8 => ?_
  obtain ⟨y9, h10, h⟩ := bind_inv h
  refine st0 576 rfl (call_ok (v := .d (eU64 y9)) (u := []) (ar_d (eU64 (1152921504606846976#64)) (ar_d (eU64 (2#64)) ar_nil)) rfl (exchangeMulOK (1152921504606846976#64) (2#64) y9 h10) rfl) ?_
  refine st0 640 rfl (ok (eql64 _ (1#64))) ?_
  refine st0 704 rfl (ok (mv (.d (eB (y9 == (1#64)))))) ?_
  rcases Bool.eq_false_or_eq_true ((y9 == (1#64))) with h11 | h11
  · replace h := ite_t h h11
    refine stG (isT h11) ?_
    obtain ⟨y12, h13, h⟩ := bind_inv h
    refine st0 768 rfl (call_ok (v := .d (eU64 y12)) (u := []) (ar_d (eU64 (37#64)) (ar_d (eU64 (1#64)) ar_nil)) rfl (exchangePowerOK (37#64) (1#64) y12 h13) rfl) ?_
    refine stG (isT h11) ?_
    refine st0 832 rfl (ok (eql64 _ (37#64))) ?_
    refine st0 896 rfl (ok (pick_t h11 (.d (eB (y12 == (37#64)))) _)) ?_
    refine st0 960 rfl (ok (mv (.d (eB (y12 == (37#64)))))) ?_
    rcases Bool.eq_false_or_eq_true ((y12 == (37#64))) with h14 | h14
    · replace h := ite_t h h14
      refine stG (isT h14) ?_
      refine st0 1024 rfl (ok (mv (.d (eI y5.2)))) ?_
      refine stG (isT h14) ?_
      refine st0 1088 rfl (ok (eqlI _ (9 : Int))) ?_
      refine st0 1152 rfl (ok (pick_t h14 (.d (eB (y5.2 == (9 : Int)))) _)) ?_
      refine st0 1216 rfl (ok (mv (.d (eB (y5.2 == (9 : Int)))))) ?_
      rcases Bool.eq_false_or_eq_true ((y5.2 == (9 : Int))) with h15 | h15
      · replace h := ite_t h h15
        refine stG (isT h15) ?_
        obtain ⟨y16, h17, h⟩ := bind_inv h
        refine st0 1280 rfl (call_ok (v := .d (eU64 y16)) (u := []) (ar_d (eU64 (2#64)) (ar_d (eU64 (61#64)) ar_nil)) rfl (exchangePowerOK (2#64) (61#64) y16 h17) rfl) ?_
        refine stG (isT h15) ?_
        refine st0 1344 rfl (ok (eql64 _ (1#64))) ?_
        refine st0 1408 rfl (ok (pick_t h15 (.d (eB (y16 == (1#64)))) _)) ?_
        refine st0 1472 rfl (ok (mv (.d (eB (y16 == (1#64)))))) ?_
        refine hK8 _ _ ?_
        simp only [thenK, blockK, keepE, updM, List.filter_cons, List.filter_nil, List.nil_append, List.cons_append, List.map_cons, List.map_nil, envE, Mem.get, Nat.reduceEqDiff, reduceIte, Option.isNone_none, Option.isNone_some, Bool.false_eq_true, List.length_cons, List.length_nil, Nat.reduceAdd, Nat.reduceMul]
        refine hK7 _ _ _ ?_
        refine rwp_ret ?_
        obtain rfl := Option.some.inj h
        try simp only [thenK, blockK, reduceIte]
        exact end_ok trivial (rs_t (v := .d (eB (y16 == (1#64)))) rfl rs_nil) (en_d (to_d _) en_nil) ou_nil (by first | exact eok rfl rfl rfl rfl trivial | (refine eok ?_ ?_ ?_ ?_ ?_ <;> first | rfl | exact trivial | simp [retM, Mem.get, PV.renL, PV.ren, Blk.ren, comps, rhoR, rhoM, appN, PV.refsL, PV.refs, keys, nodupB, Blk.refs, allIn, Blk.bor]))
      · replace h := ite_f h h15
        refine stGN 1280 rfl rfl h15 ?_
        refine stGN 1344 rfl rfl h15 ?_
        refine st0 1408 rfl (ok (pick_f h15 _ (.d (eB false)))) ?_
        refine st0 1472 rfl (ok (mv (.d (eB false)))) ?_
        refine hK8 _ _ ?_
        simp only [thenK, blockK, keepE, updM, List.filter_cons, List.filter_nil, List.nil_append, List.cons_append, List.map_cons, List.map_nil, envE, Mem.get, Nat.reduceEqDiff, reduceIte, Option.isNone_none, Option.isNone_some, Bool.false_eq_true, List.length_cons, List.length_nil, Nat.reduceAdd, Nat.reduceMul]
        refine hK7 _ _ _ ?_
        refine rwp_ret ?_
        obtain rfl := Option.some.inj h
        try simp only [thenK, blockK, reduceIte]
        exact end_ok trivial (rs_t (v := .d (eB false)) rfl rs_nil) (en_d (to_d _) en_nil) ou_nil (by first | exact eok rfl rfl rfl rfl trivial | (refine eok ?_ ?_ ?_ ?_ ?_ <;> first | rfl | exact trivial | simp [retM, Mem.get, PV.renL, PV.ren, Blk.ren, comps, rhoR, rhoM, appN, PV.refsL, PV.refs, keys, nodupB, Blk.refs, allIn, Blk.bor]))
    · replace h := ite_f h h14
      refine stGN 1024 rfl rfl h14 ?_
      refine stGN 1088 rfl rfl h14 ?_
      refine st0 1152 rfl (ok (pick_f h14 _ (.d (eB false)))) ?_
      refine st0 1216 rfl (ok (mv (.d (eB false)))) ?_
      refine stGN 1280 rfl rfl rfl ?_
      refine stGN 1344 rfl rfl rfl ?_
      refine st0 1408 rfl (ok (pick_f rfl _ (.d (eB false)))) ?_
      refine st0 1472 rfl (ok (mv (.d (eB false)))) ?_
      refine hK8 _ _ ?_
      simp only [thenK, blockK, keepE, updM, List.filter_cons, List.filter_nil, List.nil_append, List.cons_append, List.map_cons, List.map_nil, envE, Mem.get, Nat.reduceEqDiff, reduceIte, Option.isNone_none, Option.isNone_some, Bool.false_eq_true, List.length_cons, List.length_nil, Nat.reduceAdd, Nat.reduceMul]
      refine hK7 _ _ _ ?_
      refine rwp_ret ?_
      obtain rfl := Option.some.inj h
      try simp only [thenK, blockK, reduceIte]
      exact end_ok trivial (rs_t (v := .d (eB false)) rfl rs_nil) (en_d (to_d _) en_nil) ou_nil (by first | exact eok rfl rfl rfl rfl trivial | (refine eok ?_ ?_ ?_ ?_ ?_ <;> first | rfl | exact trivial | simp [retM, Mem.get, PV.renL, PV.ren, Blk.ren, comps, rhoR, rhoM, appN, PV.refsL, PV.refs, keys, nodupB, Blk.refs, allIn, Blk.bor]))
  · replace h := ite_f h h11
    refine stGN 768 rfl rfl h11 ?_
    refine stGN 832 rfl rfl h11 ?_
    refine st0 896 rfl (ok (pick_f h11 _ (.d (eB false)))) ?_
    refine st0 960 rfl (ok (mv (.d (eB false)))) ?_
    refine stGN 1024 rfl rfl rfl ?_
    refine stGN 1088 rfl rfl rfl ?_
    refine st0 1152 rfl (ok (pick_f rfl _ (.d (eB false)))) ?_
    refine st0 1216 rfl (ok (mv (.d (eB false)))) ?_
    refine stGN 1280 rfl rfl rfl ?_
    refine stGN 1344 rfl rfl rfl ?_
    refine st0 1408 rfl (ok (pick_f rfl _ (.d (eB false)))) ?_
    refine st0 1472 rfl (ok (mv (.d (eB false)))) ?_
    refine hK8 _ _ ?_
    simp only [thenK, blockK, keepE, updM, List.filter_cons, List.filter_nil, List.nil_append, List.cons_append, List.map_cons, List.map_nil, envE, Mem.get, Nat.reduceEqDiff, reduceIte, Option.isNone_none, Option.isNone_some, Bool.false_eq_true, List.length_cons, List.length_nil, Nat.reduceAdd, Nat.reduceMul]
    refine hK7 _ _ _ ?_
    refine rwp_ret ?_
    obtain rfl := Option.some.inj h
    try simp only [thenK, blockK, reduceIte]
    exact end_ok trivial (rs_t (v := .d (eB false)) rfl rs_nil) (en_d (to_d _) en_nil) ou_nil (by first | exact eok rfl rfl rfl rfl trivial | (refine eok ?_ ?_ ?_ ?_ ?_ <;> first | rfl | exact trivial | simp [retM, Mem.get, PV.renL, PV.ren, Blk.ren, comps, rhoR, rhoM, appN, PV.refsL, PV.refs, keys, nodupB, Blk.refs, allIn, Blk.bor]))

/-- passkey/passkeylaw5.ExchangeMul -/
def passkeylaw5ExchangeMulH : Hints := ⟨[(0, [0, 1, 2]), (1, [0, 1, 7]), (2, [6])], []⟩
def passkeylaw5ExchangeMulRc : RCode :=
  .seq (.region false [⟨some 6, .mv, [.k (.d (.bool false))], none, []⟩] [0, 1, 2]) (.seq (.region false [⟨some 8, .bslice 1 false 6 [.d (.int .u64 0)] [0, 1, 2, 3, 4, 5], [.k (.d
  (.int .u64 0)), .k (.d (.int .u64 1)), .k (.d (.int .u64 2305843009213693950)), .k (.d (.int .u64 2305843009213693951)), .k (.d (.int .u64 2305843009213693952)), .k (.d (.int
  .u64 18446744073709551615))], none, []⟩, ⟨some 9, .mv, [.t 2], none, []⟩, ⟨some 10, .bin .rem, [.t 9, .k (.d (.int .u8 6))], none, []⟩, ⟨some 11, .ia 1, [.t 8, .t 10], none, []⟩,
  ⟨some 12, .load 1 false, [.t 11], none, []⟩, ⟨some 7, .mv, [.t 12], none, []⟩] [0, 1, 7]) (.seq (.region false [⟨some 13, .mv, [.t 0], none, []⟩, ⟨some 14, .mv, [.t 1], none,
  []⟩, ⟨some 15, .call 9 false, [.t 13, .t 14], none, []⟩, ⟨some 16, .mv, [.t 0], none, []⟩, ⟨some 17, .mv, [.t 1], none, []⟩, ⟨some 18, .call 10 false, [.t 16, .t 17], none, []⟩,
  ⟨some 19, .bin .eql, [.t 15, .t 18], none, []⟩, ⟨some 20, .mv, [.t 19], none, []⟩, ⟨some 21, .mv, [.t 0], some (20, true), []⟩, ⟨some 22, .mv, [.t 7], some (20, true), []⟩, ⟨some
  23, .call 9 false, [.t 21, .t 22], some (20, true), []⟩, ⟨some 24, .mv, [.t 0], some (20, true), []⟩, ⟨some 25, .mv, [.t 7], some (20, true), []⟩, ⟨some 26, .call 10 false, [.t
  24, .t 25], some (20, true), []⟩, ⟨some 27, .bin .eql, [.t 23, .t 26], some (20, true), []⟩, ⟨some 28, .pick, [.t 20, .t 27, .k (.d (.bool false))], none, []⟩, ⟨some 29, .mv, [.t
  28], none, []⟩, ⟨some 30, .mv, [.t 7], some (29, true), []⟩, ⟨some 31, .mv, [.t 7], some (29, true), []⟩, ⟨some 32, .call 9 false, [.t 30, .t 31], some (29, true), []⟩, ⟨some 33,
  .mv, [.t 7], some (29, true), []⟩, ⟨some 34, .mv, [.t 7], some (29, true), []⟩, ⟨some 35, .call 10 false, [.t 33, .t 34], some (29, true), []⟩, ⟨some 36, .bin .eql, [.t 32, .t
  35], some (29, true), []⟩, ⟨some 37, .pick, [.t 29, .t 36, .k (.d (.bool false))], none, []⟩, ⟨some 38, .mv, [.t 37], none, []⟩, ⟨some 39, .call 11 false, [], some (38, true),
  []⟩, ⟨some 40, .pick, [.t 38, .t 39, .k (.d (.bool false))], none, []⟩, ⟨some 6, .mv, [.t 40], none, []⟩] [6]) .ret))
def passkeylaw5ExchangeMulRr : List RR := [.t 6]
theorem passkeylaw5ExchangeMulC : compFn Try.prog 3 passkeylaw5ExchangeMulH = some (passkeylaw5ExchangeMulRc, passkeylaw5ExchangeMulRr, 41) := by kernel_rfl
theorem passkeylaw5ExchangeMulOK (a0 : BitVec 64) (a1 : BitVec 64) (a2 : BitVec 8) (res : Bool) (h : passkeylaw5ExchangeMul a0 a1 a2 = some res) : CallOK Try.prog 3 [.d (eU64 a0), .d (eU64 a1), .d (eU8 a2)] [] (.d (eB res)) [] := by
  unfold passkeylaw5ExchangeMul at h
  refine callOK passkeylaw5ExchangeMulC fm rfl ?_
  simp only [initE, initM, nbor, List.map_cons, List.map_nil, Nat.reduceAdd]
  unfold passkeylaw5ExchangeMulRc
  refine rwp_seq fun K1 hK1 => ?_
  refine rwp_region fun K2 hK2 => ?_
  refine st0 128 rfl (ok (mv (.d (eB false)))) ?_
  refine hK2 _ _ ?_
  simp only [thenK, blockK, keepE, updM, List.filter_cons, List.filter_nil, List.nil_append, List.cons_append, List.map_cons, List.map_nil, envE, Mem.get, Nat.reduceEqDiff, reduceIte, Option.isNone_none, Option.isNone_some, Bool.false_eq_true, List.length_cons, List.length_nil, Nat.reduceAdd, Nat.reduceMul]
  refine hK1 _ _ _ ?_
  refine rwp_seq fun K3 hK3 => ?_
  refine rwp_region fun K4 hK4 => ?_
  refine st1 192 rfl (mem' := [(128, .row true 1 (([(0#64), (1#64), (2305843009213693950#64), (2305843009213693951#64), (2305843009213693952#64), (18446744073709551615#64)] : List (BitVec 64)).map eU64))]) (ok (bsl (e := eU64) (ys := ([(0#64), (1#64), (2305843009213693950#64), (2305843009213693951#64), (2305843009213693952#64), (18446744073709551615#64)] : List (BitVec 64))) rfl rfl rfl)) rfl ?_
  refine st0 256 rfl (ok (mv (.d (eU8 a2)))) ?_
  refine st0 320 rfl (ok (rem8 _ (6#8) (by decide))) ?_
  obtain ⟨h5, h⟩ := asq_inv h
  refine st0 384 rfl (ok (iaR (xs := ([(0#64), (1#64), (2305843009213693950#64), (2305843009213693951#64), (2305843009213693952#64), (18446744073709551615#64)] : List (BitVec 64))) (e := eU64) rfl rfl h5)) ?_
  refine st0 448 rfl (ok (ld_r (e := eU64) (xs := ([(0#64), (1#64), (2305843009213693950#64), (2305843009213693951#64), (2305843009213693952#64), (18446744073709551615#64)] : List (BitVec 64))) 0#64 rfl rfl (by have := h5; simp at this ⊢; omega) rfl)) ?_
  refine st0 512 rfl (ok (mv (.d (eU64 (([(0#64), (1#64), (2305843009213693950#64), (2305843009213693951#64), (2305843009213693952#64), (18446744073709551615#64)] : List (BitVec 64)).getD (0 + ((a2 % (6#8)).toNat : Int).toNat) 0#64))))) ?_
  refine hK4 _ _ ?_
  simp only [thenK, blockK, keepE, updM, List.filter_cons, List.filter_nil, List.nil_append, List.cons_append, List.map_cons, List.map_nil, envE, Mem.get, Nat.reduceEqDiff, reduceIte, Option.isNone_none, Option.isNone_some, Bool.false_eq_true, List.length_cons, List.length_nil, Nat.reduceAdd, Nat.reduceMul]
  refine hK3 _ _ _ ?_
  refine rwp_seq fun K6 hK6 => ?_
  refine rwp_region fun K7 hK7 => ?_
  refine st0 576 rfl (ok (mv (.d (eU64 a0)))) ?_
  refine st0 640 rfl (ok (mv (.d (eU64 a1)))) ?_
  obtain ⟨y8, h9, h⟩ := bind_inv h
  refine st0 704 rfl (call_ok (v := .d (eU64 y8)) (u := []) (ar_d (eU64 a0) (ar_d (eU64 a1) ar_nil)) rfl (exchangeMulOK a0 a1 y8 h9) rfl) ?_
  refine st0 768 rfl (ok (mv (.d (eU64 a0)))) ?_
  refine st0 832 rfl (ok (mv (.d (eU64 a1)))) ?_
  obtain ⟨y10, h11, h⟩ := bind_inv h
  refine st0 896 rfl (call_ok (v := .d (eU64 y10)) (u := []) (ar_d (eU64 a0) (ar_d (eU64 a1) ar_nil)) rfl (passkeyref3MulOK a0 a1 y10 h11) rfl) ?_
  refine st0 960 rfl (ok (eql64 _ _)) ?_
  refine st0 1024 rfl (ok (mv (.d (eB (y8 == y10))))) ?_
  rcases Bool.eq_false_or_eq_true ((y8 == y10)) with h12 | h12
  · replace h := ite_t h h12
    refine stG (isT h12) ?_
    refine st0 1088 rfl (ok (mv (.d (eU64 a0)))) ?_
    refine stG (isT h12) ?_
    refine st0 1152 rfl (ok (mv (.d (eU64 (([(0#64), (1#64), (2305843009213693950#64), (2305843009213693951#64), (2305843009213693952#64), (18446744073709551615#64)] : List (BitVec 64)).getD (0 + ((a2 % (6#8)).toNat : Int).toNat) 0#64))))) ?_
    refine stG (isT h12) ?_
    obtain ⟨y13, h14, h⟩ := bind_inv h
    refine st0 1216 rfl (call_ok (v := .d (eU64 y13)) (u := []) (ar_d (eU64 a0) (ar_d (eU64 (([(0#64), (1#64), (2305843009213693950#64), (2305843009213693951#64), (2305843009213693952#64), (18446744073709551615#64)] : List (BitVec 64)).getD (0 + ((a2 % (6#8)).toNat : Int).toNat) 0#64)) ar_nil)) rfl (exchangeMulOK a0 (([(0#64), (1#64), (2305843009213693950#64), (2305843009213693951#64), (2305843009213693952#64), (18446744073709551615#64)] : List (BitVec 64)).getD (0 + ((a2 % (6#8)).toNat : Int).toNat) 0#64) y13 h14) rfl) ?_
    refine stG (isT h12) ?_
    refine st0 1280 rfl (ok (mv (.d (eU64 a0)))) ?_
    refine stG (isT h12) ?_
    refine st0 1344 rfl (ok (mv (.d (eU64 (([(0#64), (1#64), (2305843009213693950#64), (2305843009213693951#64), (2305843009213693952#64), (18446744073709551615#64)] : List (BitVec 64)).getD (0 + ((a2 % (6#8)).toNat : Int).toNat) 0#64))))) ?_
    refine stG (isT h12) ?_
    obtain ⟨y15, h16, h⟩ := bind_inv h
    refine st0 1408 rfl (call_ok (v := .d (eU64 y15)) (u := []) (ar_d (eU64 a0) (ar_d (eU64 (([(0#64), (1#64), (2305843009213693950#64), (2305843009213693951#64), (2305843009213693952#64), (18446744073709551615#64)] : List (BitVec 64)).getD (0 + ((a2 % (6#8)).toNat : Int).toNat) 0#64)) ar_nil)) rfl (passkeyref3MulOK a0 (([(0#64), (1#64), (2305843009213693950#64), (2305843009213693951#64), (2305843009213693952#64), (18446744073709551615#64)] : List (BitVec 64)).getD (0 + ((a2 % (6#8)).toNat : Int).toNat) 0#64) y15 h16) rfl) ?_
    refine stG (isT h12) ?_
    refine st0 1472 rfl (ok (eql64 _ _)) ?_
    refine st0 1536 rfl (ok (pick_t h12 (.d (eB (y13 == y15))) _)) ?_
    refine st0 1600 rfl (ok (mv (.d (eB (y13 == y15))))) ?_
    rcases Bool.eq_false_or_eq_true ((y13 == y15)) with h17 | h17
    · replace h := ite_t h h17
      refine stG (isT h17) ?_
      refine st0 1664 rfl (ok (mv (.d (eU64 (([(0#64), (1#64), (2305843009213693950#64), (2305843009213693951#64), (2305843009213693952#64), (18446744073709551615#64)] : List (BitVec 64)).getD (0 + ((a2 % (6#8)).toNat : Int).toNat) 0#64))))) ?_
      refine stG (isT h17) ?_
      refine st0 1728 rfl (ok (mv (.d (eU64 (([(0#64), (1#64), (2305843009213693950#64), (2305843009213693951#64), (2305843009213693952#64), (18446744073709551615#64)] : List (BitVec 64)).getD (0 + ((a2 % (6#8)).toNat : Int).toNat) 0#64))))) ?_
      refine stG (isT h17) ?_
      obtain ⟨y18, h19, h⟩ := bind_inv h
      refine st0 1792 rfl (call_ok (v := .d (eU64 y18)) (u := []) (ar_d (eU64 (([(0#64), (1#64), (2305843009213693950#64), (2305843009213693951#64), (2305843009213693952#64), (18446744073709551615#64)] : List (BitVec 64)).getD (0 + ((a2 % (6#8)).toNat : Int).toNat) 0#64)) (ar_d (eU64 (([(0#64), (1#64), (2305843009213693950#64), (2305843009213693951#64), (2305843009213693952#64), (18446744073709551615#64)] : List (BitVec 64)).getD (0 + ((a2 % (6#8)).toNat : Int).toNat) 0#64)) ar_nil)) rfl (exchangeMulOK (([(0#64), (1#64), (2305843009213693950#64), (2305843009213693951#64), (2305843009213693952#64), (18446744073709551615#64)] : List (BitVec 64)).getD (0 + ((a2 % (6#8)).toNat : Int).toNat) 0#64) (([(0#64), (1#64), (2305843009213693950#64), (2305843009213693951#64), (2305843009213693952#64), (18446744073709551615#64)] : List (BitVec 64)).getD (0 + ((a2 % (6#8)).toNat : Int).toNat) 0#64) y18 h19) rfl) ?_
      refine stG (isT h17) ?_
      refine st0 1856 rfl (ok (mv (.d (eU64 (([(0#64), (1#64), (2305843009213693950#64), (2305843009213693951#64), (2305843009213693952#64), (18446744073709551615#64)] : List (BitVec 64)).getD (0 + ((a2 % (6#8)).toNat : Int).toNat) 0#64))))) ?_
      refine stG (isT h17) ?_
      refine st0 1920 rfl (ok (mv (.d (eU64 (([(0#64), (1#64), (2305843009213693950#64), (2305843009213693951#64), (2305843009213693952#64), (18446744073709551615#64)] : List (BitVec 64)).getD (0 + ((a2 % (6#8)).toNat : Int).toNat) 0#64))))) ?_
      refine stG (isT h17) ?_
      obtain ⟨y20, h21, h⟩ := bind_inv h
      refine st0 1984 rfl (call_ok (v := .d (eU64 y20)) (u := []) (ar_d (eU64 (([(0#64), (1#64), (2305843009213693950#64), (2305843009213693951#64), (2305843009213693952#64), (18446744073709551615#64)] : List (BitVec 64)).getD (0 + ((a2 % (6#8)).toNat : Int).toNat) 0#64)) (ar_d (eU64 (([(0#64), (1#64), (2305843009213693950#64), (2305843009213693951#64), (2305843009213693952#64), (18446744073709551615#64)] : List (BitVec 64)).getD (0 + ((a2 % (6#8)).toNat : Int).toNat) 0#64)) ar_nil)) rfl (passkeyref3MulOK (([(0#64), (1#64), (2305843009213693950#64), (2305843009213693951#64), (2305843009213693952#64), (18446744073709551615#64)] : List (BitVec 64)).getD (0 + ((a2 % (6#8)).toNat : Int).toNat) 0#64) (([(0#64), (1#64), (2305843009213693950#64), (2305843009213693951#64), (2305843009213693952#64), (18446744073709551615#64)] : List (BitVec 64)).getD (0 + ((a2 % (6#8)).toNat : Int).toNat) 0#64) y20 h21) rfl) ?_
      refine stG (isT h17) ?_
      refine st0 2048 rfl (ok (eql64 _ _)) ?_
      refine st0 2112 rfl (ok (pick_t h17 (.d (eB (y18 == y20))) _)) ?_
      refine st0 2176 rfl (ok (mv (.d (eB (y18 == y20))))) ?_
      rcases Bool.eq_false_or_eq_true ((y18 == y20)) with h22 | h22
      · replace h := ite_t h h22
        refine stG (isT h22) ?_
        obtain ⟨y23, h24, h⟩ := bind_inv h
        refine st0 2240 rfl (call_ok (v := .d (eB y23)) (u := []) ar_nil rfl (passkeylaw5awakeOK  y23 h24) rfl) ?_
        refine st0 2304 rfl (ok (pick_t h22 (.d (eB y23)) _)) ?_
        refine st0 2368 rfl (ok (mv (.d (eB y23)))) ?_
        refine hK7 _ _ ?_
        simp only [thenK, blockK, keepE, updM, List.filter_cons, List.filter_nil, List.nil_append, List.cons_append, List.map_cons, List.map_nil, envE, Mem.get, Nat.reduceEqDiff, reduceIte, Option.isNone_none, Option.isNone_some, Bool.false_eq_true, List.length_cons, List.length_nil, Nat.reduceAdd, Nat.reduceMul]
        refine hK6 _ _ _ ?_
        refine rwp_ret ?_
        obtain rfl := Option.some.inj h
        try simp only [thenK, blockK, reduceIte]
        exact end_ok trivial (rs_t (v := .d (eB y23)) rfl rs_nil) (en_d (to_d _) en_nil) ou_nil (by first | exact eok rfl rfl rfl rfl trivial | (refine eok ?_ ?_ ?_ ?_ ?_ <;> first | rfl | exact trivial | simp [retM, Mem.get, PV.renL, PV.ren, Blk.ren, comps, rhoR, rhoM, appN, PV.refsL, PV.refs, keys, nodupB, Blk.refs, allIn, Blk.bor]))
      · replace h := ite_f h h22
        refine stGN 2240 rfl rfl h22 ?_
        refine st0 2304 rfl (ok (pick_f h22 _ (.d (eB false)))) ?_
        refine st0 2368 rfl (ok (mv (.d (eB false)))) ?_
        refine hK7 _ _ ?_
        simp only [thenK, blockK, keepE, updM, List.filter_cons, List.filter_nil, List.nil_append, List.cons_append, List.map_cons, List.map_nil, envE, Mem.get, Nat.reduceEqDiff, reduceIte, Option.isNone_none, Option.isNone_some, Bool.false_eq_true, List.length_cons, List.length_nil, Nat.reduceAdd, Nat.reduceMul]
        refine hK6 _ _ _ ?_
        refine rwp_ret ?_
        obtain rfl := Option.some.inj h
        try simp only [thenK, blockK, reduceIte]
        exact end_ok trivial (rs_t (v := .d (eB false)) rfl rs_nil) (en_d (to_d _) en_nil) ou_nil (by first | exact eok rfl rfl rfl rfl trivial | (refine eok ?_ ?_ ?_ ?_ ?_ <;> first | rfl | exact trivial | simp [retM, Mem.get, PV.renL, PV.ren, Blk.ren, comps, rhoR, rhoM, appN, PV.refsL, PV.refs, keys, nodupB, Blk.refs, allIn, Blk.bor]))
    · replace h := ite_f h h17
      refine stGN 1664 rfl rfl h17 ?_
      refine stGN 1728 rfl rfl h17 ?_
      refine stGN 1792 rfl rfl h17 ?_
      refine stGN 1856 rfl rfl h17 ?_
      refine stGN 1920 rfl rfl h17 ?_
      refine stGN 1984 rfl rfl h17 ?_
      refine stGN 2048 rfl rfl h17 ?_
      refine st0 2112 rfl (ok (pick_f h17 _ (.d (eB false)))) ?_
      refine st0 2176 rfl (ok (mv (.d (eB false)))) ?_
      refine stGN 2240 rfl rfl rfl ?_
      refine st0 2304 rfl (ok (pick_f rfl _ (.d (eB false)))) ?_
      refine st0 2368 rfl (ok (mv (.d (eB false)))) ?_
      refine hK7 _ _ ?_
      simp only [thenK, blockK, keepE, updM, List.filter_cons, List.filter_nil, List.nil_append, List.cons_append, List.map_cons, List.map_nil, envE, Mem.get, Nat.reduceEqDiff, reduceIte, Option.isNone_none, Option.isNone_some, Bool.false_eq_true, List.length_cons, List.length_nil, Nat.reduceAdd, Nat.reduceMul]
      refine hK6 _ _ _ ?_
      refine rwp_ret ?_
      obtain rfl := Option.some.inj h
      try simp only [thenK, blockK, reduceIte]
      exact end_ok trivial (rs_t (v := .d (eB false)) rfl rs_nil) (en_d (to_d _) en_nil) ou_nil (by first | exact eok rfl rfl rfl rfl trivial | (refine eok ?_ ?_ ?_ ?_ ?_ <;> first | rfl | exact trivial | simp [retM, Mem.get, PV.renL, PV.ren, Blk.ren, comps, rhoR, rhoM, appN, PV.refsL, PV.refs, keys, nodupB, Blk.refs, allIn, Blk.bor]))
  · replace h := ite_f h h12
    refine stGN 1088 rfl rfl h12 ?_
    refine stGN 1152 rfl rfl h12 ?_
    refine stGN 1216 rfl rfl h12 ?_
    refine stGN 1280 rfl rfl h12 ?_
    refine stGN 1344 rfl rfl h12 ?_
    refine stGN 1408 rfl rfl h12 ?_
    refine stGN 1472 rfl rfl h12 ?_
    refine st0 1536 rfl (ok (pick_f h12 _ (.d (eB false)))) ?_
    refine st0 1600 rfl (ok (mv (.d (eB false)))) ?_
    refine stGN 1664 rfl rfl rfl ?_
    refine stGN 1728 rfl rfl rfl ?_
    refine stGN 1792 rfl rfl rfl ?_
    refine stGN 1856 rfl rfl rfl ?_
    refine stGN 1920 rfl rfl rfl ?_
    refine stGN 1984 rfl rfl rfl ?_
    refine stGN 2048 rfl rfl rfl ?_
    refine st0 2112 rfl (ok (pick_f rfl _ (.d (eB false)))) ?_
    refine st0 2176 rfl (ok (mv (.d (eB false)))) ?_
    refine stGN 2240 rfl rfl rfl ?_
    refine st0 2304 rfl (ok (pick_f rfl _ (.d (eB false)))) ?_
    refine st0 2368 rfl (ok (mv (.d (eB false)))) ?_
    refine hK7 _ _ ?_
    simp only [thenK, blockK, keepE, updM, List.filter_cons, List.filter_nil, List.nil_append, List.cons_append, List.map_cons, List.map_nil, envE, Mem.get, Nat.reduceEqDiff, reduceIte, Option.isNone_none, Option.isNone_some, Bool.false_eq_true, List.length_cons, List.length_nil, Nat.reduceAdd, Nat.reduceMul]
    refine hK6 _ _ _ ?_
    refine rwp_ret ?_
    obtain rfl := Option.some.inj h
    try simp only [thenK, blockK, reduceIte]
    exact end_ok trivial (rs_t (v := .d (eB false)) rfl rs_nil) (en_d (to_d _) en_nil) ou_nil (by first | exact eok rfl rfl rfl rfl trivial | (refine eok ?_ ?_ ?_ ?_ ?_ <;> first | rfl | exact trivial | simp [retM, Mem.get, PV.renL, PV.ren, Blk.ren, comps, rhoR, rhoM, appN, PV.refsL, PV.refs, keys, nodupB, Blk.refs, allIn, Blk.bor]))

/-- passkey/passkeyref3.Power -/
def passkeyref3PowerH : Hints := ⟨[(0, [0, 1]), (1, [0, 1, 5]), (2, [0, 1, 5, 6]), (3, [0, 1, 5, 6, 8]), (5, [0, 1, 5, 6]), (6, [0, 1, 5, 6, 19]), (7, [0, 1, 5, 6]), (4, [0, 1, 5, 6]), (8, [4])], []⟩
def passkeyref3PowerRc : RCode :=
  .seq (.region false [⟨some 4, .mv, [.k (.d (.int .u64 0))], none, []⟩] [0, 1]) (.seq (.region false [⟨some 5, .mv, [.k (.d (.int .u64 1))], none, []⟩] [0, 1, 5]) (.seq (.seq
  (.region false [⟨some 6, .mv, [.k (.d (.int .i64 63))], none, []⟩] [0, 1, 5, 6]) (.block 0 (.loop [] (.seq (.seq (.region false [⟨some 7, .mv, [.t 6], none, []⟩, ⟨some 8, .bin
  .geq, [.t 7, .k (.d (.int .i64 0))], none, []⟩] [0, 1, 5, 6, 8]) (.cond (.t 8) .skip (.exit 0))) (.seq (.block 1 (.seq (.region false [⟨some 11, .mv, [.t 5], none, []⟩, ⟨some 12,
  .mv, [.t 5], none, []⟩, ⟨some 13, .call 10 false, [.t 11, .t 12], none, []⟩, ⟨some 5, .mv, [.t 13], none, []⟩] [0, 1, 5, 6]) (.seq (.region false [⟨some 14, .mv, [.t 1], none,
  []⟩, ⟨some 15, .mv, [.t 6], none, []⟩, ⟨some 16, .cvt .u64, [.t 15], none, []⟩, ⟨some 17, .bin .shr, [.t 14, .t 16], none, []⟩, ⟨some 18, .bin .and, [.t 17, .k (.d (.int .u64
  1))], none, []⟩, ⟨some 19, .bin .eql, [.t 18, .k (.d (.int .u64 1))], none, []⟩] [0, 1, 5, 6, 19]) (.cond (.t 19) (.region false [⟨some 20, .mv, [.t 5], none, []⟩, ⟨some 21, .mv,
  [.t 0], none, []⟩, ⟨some 22, .call 10 false, [.t 20, .t 21], none, []⟩, ⟨some 5, .mv, [.t 22], none, []⟩] [0, 1, 5, 6]) .skip)))) (.region false [⟨some 9, .mv, [.t 6], none, []⟩,
  ⟨some 10, .bin .sub, [.t 9, .k (.d (.int .i64 1))], none, []⟩, ⟨some 6, .mv, [.t 10], none, []⟩] [0, 1, 5, 6])))))) (.seq (.region false [⟨some 23, .mv, [.t 5], none, []⟩, ⟨some
  4, .mv, [.t 23], none, []⟩] [4]) .ret)))
def passkeyref3PowerRr : List RR := [.t 4]
theorem passkeyref3PowerC : compFn Try.prog 13 passkeyref3PowerH = some (passkeyref3PowerRc, passkeyref3PowerRr, 24) := by kernel_rfl
theorem passkeyref3PowerOK (a0 : BitVec 64) (a1 : BitVec 64) (res : BitVec 64) (h : passkeyref3Power a0 a1 = some res) : CallOK Try.prog 13 [.d (eU64 a0), .d (eU64 a1)] [] (.d (eU64 res)) [] := by
  unfold passkeyref3Power at h
  refine callOK passkeyref3PowerC fm rfl ?_
  simp only [initE, initM, nbor, List.map_cons, List.map_nil, Nat.reduceAdd]
  unfold passkeyref3PowerRc
  refine rwp_seq fun K1 hK1 => ?_
  refine rwp_region fun K2 hK2 => ?_
  refine st0 128 rfl (ok (mv (.d (eU64 (0#64))))) ?_
  refine hK2 _ _ ?_
  simp only [thenK, blockK, keepE, updM, List.filter_cons, List.filter_nil, List.nil_append, List.cons_append, List.map_cons, List.map_nil, envE, Mem.get, Nat.reduceEqDiff, reduceIte, Option.isNone_none, Option.isNone_some, Bool.false_eq_true, List.length_cons, List.length_nil, Nat.reduceAdd, Nat.reduceMul]
  refine hK1 _ _ _ ?_
  refine rwp_seq fun K3 hK3 => ?_
  refine rwp_region fun K4 hK4 => ?_
  refine st0 192 rfl (ok (mv (.d (eU64 (1#64))))) ?_
  refine hK4 _ _ ?_
  simp only [thenK, blockK, keepE, updM, List.filter_cons, List.filter_nil, List.nil_append, List.cons_append, List.map_cons, List.map_nil, envE, Mem.get, Nat.reduceEqDiff, reduceIte, Option.isNone_none, Option.isNone_some, Bool.false_eq_true, List.length_cons, List.length_nil, Nat.reduceAdd, Nat.reduceMul]
  refine hK3 _ _ _ ?_
  refine rwp_join ([], []) 1856 (fun env mem => ∃ (v5 : BitVec 64), passkeyref3PowerJ1 v5 = some res ∧ env = [(5, .d (eU64 v5))] ∧ mem = []) (fun _ _ hI => ?_) (fun K6 hK6 => ?_)
  · obtain ⟨v5, h, rfl, rfl⟩ := hI
    unfold passkeyref3PowerJ1 at h
    refine rwp_seq fun K7 hK7 => ?_
    refine rwp_region fun K8 hK8 => ?_
    refine st0 1920 rfl (ok (mv (.d (eU64 v5)))) ?_
    refine st0 1984 rfl (ok (mv (.d (eU64 v5)))) ?_
    refine hK8 _ _ ?_
    simp only [thenK, blockK, keepE, updM, List.filter_cons, List.filter_nil, List.nil_append, List.cons_append, List.map_cons, List.map_nil, envE, Mem.get, Nat.reduceEqDiff, reduceIte, Option.isNone_none, Option.isNone_some, Bool.false_eq_true, List.length_cons, List.length_nil, Nat.reduceAdd, Nat.reduceMul]
    refine hK7 _ _ _ ?_
    refine rwp_ret ?_
    obtain rfl := Option.some.inj h
    try simp only [thenK, blockK, reduceIte]
    exact end_ok trivial (rs_t (v := .d (eU64 v5)) rfl rs_nil) (en_d (to_d _) en_nil) ou_nil (by first | exact eok rfl rfl rfl rfl trivial | (refine eok ?_ ?_ ?_ ?_ ?_ <;> first | rfl | exact trivial | simp [retM, Mem.get, PV.renL, PV.ren, Blk.ren, comps, rhoR, rhoM, appN, PV.refsL, PV.refs, keys, nodupB, Blk.refs, allIn, Blk.bor]))
  · refine rwp_seq fun K9 hK9 => ?_
    refine rwp_region fun K10 hK10 => ?_
    refine st0 256 rfl (ok (mv (.d (eI (63 : Int))))) ?_
    refine hK10 _ _ ?_
    simp only [thenK, blockK, keepE, updM, List.filter_cons, List.filter_nil, List.nil_append, List.cons_append, List.map_cons, List.map_nil, envE, Mem.get, Nat.reduceEqDiff, reduceIte, Option.isNone_none, Option.isNone_some, Bool.false_eq_true, List.length_cons, List.length_nil, Nat.reduceAdd, Nat.reduceMul]
    refine hK9 _ _ _ ?_
    refine rwp_block fun K11 hK11 => ?_
    refine rwp_loop ([], []) 1664 (fun k env mem => ∃ (v12 : BitVec 64) (v13 : Int), passkeyref3PowerL2 a0 a1 k v12 v13 = some res ∧ env = [(0, .d (eU64 a0)), (1, .d (eU64 a1)), (5, .d (eU64 v12)), (6, .d (eI v13))] ∧ mem = []) FUEL ⟨_, _, Settled.refl, _, _, ⟨_, _, h, rfl, rfl⟩, ⟨rfl, ⟨⟨rfl, rfl⟩, ⟨⟨rfl, rfl⟩, ⟨⟨rfl, rfl⟩, ⟨⟨rfl, rfl⟩, trivial⟩⟩⟩⟩, trivial⟩, rfl⟩ (fun k2 env1 mem1 hI K14 hK14 => ?_)
    obtain ⟨v12, v13, h, rfl, rfl⟩ := hI
    cases k2 with
    | zero => simp [passkeyref3PowerL2] at h
    | succ k2 =>
      rw [passkeyref3PowerL2] at h
      refine rwp_seq fun K15 hK15 => ?_
      refine rwp_seq fun K16 hK16 => ?_
      refine rwp_region fun K17 hK17 => ?_
      refine st0 1728 rfl (ok (mv (.d (eI v13)))) ?_
      refine st0 1792 rfl (ok (geqI _ (0 : Int))) ?_
      refine hK17 _ _ ?_
      simp only [thenK, blockK, keepE, updM, List.filter_cons, List.filter_nil, List.nil_append, List.cons_append, List.map_cons, List.map_nil, envE, Mem.get, Nat.reduceEqDiff, reduceIte, Option.isNone_none, Option.isNone_some, Bool.false_eq_true, List.length_cons, List.length_nil, Nat.reduceAdd, Nat.reduceMul]
      refine hK16 _ _ _ ?_
      rcases Bool.eq_false_or_eq_true ((decide ((0 : Int) ≤ v13))) with h18 | h18
      · replace h := ite_t h h18
        refine rwp_t (isT h18) ?_
        refine rwp_skip ?_
        refine hK15 _ _ _ ?_
        refine rwp_join ([], []) 2752 (fun env mem => ∃ (v19 : BitVec 64), passkeyref3PowerJ3 (passkeyref3PowerL2 a0 a1 k2) v13 v19 = some res ∧ env = [(0, .d (eU64 a0)), (1, .d (eU64 a1)), (5, .d (eU64 v19)), (6, .d (eI v13))] ∧ mem = []) (fun _ _ hI => ?_) (fun K20 hK20 => ?_)
        · obtain ⟨v19, h, rfl, rfl⟩ := hI
          unfold passkeyref3PowerJ3 at h
          refine rwp_region fun K21 hK21 => ?_
          refine st0 2816 rfl (ok (mv (.d (eI v13)))) ?_
          refine st0 2880 rfl (ok (subI _ (1 : Int))) ?_
          refine st0 2944 rfl (ok (mv (.d (eI (w64 (v13 - (1 : Int))))))) ?_
          refine hK21 _ _ ?_
          simp only [thenK, blockK, keepE, updM, List.filter_cons, List.filter_nil, List.nil_append, List.cons_append, List.map_cons, List.map_nil, envE, Mem.get, Nat.reduceEqDiff, reduceIte, Option.isNone_none, Option.isNone_some, Bool.false_eq_true, List.length_cons, List.length_nil, Nat.reduceAdd, Nat.reduceMul]
          exact hK14.out _ _ _ k2 (Nat.lt_succ_self k2) ⟨_, _, Settled.refl, _, _, ⟨_, _, h, rfl, rfl⟩, ⟨rfl, ⟨⟨rfl, rfl⟩, ⟨⟨rfl, rfl⟩, ⟨⟨rfl, rfl⟩, ⟨⟨rfl, rfl⟩, trivial⟩⟩⟩⟩, trivial⟩, rfl⟩
        · refine rwp_block fun K22 hK22 => ?_
          refine rwp_seq fun K23 hK23 => ?_
          refine rwp_region fun K24 hK24 => ?_
          refine st0 1856 rfl (ok (mv (.d (eU64 v12)))) ?_
          refine st0 1920 rfl (ok (mv (.d (eU64 v12)))) ?_
          obtain ⟨y25, h26, h⟩ := bind_inv h
          refine st0 1984 rfl (call_ok (v := .d (eU64 y25)) (u := []) (ar_d (eU64 v12) (ar_d (eU64 v12) ar_nil)) rfl (passkeyref3MulOK v12 v12 y25 h26) rfl) ?_
          refine st0 2048 rfl (ok (mv (.d (eU64 y25)))) ?_
          refine hK24 _ _ ?_
          simp only [thenK, blockK, keepE, updM, List.filter_cons, List.filter_nil, List.nil_append, List.cons_append, List.map_cons, List.map_nil, envE, Mem.get, Nat.reduceEqDiff, reduceIte, Option.isNone_none, Option.isNone_some, Bool.false_eq_true, List.length_cons, List.length_nil, Nat.reduceAdd, Nat.reduceMul]
          refine hK23 _ _ _ ?_
          refine rwp_seq fun K27 hK27 => ?_
          refine rwp_region fun K28 hK28 => ?_
          refine st0 2112 rfl (ok (mv (.d (eU64 a1)))) ?_
          refine st0 2176 rfl (ok (mv (.d (eI v13)))) ?_
          refine st0 2240 rfl (ok (ofI64 _ v13)) ?_
          refine st0 2304 rfl (ok (shr64_64 _ _)) ?_
          refine st0 2368 rfl (ok (and64 _ (1#64))) ?_
          refine st0 2432 rfl (ok (eql64 _ (1#64))) ?_
          refine hK28 _ _ ?_
          simp only [thenK, blockK, keepE, updM, List.filter_cons, List.filter_nil, List.nil_append, List.cons_append, List.map_cons, List.map_nil, envE, Mem.get, Nat.reduceEqDiff, reduceIte, Option.isNone_none, Option.isNone_some, Bool.false_eq_true, List.length_cons, List.length_nil, Nat.reduceAdd, Nat.reduceMul]
          refine hK27 _ _ _ ?_
          rcases Bool.eq_false_or_eq_true ((((a1 >>> (BitVec.ofInt 64 v13).toNat) &&& (1#64)) == (1#64))) with h29 | h29
          · replace h := ite_t h h29
            refine rwp_t (isT h29) ?_
            refine rwp_region fun K30 hK30 => ?_
            refine st0 2496 rfl (ok (mv (.d (eU64 y25)))) ?_
            refine st0 2560 rfl (ok (mv (.d (eU64 a0)))) ?_
            obtain ⟨y31, h32, h⟩ := bind_inv h
            refine st0 2624 rfl (call_ok (v := .d (eU64 y31)) (u := []) (ar_d (eU64 y25) (ar_d (eU64 a0) ar_nil)) rfl (passkeyref3MulOK y25 a0 y31 h32) rfl) ?_
            refine st0 2688 rfl (ok (mv (.d (eU64 y31)))) ?_
            refine hK30 _ _ ?_
            simp only [thenK, blockK, keepE, updM, List.filter_cons, List.filter_nil, List.nil_append, List.cons_append, List.map_cons, List.map_nil, envE, Mem.get, Nat.reduceEqDiff, reduceIte, Option.isNone_none, Option.isNone_some, Bool.false_eq_true, List.length_cons, List.length_nil, Nat.reduceAdd, Nat.reduceMul]
            refine hK22 _ _ _ ?_
            exact hK20 _ _ _ ⟨_, _, Settled.refl, _, _, ⟨_, h, rfl, rfl⟩, ⟨rfl, ⟨⟨rfl, rfl⟩, ⟨⟨rfl, rfl⟩, ⟨⟨rfl, rfl⟩, ⟨⟨rfl, rfl⟩, trivial⟩⟩⟩⟩, trivial⟩, rfl⟩
          · replace h := ite_f h h29
            refine rwp_f (isF h29) ?_
            refine rwp_skip ?_
            refine hK22 _ _ _ ?_
            exact hK20 _ _ _ ⟨_, _, Settled.refl, _, _, ⟨_, h, rfl, rfl⟩, ⟨rfl, ⟨⟨rfl, rfl⟩, ⟨⟨rfl, rfl⟩, ⟨⟨rfl, rfl⟩, ⟨⟨rfl, rfl⟩, trivial⟩⟩⟩⟩, trivial⟩, rfl⟩
      · replace h := ite_f h h18
        refine rwp_f (isF h18) ?_
        refine rwp_exit ?_
        refine hK11 _ _ _ ?_
        exact hK6 _ _ _ ⟨_, _, Settled.refl, _, _, ⟨_, h, rfl, rfl⟩, ⟨rfl, ⟨⟨rfl, rfl⟩, trivial⟩, trivial⟩, rfl⟩

/-- passkey/passkeylaw5.ExchangePower -/
def passkeylaw5ExchangePowerH : Hints := ⟨[(0, [0, 1, 2]), (1, [6])], []⟩
def passkeylaw5ExchangePowerRc : RCode :=
  .seq (.region false [⟨some 6, .mv, [.k (.d (.bool false))], none, []⟩] [0, 1, 2]) (.seq (.region false [⟨some 7, .mv, [.t 0], none, []⟩, ⟨some 8, .mv, [.t 1], none, []⟩, ⟨some 9,
  .call 12 false, [.t 7, .t 8], none, []⟩, ⟨some 10, .mv, [.t 0], none, []⟩, ⟨some 11, .mv, [.t 1], none, []⟩, ⟨some 12, .call 13 false, [.t 10, .t 11], none, []⟩, ⟨some 13, .bin
  .eql, [.t 9, .t 12], none, []⟩, ⟨some 14, .mv, [.t 13], none, []⟩, ⟨some 15, .mv, [.t 0], some (14, true), []⟩, ⟨some 16, .mv, [.t 2], some (14, true), []⟩, ⟨some 17, .bin .rem,
  [.t 16, .k (.d (.int .u8 5))], some (14, true), []⟩, ⟨some 18, .cvt .u64, [.t 17], some (14, true), []⟩, ⟨some 19, .call 12 false, [.t 15, .t 18], some (14, true), []⟩, ⟨some 20,
  .mv, [.t 0], some (14, true), []⟩, ⟨some 21, .mv, [.t 2], some (14, true), []⟩, ⟨some 22, .bin .rem, [.t 21, .k (.d (.int .u8 5))], some (14, true), []⟩, ⟨some 23, .cvt .u64, [.t
  22], some (14, true), []⟩, ⟨some 24, .call 13 false, [.t 20, .t 23], some (14, true), []⟩, ⟨some 25, .bin .eql, [.t 19, .t 24], some (14, true), []⟩, ⟨some 26, .pick, [.t 14, .t
  25, .k (.d (.bool false))], none, []⟩, ⟨some 27, .mv, [.t 26], none, []⟩, ⟨some 28, .call 11 false, [], some (27, true), []⟩, ⟨some 29, .pick, [.t 27, .t 28, .k (.d (.bool
  false))], none, []⟩, ⟨some 6, .mv, [.t 29], none, []⟩] [6]) .ret)
def passkeylaw5ExchangePowerRr : List RR := [.t 6]
theorem passkeylaw5ExchangePowerC : compFn Try.prog 4 passkeylaw5ExchangePowerH = some (passkeylaw5ExchangePowerRc, passkeylaw5ExchangePowerRr, 30) := by kernel_rfl
theorem passkeylaw5ExchangePowerOK (a0 : BitVec 64) (a1 : BitVec 64) (a2 : BitVec 8) (res : Bool) (h : passkeylaw5ExchangePower a0 a1 a2 = some res) : CallOK Try.prog 4 [.d (eU64 a0), .d (eU64 a1), .d (eU8 a2)] [] (.d (eB res)) [] := by
  unfold passkeylaw5ExchangePower at h
  refine callOK passkeylaw5ExchangePowerC fm rfl ?_
  simp only [initE, initM, nbor, List.map_cons, List.map_nil, Nat.reduceAdd]
  unfold passkeylaw5ExchangePowerRc
  refine rwp_seq fun K1 hK1 => ?_
  refine rwp_region fun K2 hK2 => ?_
  refine st0 128 rfl (ok (mv (.d (eB false)))) ?_
  refine hK2 _ _ ?_
  simp only [thenK, blockK, keepE, updM, List.filter_cons, List.filter_nil, List.nil_append, List.cons_append, List.map_cons, List.map_nil, envE, Mem.get, Nat.reduceEqDiff, reduceIte, Option.isNone_none, Option.isNone_some, Bool.false_eq_true, List.length_cons, List.length_nil, Nat.reduceAdd, Nat.reduceMul]
  refine hK1 _ _ _ ?_
  refine rwp_seq fun K3 hK3 => ?_
  refine rwp_region fun K4 hK4 => ?_
  refine st0 192 rfl (ok (mv (.d (eU64 a0)))) ?_
  refine st0 256 rfl (ok (mv (.d (eU64 a1)))) ?_
  obtain ⟨y5, h6, h⟩ := bind_inv h
  refine st0 320 rfl (call_ok (v := .d (eU64 y5)) (u := []) (ar_d (eU64 a0) (ar_d (eU64 a1) ar_nil)) rfl (exchangePowerOK a0 a1 y5 h6) rfl) ?_
  refine st0 384 rfl (ok (mv (.d (eU64 a0)))) ?_
  refine st0 448 rfl (ok (mv (.d (eU64 a1)))) ?_
  obtain ⟨y7, h8, h⟩ := bind_inv h
  refine st0 512 rfl (call_ok (v := .d (eU64 y7)) (u := []) (ar_d (eU64 a0) (ar_d (eU64 a1) ar_nil)) rfl (passkeyref3PowerOK a0 a1 y7 h8) rfl) ?_
  refine st0 576 rfl (ok (eql64 _ _)) ?_
  refine st0 640 rfl (ok (mv (.d (eB (y5 == y7))))) ?_
  rcases Bool.eq_false_or_eq_true ((y5 == y7)) with h9 | h9
  · replace h := ite_t h h9
    refine stG (isT h9) ?_
    refine st0 704 rfl (ok (mv (.d (eU64 a0)))) ?_
    refine stG (isT h9) ?_
    refine st0 768 rfl (ok (mv (.d (eU8 a2)))) ?_
    refine stG (isT h9) ?_
    refine st0 832 rfl (ok (rem8 _ (5#8) (by decide))) ?_
    refine stG (isT h9) ?_
    refine st0 896 rfl (ok (cvt8_64 _)) ?_
    refine stG (isT h9) ?_
    obtain ⟨y10, h11, h⟩ := bind_inv h
    refine st0 960 rfl (call_ok (v := .d (eU64 y10)) (u := []) (ar_d (eU64 a0) (ar_d (eU64 ((a2 % (5#8)).setWidth 64)) ar_nil)) rfl (exchangePowerOK a0 ((a2 % (5#8)).setWidth 64) y10 h11) rfl) ?_
    refine stG (isT h9) ?_
    refine st0 1024 rfl (ok (mv (.d (eU64 a0)))) ?_
    refine stG (isT h9) ?_
    refine st0 1088 rfl (ok (mv (.d (eU8 a2)))) ?_
    refine stG (isT h9) ?_
    refine st0 1152 rfl (ok (rem8 _ (5#8) (by decide))) ?_
    refine stG (isT h9) ?_
    refine st0 1216 rfl (ok (cvt8_64 _)) ?_
    refine stG (isT h9) ?_
    obtain ⟨y12, h13, h⟩ := bind_inv h
    refine st0 1280 rfl (call_ok (v := .d (eU64 y12)) (u := []) (ar_d (eU64 a0) (ar_d (eU64 ((a2 % (5#8)).setWidth 64)) ar_nil)) rfl (passkeyref3PowerOK a0 ((a2 % (5#8)).setWidth 64) y12 h13) rfl) ?_
    refine stG (isT h9) ?_
    refine st0 1344 rfl (ok (eql64 _ _)) ?_
    refine st0 1408 rfl (ok (pick_t h9 (.d (eB (y10 == y12))) _)) ?_
    refine st0 1472 rfl (ok (mv (.d (eB (y10 == y12))))) ?_
    rcases Bool.eq_false_or_eq_true ((y10 == y12)) with h14 | h14
    · replace h := ite_t h h14
      refine stG (isT h14) ?_
      obtain ⟨y15, h16, h⟩ := bind_inv h
      refine st0 1536 rfl (call_ok (v := .d (eB y15)) (u := []) ar_nil rfl (passkeylaw5awakeOK  y15 h16) rfl) ?_
      refine st0 1600 rfl (ok (pick_t h14 (.d (eB y15)) _)) ?_
      refine st0 1664 rfl (ok (mv (.d (eB y15)))) ?_
      refine hK4 _ _ ?_
      simp only [thenK, blockK, keepE, updM, List.filter_cons, List.filter_nil, List.nil_append, List.cons_append, List.map_cons, List.map_nil, envE, Mem.get, Nat.reduceEqDiff, reduceIte, Option.isNone_none, Option.isNone_some, Bool.false_eq_true, List.length_cons, List.length_nil, Nat.reduceAdd, Nat.reduceMul]
      refine hK3 _ _ _ ?_
      refine rwp_ret ?_
      obtain rfl := Option.some.inj h
      try simp only [thenK, blockK, reduceIte]
      exact end_ok trivial (rs_t (v := .d (eB y15)) rfl rs_nil) (en_d (to_d _) en_nil) ou_nil (by first | exact eok rfl rfl rfl rfl trivial | (refine eok ?_ ?_ ?_ ?_ ?_ <;> first | rfl | exact trivial | simp [retM, Mem.get, PV.renL, PV.ren, Blk.ren, comps, rhoR, rhoM, appN, PV.refsL, PV.refs, keys, nodupB, Blk.refs, allIn, Blk.bor]))
    · replace h := ite_f h h14
      refine stGN 1536 rfl rfl h14 ?_
      refine st0 1600 rfl (ok (pick_f h14 _ (.d (eB false)))) ?_
      refine st0 1664 rfl (ok (mv (.d (eB false)))) ?_
      refine hK4 _ _ ?_
      simp only [thenK, blockK, keepE, updM, List.filter_cons, List.filter_nil, List.nil_append, List.cons_append, List.map_cons, List.map_nil, envE, Mem.get, Nat.reduceEqDiff, reduceIte, Option.isNone_none, Option.isNone_some, Bool.false_eq_true, List.length_cons, List.length_nil, Nat.reduceAdd, Nat.reduceMul]
      refine hK3 _ _ _ ?_
      refine rwp_ret ?_
      obtain rfl := Option.some.inj h
      try simp only [thenK, blockK, reduceIte]
      exact end_ok trivial (rs_t (v := .d (eB false)) rfl rs_nil) (en_d (to_d _) en_nil) ou_nil (by first | exact eok rfl rfl rfl rfl trivial | (refine eok ?_ ?_ ?_ ?_ ?_ <;> first | rfl | exact trivial | simp [retM, Mem.get, PV.renL, PV.ren, Blk.ren, comps, rhoR, rhoM, appN, PV.refsL, PV.refs, keys, nodupB, Blk.refs, allIn, Blk.bor]))
  · replace h := ite_f h h9
    refine stGN 704 rfl rfl h9 ?_
    refine stGN 768 rfl rfl h9 ?_
    refine stGN 832 rfl rfl h9 ?_
    refine stGN 896 rfl rfl h9 ?_
    refine stGN 960 rfl rfl h9 ?_
    refine stGN 1024 rfl rfl h9 ?_
    refine stGN 1088 rfl rfl h9 ?_
    refine stGN 1152 rfl rfl h9 ?_
    refine stGN 1216 rfl rfl h9 ?_
    refine stGN 1280 rfl rfl h9 ?_
    refine stGN 1344 rfl rfl h9 ?_
    refine st0 1408 rfl (ok (pick_f h9 _ (.d (eB false)))) ?_
    refine st0 1472 rfl (ok (mv (.d (eB false)))) ?_
    refine stGN 1536 rfl rfl rfl ?_
    refine st0 1600 rfl (ok (pick_f rfl _ (.d (eB false)))) ?_
    refine st0 1664 rfl (ok (mv (.d (eB false)))) ?_
    refine hK4 _ _ ?_
    simp only [thenK, blockK, keepE, updM, List.filter_cons, List.filter_nil, List.nil_append, List.cons_append, List.map_cons, List.map_nil, envE, Mem.get, Nat.reduceEqDiff, reduceIte, Option.isNone_none, Option.isNone_some, Bool.false_eq_true, List.length_cons, List.length_nil, Nat.reduceAdd, Nat.reduceMul]
    refine hK3 _ _ _ ?_
    refine rwp_ret ?_
    obtain rfl := Option.some.inj h
    try simp only [thenK, blockK, reduceIte]
    exact end_ok trivial (rs_t (v := .d (eB false)) rfl rs_nil) (en_d (to_d _) en_nil) ou_nil (by first | exact eok rfl rfl rfl rfl trivial | (refine eok ?_ ?_ ?_ ?_ ?_ <;> first | rfl | exact trivial | simp [retM, Mem.get, PV.renL, PV.ren, Blk.ren, comps, rhoR, rhoM, appN, PV.refsL, PV.refs, keys, nodupB, Blk.refs, allIn, Blk.bor]))

end Go.Proofs.Ty
