/- Each Go function comes to what its plain function says. PRINTED by a program of this session (ty.py). -/
import Derived.Test.YtjojcickhpgaaaaS6
set_option linter.unusedVariables false
set_option linter.unusedSimpArgs false
set_option maxHeartbeats 4000000
set_option maxRecDepth 10000
namespace Go.Proofs.Ty
open Go Go.RW Go.Proofs
/-- passkey/passkeyref3.Shared -/
def passkeyref3SharedH : Hints := ⟨[(0, [0, 1]), (1, [0, 1, 11]), (2, [4, 5]), (3, [4, 5])], []⟩
def passkeyref3SharedRc : RCode :=
  .seq (.region false [⟨some 4, .mv, [.k (.d (.int .u64 0))], none, []⟩, ⟨some 5, .mv, [.k (.d (.int .i64 0))], none, []⟩] [0, 1]) (.seq (.seq (.region false [⟨some 6, .mv, [.t 1],
  none, []⟩, ⟨some 7, .bin .lss, [.t 6, .k (.d (.int .u64 2))], none, []⟩, ⟨some 8, .mv, [.t 7], none, []⟩, ⟨some 9, .mv, [.t 1], some (8, false), []⟩, ⟨some 10, .bin .gtr, [.t 9,
  .k (.d (.int .u64 2305843009213693949))], some (8, false), []⟩, ⟨some 11, .pick, [.t 8, .k (.d (.bool true)), .t 10], none, []⟩] [0, 1, 11]) (.cond (.t 11) (.seq (.region false
  [⟨some 4, .mv, [.k (.d (.int .u64 0))], none, []⟩, ⟨some 5, .mv, [.k (.d (.int .i64 9))], none, []⟩] [4, 5]) .ret) .skip)) (.seq (.region false [⟨some 12, .mv, [.t 1], none, []⟩,
  ⟨some 13, .mv, [.t 0], none, []⟩, ⟨some 14, .call 25 false, [.t 13], none, []⟩, ⟨some 15, .call 13 false, [.t 12, .t 14], none, []⟩, ⟨some 16, .bslice 1 false 1 [.d (.int .u64
  0)] [0], [.t 15], none, []⟩, ⟨some 17, .call 24 true, [.t 16], none, []⟩, ⟨some 18, .call 23 false, [.k (.d (.int .i64 12)), .t 17], none, []⟩, ⟨some 4, .mv, [.t 18], none, []⟩,
  ⟨some 5, .mv, [.k (.d (.int .i64 0))], none, []⟩] [4, 5]) .ret))
def passkeyref3SharedRr : List RR := [.t 4, .t 5]
theorem passkeyref3SharedC : compFn Try.prog 15 passkeyref3SharedH = some (passkeyref3SharedRc, passkeyref3SharedRr, 19) := by kernel_rfl
theorem passkeyref3SharedOK (a0 : BitVec 64) (a1 : BitVec 64) (res : (BitVec 64) × Int) (h : passkeyref3Shared a0 a1 = some res) : CallOK Try.prog 15 [.d (eU64 a0), .d (eU64 a1)] [] (.tup [.d (eU64 res.1), .d (eI res.2)]) [] := by
  unfold passkeyref3Shared at h
  refine callOK passkeyref3SharedC fm rfl ?_
  simp only [initE, initM, nbor, List.map_cons, List.map_nil, Nat.reduceAdd]
  unfold passkeyref3SharedRc
  refine rwp_seq fun K1 hK1 => ?_
  refine rwp_region fun K2 hK2 => ?_
  refine st0 128 rfl (ok (mv (.d (eU64 (0#64))))) ?_
  refine st0 192 rfl (ok (mv (.d (eI (0 : Int))))) ?_
  refine hK2 _ _ ?_
  simp only [thenK, blockK, keepE, updM, List.filter_cons, List.filter_nil, List.nil_append, List.cons_append, List.map_cons, List.map_nil, envE, Mem.get, Nat.reduceEqDiff, reduceIte, Option.isNone_none, Option.isNone_some, Bool.false_eq_true, List.length_cons, List.length_nil, Nat.reduceAdd, Nat.reduceMul]
  refine hK1 _ _ _ ?_
  refine rwp_seq fun K3 hK3 => ?_
  refine rwp_join ([], []) 640 (fun env mem => ∃ (v4 : Bool), passkeyref3SharedJ1 a0 a1 v4 = some res ∧ env = [(0, .d (eU64 a0)), (1, .d (eU64 a1)), (11, .d (eB v4))] ∧ mem = []) (fun _ _ hI => ?_) (fun K5 hK5 => ?_)
  · obtain ⟨v4, h, rfl, rfl⟩ := hI
    unfold passkeyref3SharedJ1 at h
    rcases Bool.eq_false_or_eq_true (v4) with h6 | h6
    · replace h := ite_t h h6
      refine rwp_t (isT h6) ?_
      refine rwp_seq fun K7 hK7 => ?_
      refine rwp_region fun K8 hK8 => ?_
      refine st0 704 rfl (ok (mv (.d (eU64 (0#64))))) ?_
      refine st0 768 rfl (ok (mv (.d (eI (9 : Int))))) ?_
      refine hK8 _ _ ?_
      simp only [thenK, blockK, keepE, updM, List.filter_cons, List.filter_nil, List.nil_append, List.cons_append, List.map_cons, List.map_nil, envE, Mem.get, Nat.reduceEqDiff, reduceIte, Option.isNone_none, Option.isNone_some, Bool.false_eq_true, List.length_cons, List.length_nil, Nat.reduceAdd, Nat.reduceMul]
      refine hK7 _ _ _ ?_
      refine rwp_ret ?_
      obtain rfl := Option.some.inj h
      try simp only [thenK, blockK, reduceIte]
      exact end_ok trivial (rs_t (v := .d (eU64 (0#64))) rfl (rs_t (v := .d (eI (9 : Int))) rfl rs_nil)) (en_d (to_d _) (en_d (to_d _) en_nil)) ou_nil (by first | exact eok rfl rfl rfl rfl trivial | (refine eok ?_ ?_ ?_ ?_ ?_ <;> first | rfl | exact trivial | simp [retM, Mem.get, PV.renL, PV.ren, Blk.ren, comps, rhoR, rhoM, appN, PV.refsL, PV.refs, keys, nodupB, Blk.refs, allIn, Blk.bor]))
    · replace h := ite_f h h6
      refine rwp_f (isF h6) ?_
      refine rwp_skip ?_
      refine hK3 _ _ _ ?_
      refine rwp_seq fun K9 hK9 => ?_
      refine rwp_region fun K10 hK10 => ?_
      refine st0 704 rfl (ok (mv (.d (eU64 a1)))) ?_
      refine st0 768 rfl (ok (mv (.d (eU64 a0)))) ?_
      obtain ⟨y11, h12, h⟩ := bind_inv h
      refine st0 832 rfl (call_ok (v := .d (eU64 y11)) (u := []) (ar_d (eU64 a0) ar_nil) rfl (passkeyref3exponentOK a0 y11 h12) rfl) ?_
      obtain ⟨y13, h14, h⟩ := bind_inv h
      refine st0 896 rfl (call_ok (v := .d (eU64 y13)) (u := []) (ar_d (eU64 a1) (ar_d (eU64 y11) ar_nil)) rfl (passkeyref3PowerOK a1 y11 y13 h14) rfl) ?_
      refine st1 960 rfl (mem' := [(896, .row true 1 (([y13] : List (BitVec 64)).map eU64))]) (ok (bsl (e := eU64) (ys := ([y13] : List (BitVec 64))) rfl rfl rfl)) rfl ?_
      obtain ⟨y15, h16, h⟩ := bind_inv h
      refine st1 1024 rfl (mem' := [(960, .row true 1 (y15.map eU8)), (896, .row false 1 (([y13] : List (BitVec 64)).map eU64))]) (call_ok (v := .ref 960 y15.length 0 y15.length) (u := [(960, .row true 1 (y15.map eU8)), (896, .row false 1 (([y13] : List (BitVec 64)).map eU64))]) (ar_to rfl (to_1 rfl (ds_r (ys := ([y13] : List (BitVec 64))) rfl rfl rfl ds_nil)) ar_nil) rfl (passkeyref1WordsOK ([y13] : List (BitVec 64)) y15 h16) rfl) rfl ?_
      obtain ⟨y17, h18, h⟩ := bind_inv h
      refine st0 1088 rfl (call_ok (v := .d (eU64 y17)) (u := []) (ar_d (eI (12 : Int)) (ar_to rfl (to_1 rfl (ds_r (ys := y15) rfl rfl rfl ds_nil)) ar_nil)) rfl (passkeyref1HashOK (12 : Int) y15 y17 h18) rfl) ?_
      refine st0 1152 rfl (ok (mv (.d (eU64 y17)))) ?_
      refine st0 1216 rfl (ok (mv (.d (eI (0 : Int))))) ?_
      refine hK10 _ _ ?_
      simp only [thenK, blockK, keepE, updM, List.filter_cons, List.filter_nil, List.nil_append, List.cons_append, List.map_cons, List.map_nil, envE, Mem.get, Nat.reduceEqDiff, reduceIte, Option.isNone_none, Option.isNone_some, Bool.false_eq_true, List.length_cons, List.length_nil, Nat.reduceAdd, Nat.reduceMul]
      refine hK9 _ _ _ ?_
      refine rwp_ret ?_
      obtain rfl := Option.some.inj h
      try simp only [thenK, blockK, reduceIte]
      exact end_ok trivial (rs_t (v := .d (eU64 y17)) rfl (rs_t (v := .d (eI (0 : Int))) rfl rs_nil)) (en_d (to_d _) (en_d (to_d _) en_nil)) ou_nil (by first | exact eok rfl rfl rfl rfl trivial | (refine eok ?_ ?_ ?_ ?_ ?_ <;> first | rfl | exact trivial | simp [retM, Mem.get, PV.renL, PV.ren, Blk.ren, comps, rhoR, rhoM, appN, PV.refsL, PV.refs, keys, nodupB, Blk.refs, allIn, Blk.bor]))
  · refine rwp_region fun K19 hK19 => ?_
    refine st0 256 rfl (ok (mv (.d (eU64 a1)))) ?_
    refine st0 320 rfl (ok (lss64 _ (2#64))) ?_
    refine st0 384 rfl (ok (mv (.d (eB (decide (a1.toNat < (2#64).toNat)))))) ?_
    rcases Bool.eq_false_or_eq_true ((decide (a1.toNat < (2#64).toNat))) with h20 | h20
    · replace h := ite_t h h20
      refine stGN 448 rfl rfl h20 ?_
      refine stGN 512 rfl rfl h20 ?_
      refine st0 576 rfl (ok (pick_t h20 (.d (eB true)) _)) ?_
      refine hK19 _ _ ?_
      simp only [thenK, blockK, keepE, updM, List.filter_cons, List.filter_nil, List.nil_append, List.cons_append, List.map_cons, List.map_nil, envE, Mem.get, Nat.reduceEqDiff, reduceIte, Option.isNone_none, Option.isNone_some, Bool.false_eq_true, List.length_cons, List.length_nil, Nat.reduceAdd, Nat.reduceMul]
      exact hK5 _ _ _ ⟨_, _, Settled.refl, _, _, ⟨_, h, rfl, rfl⟩, ⟨rfl, ⟨⟨rfl, rfl⟩, ⟨⟨rfl, rfl⟩, ⟨⟨rfl, rfl⟩, trivial⟩⟩⟩, trivial⟩, rfl⟩
    · replace h := ite_f h h20
      refine stG (isF h20) ?_
      refine st0 448 rfl (ok (mv (.d (eU64 a1)))) ?_
      refine stG (isF h20) ?_
      refine st0 512 rfl (ok (gtr64 _ (2305843009213693949#64))) ?_
      refine st0 576 rfl (ok (pick_f h20 _ (.d (eB (decide ((2305843009213693949#64).toNat < a1.toNat)))))) ?_
      refine hK19 _ _ ?_
      simp only [thenK, blockK, keepE, updM, List.filter_cons, List.filter_nil, List.nil_append, List.cons_append, List.map_cons, List.map_nil, envE, Mem.get, Nat.reduceEqDiff, reduceIte, Option.isNone_none, Option.isNone_some, Bool.false_eq_true, List.length_cons, List.length_nil, Nat.reduceAdd, Nat.reduceMul]
      exact hK5 _ _ _ ⟨_, _, Settled.refl, _, _, ⟨_, h, rfl, rfl⟩, ⟨rfl, ⟨⟨rfl, rfl⟩, ⟨⟨rfl, rfl⟩, ⟨⟨rfl, rfl⟩, trivial⟩⟩⟩, trivial⟩, rfl⟩

/-- passkey/exchange.Public -/
def exchangePublicH : Hints := ⟨[(0, [0]), (1, [2])], []⟩
def exchangePublicRc : RCode :=
  .seq (.region false [⟨some 2, .mv, [.k (.d (.int .u64 0))], none, []⟩] [0]) (.seq (.region false [⟨some 3, .mv, [.t 0], none, []⟩, ⟨some 4, .call 22 false, [.t 3], none, []⟩, ⟨some
  5, .call 12 false, [.k (.d (.int .u64 37)), .t 4], none, []⟩, ⟨some 2, .mv, [.t 5], none, []⟩] [2]) .ret)
def exchangePublicRr : List RR := [.t 2]
theorem exchangePublicC : compFn Try.prog 16 exchangePublicH = some (exchangePublicRc, exchangePublicRr, 6) := by kernel_rfl
theorem exchangePublicOK (a0 : BitVec 64) (res : BitVec 64) (h : exchangePublic a0 = some res) : CallOK Try.prog 16 [.d (eU64 a0)] [] (.d (eU64 res)) [] := by
  unfold exchangePublic at h
  refine callOK exchangePublicC fm rfl ?_
  simp only [initE, initM, nbor, List.map_cons, List.map_nil, Nat.reduceAdd]
  unfold exchangePublicRc
  refine rwp_seq fun K1 hK1 => ?_
  refine rwp_region fun K2 hK2 => ?_
  refine st0 128 rfl (ok (mv (.d (eU64 (0#64))))) ?_
  refine hK2 _ _ ?_
  simp only [thenK, blockK, keepE, updM, List.filter_cons, List.filter_nil, List.nil_append, List.cons_append, List.map_cons, List.map_nil, envE, Mem.get, Nat.reduceEqDiff, reduceIte, Option.isNone_none, Option.isNone_some, Bool.false_eq_true, List.length_cons, List.length_nil, Nat.reduceAdd, Nat.reduceMul]
  refine hK1 _ _ _ ?_
  refine rwp_seq fun K3 hK3 => ?_
  refine rwp_region fun K4 hK4 => ?_
  refine st0 192 rfl (ok (mv (.d (eU64 a0)))) ?_
  obtain ⟨y5, h6, h⟩ := bind_inv h
  refine st0 256 rfl (call_ok (v := .d (eU64 y5)) (u := []) (ar_d (eU64 a0) ar_nil) rfl (exchangeexponentOK a0 y5 h6) rfl) ?_
  obtain ⟨y7, h8, h⟩ := bind_inv h
  refine st0 320 rfl (call_ok (v := .d (eU64 y7)) (u := []) (ar_d (eU64 (37#64)) (ar_d (eU64 y5) ar_nil)) rfl (exchangePowerOK (37#64) y5 y7 h8) rfl) ?_
  refine st0 384 rfl (ok (mv (.d (eU64 y7)))) ?_
  refine hK4 _ _ ?_
  simp only [thenK, blockK, keepE, updM, List.filter_cons, List.filter_nil, List.nil_append, List.cons_append, List.map_cons, List.map_nil, envE, Mem.get, Nat.reduceEqDiff, reduceIte, Option.isNone_none, Option.isNone_some, Bool.false_eq_true, List.length_cons, List.length_nil, Nat.reduceAdd, Nat.reduceMul]
  refine hK3 _ _ _ ?_
  refine rwp_ret ?_
  obtain rfl := Option.some.inj h
  try simp only [thenK, blockK, reduceIte]
  exact end_ok trivial (rs_t (v := .d (eU64 y7)) rfl rs_nil) (en_d (to_d _) en_nil) ou_nil (by first | exact eok rfl rfl rfl rfl trivial | (refine eok ?_ ?_ ?_ ?_ ?_ <;> first | rfl | exact trivial | simp [retM, Mem.get, PV.renL, PV.ren, Blk.ren, comps, rhoR, rhoM, appN, PV.refsL, PV.refs, keys, nodupB, Blk.refs, allIn, Blk.bor]))

/-- passkey/passkeyref3.PublicWord -/
def passkeyref3PublicWordH : Hints := ⟨[(0, [0]), (1, [2])], []⟩
def passkeyref3PublicWordRc : RCode :=
  .seq (.region false [⟨some 2, .mv, [.k (.d (.int .u64 0))], none, []⟩] [0]) (.seq (.region false [⟨some 3, .mv, [.t 0], none, []⟩, ⟨some 4, .call 25 false, [.t 3], none, []⟩, ⟨some
  5, .call 13 false, [.k (.d (.int .u64 37)), .t 4], none, []⟩, ⟨some 2, .mv, [.t 5], none, []⟩] [2]) .ret)
def passkeyref3PublicWordRr : List RR := [.t 2]
theorem passkeyref3PublicWordC : compFn Try.prog 17 passkeyref3PublicWordH = some (passkeyref3PublicWordRc, passkeyref3PublicWordRr, 6) := by kernel_rfl
theorem passkeyref3PublicWordOK (a0 : BitVec 64) (res : BitVec 64) (h : passkeyref3PublicWord a0 = some res) : CallOK Try.prog 17 [.d (eU64 a0)] [] (.d (eU64 res)) [] := by
  unfold passkeyref3PublicWord at h
  refine callOK passkeyref3PublicWordC fm rfl ?_
  simp only [initE, initM, nbor, List.map_cons, List.map_nil, Nat.reduceAdd]
  unfold passkeyref3PublicWordRc
  refine rwp_seq fun K1 hK1 => ?_
  refine rwp_region fun K2 hK2 => ?_
  refine st0 128 rfl (ok (mv (.d (eU64 (0#64))))) ?_
  refine hK2 _ _ ?_
  simp only [thenK, blockK, keepE, updM, List.filter_cons, List.filter_nil, List.nil_append, List.cons_append, List.map_cons, List.map_nil, envE, Mem.get, Nat.reduceEqDiff, reduceIte, Option.isNone_none, Option.isNone_some, Bool.false_eq_true, List.length_cons, List.length_nil, Nat.reduceAdd, Nat.reduceMul]
  refine hK1 _ _ _ ?_
  refine rwp_seq fun K3 hK3 => ?_
  refine rwp_region fun K4 hK4 => ?_
  refine st0 192 rfl (ok (mv (.d (eU64 a0)))) ?_
  obtain ⟨y5, h6, h⟩ := bind_inv h
  refine st0 256 rfl (call_ok (v := .d (eU64 y5)) (u := []) (ar_d (eU64 a0) ar_nil) rfl (passkeyref3exponentOK a0 y5 h6) rfl) ?_
  obtain ⟨y7, h8, h⟩ := bind_inv h
  refine st0 320 rfl (call_ok (v := .d (eU64 y7)) (u := []) (ar_d (eU64 (37#64)) (ar_d (eU64 y5) ar_nil)) rfl (passkeyref3PowerOK (37#64) y5 y7 h8) rfl) ?_
  refine st0 384 rfl (ok (mv (.d (eU64 y7)))) ?_
  refine hK4 _ _ ?_
  simp only [thenK, blockK, keepE, updM, List.filter_cons, List.filter_nil, List.nil_append, List.cons_append, List.map_cons, List.map_nil, envE, Mem.get, Nat.reduceEqDiff, reduceIte, Option.isNone_none, Option.isNone_some, Bool.false_eq_true, List.length_cons, List.length_nil, Nat.reduceAdd, Nat.reduceMul]
  refine hK3 _ _ _ ?_
  refine rwp_ret ?_
  obtain rfl := Option.some.inj h
  try simp only [thenK, blockK, reduceIte]
  exact end_ok trivial (rs_t (v := .d (eU64 y7)) rfl rs_nil) (en_d (to_d _) en_nil) ou_nil (by first | exact eok rfl rfl rfl rfl trivial | (refine eok ?_ ?_ ?_ ?_ ?_ <;> first | rfl | exact trivial | simp [retM, Mem.get, PV.renL, PV.ren, Blk.ren, comps, rhoR, rhoM, appN, PV.refsL, PV.refs, keys, nodupB, Blk.refs, allIn, Blk.bor]))

/-- passkey/passkeylaw5.ExchangeShared -/
def passkeylaw5ExchangeSharedH : Hints := ⟨[(0, [0, 1, 2]), (1, [0, 1, 7]), (2, [0, 1, 7, 8, 9]), (3, [0, 7, 8, 9, 10, 11]), (4, [0, 7, 8, 9, 10, 11, 12, 13]), (5, [0, 8, 9, 10, 11, 12, 13, 14, 15]), (6, [6])], []⟩
def passkeylaw5ExchangeSharedRc : RCode :=
  .seq (.region false [⟨some 6, .mv, [.k (.d (.bool false))], none, []⟩] [0, 1, 2]) (.seq (.region false [⟨some 16, .bslice 1 false 7 [.d (.int .u64 0)] [0, 1, 2, 3, 4, 5, 6], [.k
  (.d (.int .u64 0)), .k (.d (.int .u64 1)), .k (.d (.int .u64 2)), .k (.d (.int .u64 2305843009213693949)), .k (.d (.int .u64 2305843009213693950)), .k (.d (.int .u64
  2305843009213693951)), .k (.d (.int .u64 18446744073709551615))], none, []⟩, ⟨some 17, .mv, [.t 2], none, []⟩, ⟨some 18, .bin .rem, [.t 17, .k (.d (.int .u8 7))], none, []⟩,
  ⟨some 19, .ia 1, [.t 16, .t 18], none, []⟩, ⟨some 20, .load 1 false, [.t 19], none, []⟩, ⟨some 7, .mv, [.t 20], none, []⟩] [0, 1, 7]) (.seq (.region false [⟨some 22, .mv, [.t 0],
  none, []⟩, ⟨some 23, .mv, [.t 1], none, []⟩, ⟨some 24, .call 14 false, [.t 22, .t 23], none, []⟩, ⟨some 21, .mv, [.t 24], none, []⟩, ⟨some 25, .ext 0, [.t 21], none, []⟩, ⟨some
  26, .ext 1, [.t 21], none, []⟩, ⟨some 8, .mv, [.t 25], none, []⟩, ⟨some 9, .mv, [.t 26], none, []⟩] [0, 1, 7, 8, 9]) (.seq (.region false [⟨some 28, .mv, [.t 0], none, []⟩, ⟨some
  29, .mv, [.t 1], none, []⟩, ⟨some 30, .call 15 false, [.t 28, .t 29], none, []⟩, ⟨some 27, .mv, [.t 30], none, []⟩, ⟨some 31, .ext 0, [.t 27], none, []⟩, ⟨some 32, .ext 1, [.t
  27], none, []⟩, ⟨some 10, .mv, [.t 31], none, []⟩, ⟨some 11, .mv, [.t 32], none, []⟩] [0, 7, 8, 9, 10, 11]) (.seq (.region false [⟨some 34, .mv, [.t 0], none, []⟩, ⟨some 35, .mv,
  [.t 7], none, []⟩, ⟨some 36, .call 14 false, [.t 34, .t 35], none, []⟩, ⟨some 33, .mv, [.t 36], none, []⟩, ⟨some 37, .ext 0, [.t 33], none, []⟩, ⟨some 38, .ext 1, [.t 33], none,
  []⟩, ⟨some 12, .mv, [.t 37], none, []⟩, ⟨some 13, .mv, [.t 38], none, []⟩] [0, 7, 8, 9, 10, 11, 12, 13]) (.seq (.region false [⟨some 40, .mv, [.t 0], none, []⟩, ⟨some 41, .mv,
  [.t 7], none, []⟩, ⟨some 42, .call 15 false, [.t 40, .t 41], none, []⟩, ⟨some 39, .mv, [.t 42], none, []⟩, ⟨some 43, .ext 0, [.t 39], none, []⟩, ⟨some 44, .ext 1, [.t 39], none,
  []⟩, ⟨some 14, .mv, [.t 43], none, []⟩, ⟨some 15, .mv, [.t 44], none, []⟩] [0, 8, 9, 10, 11, 12, 13, 14, 15]) (.seq (.region false [⟨some 45, .mv, [.t 0], none, []⟩, ⟨some 46,
  .call 16 false, [.t 45], none, []⟩, ⟨some 47, .mv, [.t 0], none, []⟩, ⟨some 48, .call 17 false, [.t 47], none, []⟩, ⟨some 49, .bin .eql, [.t 46, .t 48], none, []⟩, ⟨some 50, .mv,
  [.t 49], none, []⟩, ⟨some 51, .mv, [.t 8], some (50, true), []⟩, ⟨some 52, .mv, [.t 10], some (50, true), []⟩, ⟨some 53, .bin .eql, [.t 51, .t 52], some (50, true), []⟩, ⟨some
  54, .pick, [.t 50, .t 53, .k (.d (.bool false))], none, []⟩, ⟨some 55, .mv, [.t 54], none, []⟩, ⟨some 56, .mv, [.t 9], some (55, true), []⟩, ⟨some 57, .mv, [.t 11], some (55,
  true), []⟩, ⟨some 58, .bin .eql, [.t 56, .t 57], some (55, true), []⟩, ⟨some 59, .pick, [.t 55, .t 58, .k (.d (.bool false))], none, []⟩, ⟨some 60, .mv, [.t 59], none, []⟩, ⟨some
  61, .mv, [.t 12], some (60, true), []⟩, ⟨some 62, .mv, [.t 14], some (60, true), []⟩, ⟨some 63, .bin .eql, [.t 61, .t 62], some (60, true), []⟩, ⟨some 64, .pick, [.t 60, .t 63,
  .k (.d (.bool false))], none, []⟩, ⟨some 65, .mv, [.t 64], none, []⟩, ⟨some 66, .mv, [.t 13], some (65, true), []⟩, ⟨some 67, .mv, [.t 15], some (65, true), []⟩, ⟨some 68, .bin
  .eql, [.t 66, .t 67], some (65, true), []⟩, ⟨some 69, .pick, [.t 65, .t 68, .k (.d (.bool false))], none, []⟩, ⟨some 70, .mv, [.t 69], none, []⟩, ⟨some 71, .call 11 false, [],
  some (70, true), []⟩, ⟨some 72, .pick, [.t 70, .t 71, .k (.d (.bool false))], none, []⟩, ⟨some 6, .mv, [.t 72], none, []⟩] [6]) .ret))))))
def passkeylaw5ExchangeSharedRr : List RR := [.t 6]
theorem passkeylaw5ExchangeSharedC : compFn Try.prog 7 passkeylaw5ExchangeSharedH = some (passkeylaw5ExchangeSharedRc, passkeylaw5ExchangeSharedRr, 73) := by kernel_rfl
theorem passkeylaw5ExchangeSharedOK (a0 : BitVec 64) (a1 : BitVec 64) (a2 : BitVec 8) (res : Bool) (h : passkeylaw5ExchangeShared a0 a1 a2 = some res) : CallOK Try.prog 7 [.d (eU64 a0), .d (eU64 a1), .d (eU8 a2)] [] (.d (eB res)) [] := by
  unfold passkeylaw5ExchangeShared at h
  refine callOK passkeylaw5ExchangeSharedC fm rfl ?_
  simp only [initE, initM, nbor, List.map_cons, List.map_nil, Nat.reduceAdd]
  unfold passkeylaw5ExchangeSharedRc
  refine rwp_seq fun K1 hK1 => ?_
  refine rwp_region fun K2 hK2 => ?_
  refine st0 128 rfl (ok (mv (.d (eB false)))) ?_
  refine hK2 _ _ ?_
  simp only [thenK, blockK, keepE, updM, List.filter_cons, List.filter_nil, List.nil_append, List.cons_append, List.map_cons, List.map_nil, envE, Mem.get, Nat.reduceEqDiff, reduceIte, Option.isNone_none, Option.isNone_some, Bool.false_eq_true, List.length_cons, List.length_nil, Nat.reduceAdd, Nat.reduceMul]
  refine hK1 _ _ _ ?_
  refine rwp_seq fun K3 hK3 => ?_
  refine rwp_region fun K4 hK4 => ?_
  refine st1 192 rfl (mem' := [(128, .row true 1 (([(0#64), (1#64), (2#64), (2305843009213693949#64), (2305843009213693950#64), (2305843009213693951#64), (18446744073709551615#64)] : List (BitVec 64)).map eU64))]) (ok (bsl (e := eU64) (ys := ([(0#64), (1#64), (2#64), (2305843009213693949#64), (2305843009213693950#64), (2305843009213693951#64), (18446744073709551615#64)] : List (BitVec 64))) rfl rfl rfl)) rfl ?_
  refine st0 256 rfl (ok (mv (.d (eU8 a2)))) ?_
  refine st0 320 rfl (ok (rem8 _ (7#8) (by decide))) ?_
  obtain ⟨h5, h⟩ := asq_inv h
  refine st0 384 rfl (ok (iaR (xs := ([(0#64), (1#64), (2#64), (2305843009213693949#64), (2305843009213693950#64), (2305843009213693951#64), (18446744073709551615#64)] : List (BitVec 64))) (e := eU64) rfl rfl h5)) ?_
  refine st0 448 rfl (ok (ld_r (e := eU64) (xs := ([(0#64), (1#64), (2#64), (2305843009213693949#64), (2305843009213693950#64), (2305843009213693951#64), (18446744073709551615#64)] : List (BitVec 64))) 0#64 rfl rfl (by have := h5; simp at this ⊢; omega) rfl)) ?_
  refine st0 512 rfl (ok (mv (.d (eU64 (([(0#64), (1#64), (2#64), (2305843009213693949#64), (2305843009213693950#64), (2305843009213693951#64), (18446744073709551615#64)] : List (BitVec 64)).getD (0 + ((a2 % (7#8)).toNat : Int).toNat) 0#64))))) ?_
  refine hK4 _ _ ?_
  simp only [thenK, blockK, keepE, updM, List.filter_cons, List.filter_nil, List.nil_append, List.cons_append, List.map_cons, List.map_nil, envE, Mem.get, Nat.reduceEqDiff, reduceIte, Option.isNone_none, Option.isNone_some, Bool.false_eq_true, List.length_cons, List.length_nil, Nat.reduceAdd, Nat.reduceMul]
  refine hK3 _ _ _ ?_
  refine rwp_seq fun K6 hK6 => ?_
  refine rwp_region fun K7 hK7 => ?_
  refine st0 576 rfl (ok (mv (.d (eU64 a0)))) ?_
  refine st0 640 rfl (ok (mv (.d (eU64 a1)))) ?_
  obtain ⟨y8, h9, h⟩ := bind_inv h
  refine st0 704 rfl (call_ok (v := .tup [.d (eU64 y8.1), .d (eI y8.2)]) (u := []) (ar_d (eU64 a0) (ar_d (eU64 a1) ar_nil)) rfl (exchangeSharedOK a0 a1 y8 h9) rfl) ?_
  refine st0 768 rfl (ok (mv (.tup [.d (eU64 y8.1), .d (eI y8.2)]))) ?_
  refine st0 832 rfl (ok (extr (v := .d (eU64 y8.1)) rfl rfl)) ?_
  refine st0 896 rfl (ok (extr (v := .d (eI y8.2)) rfl rfl)) ?_
  refine st0 960 rfl (ok (mv (.d (eU64 y8.1)))) ?_
  refine st0 1024 rfl (ok (mv (.d (eI y8.2)))) ?_
  refine hK7 _ _ ?_
  simp only [thenK, blockK, keepE, updM, List.filter_cons, List.filter_nil, List.nil_append, List.cons_append, List.map_cons, List.map_nil, envE, Mem.get, Nat.reduceEqDiff, reduceIte, Option.isNone_none, Option.isNone_some, Bool.false_eq_true, List.length_cons, List.length_nil, Nat.reduceAdd, Nat.reduceMul]
  refine hK6 _ _ _ ?_
  refine rwp_seq fun K10 hK10 => ?_
  refine rwp_region fun K11 hK11 => ?_
  refine st0 1088 rfl (ok (mv (.d (eU64 a0)))) ?_
  refine st0 1152 rfl (ok (mv (.d (eU64 a1)))) ?_
  obtain ⟨y12, h13, h⟩ := bind_inv h
  refine st0 1216 rfl (call_ok (v := .tup [.d (eU64 y12.1), .d (eI y12.2)]) (u := []) (ar_d (eU64 a0) (ar_d (eU64 a1) ar_nil)) rfl (passkeyref3SharedOK a0 a1 y12 h13) rfl) ?_
  refine st0 1280 rfl (ok (mv (.tup [.d (eU64 y12.1), .d (eI y12.2)]))) ?_
  refine st0 1344 rfl (ok (extr (v := .d (eU64 y12.1)) rfl rfl)) ?_
  refine st0 1408 rfl (ok (extr (v := .d (eI y12.2)) rfl rfl)) ?_
  refine st0 1472 rfl (ok (mv (.d (eU64 y12.1)))) ?_
  refine st0 1536 rfl (ok (mv (.d (eI y12.2)))) ?_
  refine hK11 _ _ ?_
  simp only [thenK, blockK, keepE, updM, List.filter_cons, List.filter_nil, List.nil_append, List.cons_append, List.map_cons, List.map_nil, envE, Mem.get, Nat.reduceEqDiff, reduceIte, Option.isNone_none, Option.isNone_some, Bool.false_eq_true, List.length_cons, List.length_nil, Nat.reduceAdd, Nat.reduceMul]
  refine hK10 _ _ _ ?_
  refine rwp_seq fun K14 hK14 => ?_
  refine rwp_region fun K15 hK15 => ?_
  refine st0 1600 rfl (ok (mv (.d (eU64 a0)))) ?_
  refine st0 1664 rfl (ok (mv (.d (eU64 (([(0#64), (1#64), (2#64), (2305843009213693949#64), (2305843009213693950#64), (2305843009213693951#64), (18446744073709551615#64)] : List (BitVec 64)).getD (0 + ((a2 % (7#8)).toNat : Int).toNat) 0#64))))) ?_
  obtain ⟨y16, h17, h⟩ := bind_inv h
  refine st0 1728 rfl (call_ok (v := .tup [.d (eU64 y16.1), .d (eI y16.2)]) (u := []) (ar_d (eU64 a0) (ar_d (eU64 (([(0#64), (1#64), (2#64), (2305843009213693949#64), (2305843009213693950#64), (2305843009213693951#64), (18446744073709551615#64)] : List (BitVec 64)).getD (0 + ((a2 % (7#8)).toNat : Int).toNat) 0#64)) ar_nil)) rfl (exchangeSharedOK a0 (([(0#64), (1#64), (2#64), (2305843009213693949#64), (2305843009213693950#64), (2305843009213693951#64), (18446744073709551615#64)] : List (BitVec 64)).getD (0 + ((a2 % (7#8)).toNat : Int).toNat) 0#64) y16 h17) rfl) ?_
  refine st0 1792 rfl (ok (mv (.tup [.d (eU64 y16.1), .d (eI y16.2)]))) ?_
  refine st0 1856 rfl (ok (extr (v := .d (eU64 y16.1)) rfl rfl)) ?_
  refine st0 1920 rfl (ok (extr (v := .d (eI y16.2)) rfl rfl)) ?_
  refine st0 1984 rfl (ok (mv (.d (eU64 y16.1)))) ?_
  refine st0 2048 rfl (ok (mv (.d (eI y16.2)))) ?_
  refine hK15 _ _ ?_
  simp only [thenK, blockK, keepE, updM, List.filter_cons, List.filter_nil, List.nil_append, List.cons_append, List.map_cons, List.map_nil, envE, Mem.get, Nat.reduceEqDiff, reduceIte, Option.isNone_none, Option.isNone_some, Bool.false_eq_true, List.length_cons, List.length_nil, Nat.reduceAdd, Nat.reduceMul]
  refine hK14 _ _ _ ?_
  refine rwp_seq fun K18 hK18 => ?_
  refine rwp_region fun K19 hK19 => ?_
  refine st0 2112 rfl (ok (mv (.d (eU64 a0)))) ?_
  refine st0 2176 rfl (ok (mv (.d (eU64 (([(0#64), (1#64), (2#64), (2305843009213693949#64), (2305843009213693950#64), (2305843009213693951#64), (18446744073709551615#64)] : List (BitVec 64)).getD (0 + ((a2 % (7#8)).toNat : Int).toNat) 0#64))))) ?_
  obtain ⟨y20, h21, h⟩ := bind_inv h
  refine st0 2240 rfl (call_ok (v := .tup [.d (eU64 y20.1), .d (eI y20.2)]) (u := []) (ar_d (eU64 a0) (ar_d (eU64 (([(0#64), (1#64), (2#64), (2305843009213693949#64), (2305843009213693950#64), (2305843009213693951#64), (18446744073709551615#64)] : List (BitVec 64)).getD (0 + ((a2 % (7#8)).toNat : Int).toNat) 0#64)) ar_nil)) rfl (passkeyref3SharedOK a0 (([(0#64), (1#64), (2#64), (2305843009213693949#64), (2305843009213693950#64), (2305843009213693951#64), (18446744073709551615#64)] : List (BitVec 64)).getD (0 + ((a2 % (7#8)).toNat : Int).toNat) 0#64) y20 h21) rfl) ?_
  refine st0 2304 rfl (ok (mv (.tup [.d (eU64 y20.1), .d (eI y20.2)]))) ?_
  refine st0 2368 rfl (ok (extr (v := .d (eU64 y20.1)) rfl rfl)) ?_
  refine st0 2432 rfl (ok (extr (v := .d (eI y20.2)) rfl rfl)) ?_
  refine st0 2496 rfl (ok (mv (.d (eU64 y20.1)))) ?_
  refine st0 2560 rfl (ok (mv (.d (eI y20.2)))) ?_
  refine hK19 _ _ ?_
  simp only [thenK, blockK, keepE, updM, List.filter_cons, List.filter_nil, List.nil_append, List.cons_append, List.map_cons, List.map_nil, envE, Mem.get, Nat.reduceEqDiff, reduceIte, Option.isNone_none, Option.isNone_some, Bool.false_eq_true, List.length_cons, List.length_nil, Nat.reduceAdd, Nat.reduceMul]
  refine hK18 _ _ _ ?_
  refine rwp_seq fun K22 hK22 => ?_
  refine rwp_region fun K23 hK23 => ?_
  refine st0 2624 rfl (ok (mv (.d (eU64 a0)))) ?_
  obtain ⟨y24, h25, h⟩ := bind_inv h
  refine st0 2688 rfl (call_ok (v := .d (eU64 y24)) (u := []) (ar_d (eU64 a0) ar_nil) rfl (exchangePublicOK a0 y24 h25) rfl) ?_
  refine st0 2752 rfl (ok (mv (.d (eU64 a0)))) ?_
  obtain ⟨y26, h27, h⟩ := bind_inv h
  refine st0 2816 rfl (call_ok (v := .d (eU64 y26)) (u := []) (ar_d (eU64 a0) ar_nil) rfl (passkeyref3PublicWordOK a0 y26 h27) rfl) ?_
  refine st0 2880 rfl (ok (eql64 _ _)) ?_
  refine st0 2944 rfl (ok (mv (.d (eB (y24 == y26))))) ?_
  rcases Bool.eq_false_or_eq_true ((y24 == y26)) with h28 | h28
  · replace h := ite_t h h28
    refine stG (isT h28) ?_
    refine st0 3008 rfl (ok (mv (.d (eU64 y8.1)))) ?_
    refine stG (isT h28) ?_
    refine st0 3072 rfl (ok (mv (.d (eU64 y12.1)))) ?_
    refine stG (isT h28) ?_
    refine st0 3136 rfl (ok (eql64 _ _)) ?_
    refine st0 3200 rfl (ok (pick_t h28 (.d (eB (y8.1 == y12.1))) _)) ?_
    refine st0 3264 rfl (ok (mv (.d (eB (y8.1 == y12.1))))) ?_
    rcases Bool.eq_false_or_eq_true ((y8.1 == y12.1)) with h29 | h29
    · replace h := ite_t h h29
      refine stG (isT h29) ?_
      refine st0 3328 rfl (ok (mv (.d (eI y8.2)))) ?_
      refine stG (isT h29) ?_
      refine st0 3392 rfl (ok (mv (.d (eI y12.2)))) ?_
      refine stG (isT h29) ?_
      refine st0 3456 rfl (ok (eqlI _ _)) ?_
      refine st0 3520 rfl (ok (pick_t h29 (.d (eB (y8.2 == y12.2))) _)) ?_
      refine st0 3584 rfl (ok (mv (.d (eB (y8.2 == y12.2))))) ?_
      rcases Bool.eq_false_or_eq_true ((y8.2 == y12.2)) with h30 | h30
      · replace h := ite_t h h30
        refine stG (isT h30) ?_
        refine st0 3648 rfl (ok (mv (.d (eU64 y16.1)))) ?_
        refine stG (isT h30) ?_
        refine st0 3712 rfl (ok (mv (.d (eU64 y20.1)))) ?_
        refine stG (isT h30) ?_
        refine st0 3776 rfl (ok (eql64 _ _)) ?_
        refine st0 3840 rfl (ok (pick_t h30 (.d (eB (y16.1 == y20.1))) _)) ?_
        refine st0 3904 rfl (ok (mv (.d (eB (y16.1 == y20.1))))) ?_
        rcases Bool.eq_false_or_eq_true ((y16.1 == y20.1)) with h31 | h31
        · replace h := ite_t h h31
          refine stG (isT h31) ?_
          refine st0 3968 rfl (ok (mv (.d (eI y16.2)))) ?_
          refine stG (isT h31) ?_
          refine st0 4032 rfl (ok (mv (.d (eI y20.2)))) ?_
          refine stG (isT h31) ?_
          refine st0 4096 rfl (ok (eqlI _ _)) ?_
          refine st0 4160 rfl (ok (pick_t h31 (.d (eB (y16.2 == y20.2))) _)) ?_
          refine st0 4224 rfl (ok (mv (.d (eB (y16.2 == y20.2))))) ?_
          rcases Bool.eq_false_or_eq_true ((y16.2 == y20.2)) with h32 | h32
          · replace h := ite_t h h32
            refine stG (isT h32) ?_
            obtain ⟨y33, h34, h⟩ := bind_inv h
            refine st0 4288 rfl (call_ok (v := .d (eB y33)) (u := []) ar_nil rfl (passkeylaw5awakeOK  y33 h34) rfl) ?_
            refine st0 4352 rfl (ok (pick_t h32 (.d (eB y33)) _)) ?_
            refine st0 4416 rfl (ok (mv (.d (eB y33)))) ?_
            refine hK23 _ _ ?_
            simp only [thenK, blockK, keepE, updM, List.filter_cons, List.filter_nil, List.nil_append, List.cons_append, List.map_cons, List.map_nil, envE, Mem.get, Nat.reduceEqDiff, reduceIte, Option.isNone_none, Option.isNone_some, Bool.false_eq_true, List.length_cons, List.length_nil, Nat.reduceAdd, Nat.reduceMul]
            refine hK22 _ _ _ ?_
            refine rwp_ret ?_
            obtain rfl := Option.some.inj h
            try simp only [thenK, blockK, reduceIte]
            exact end_ok trivial (rs_t (v := .d (eB y33)) rfl rs_nil) (en_d (to_d _) en_nil) ou_nil (by first | exact eok rfl rfl rfl rfl trivial | (refine eok ?_ ?_ ?_ ?_ ?_ <;> first | rfl | exact trivial | simp [retM, Mem.get, PV.renL, PV.ren, Blk.ren, comps, rhoR, rhoM, appN, PV.refsL, PV.refs, keys, nodupB, Blk.refs, allIn, Blk.bor]))
          · replace h := ite_f h h32
            refine stGN 4288 rfl rfl h32 ?_
            refine st0 4352 rfl (ok (pick_f h32 _ (.d (eB false)))) ?_
            refine st0 4416 rfl (ok (mv (.d (eB false)))) ?_
            refine hK23 _ _ ?_
            simp only [thenK, blockK, keepE, updM, List.filter_cons, List.filter_nil, List.nil_append, List.cons_append, List.map_cons, List.map_nil, envE, Mem.get, Nat.reduceEqDiff, reduceIte, Option.isNone_none, Option.isNone_some, Bool.false_eq_true, List.length_cons, List.length_nil, Nat.reduceAdd, Nat.reduceMul]
            refine hK22 _ _ _ ?_
            refine rwp_ret ?_
            obtain rfl := Option.some.inj h
            try simp only [thenK, blockK, reduceIte]
            exact end_ok trivial (rs_t (v := .d (eB false)) rfl rs_nil) (en_d (to_d _) en_nil) ou_nil (by first | exact eok rfl rfl rfl rfl trivial | (refine eok ?_ ?_ ?_ ?_ ?_ <;> first | rfl | exact trivial | simp [retM, Mem.get, PV.renL, PV.ren, Blk.ren, comps, rhoR, rhoM, appN, PV.refsL, PV.refs, keys, nodupB, Blk.refs, allIn, Blk.bor]))
        · replace h := ite_f h h31
          refine stGN 3968 rfl rfl h31 ?_
          refine stGN 4032 rfl rfl h31 ?_
          refine stGN 4096 rfl rfl h31 ?_
          refine st0 4160 rfl (ok (pick_f h31 _ (.d (eB false)))) ?_
          refine st0 4224 rfl (ok (mv (.d (eB false)))) ?_
          refine stGN 4288 rfl rfl rfl ?_
          refine st0 4352 rfl (ok (pick_f rfl _ (.d (eB false)))) ?_
          refine st0 4416 rfl (ok (mv (.d (eB false)))) ?_
          refine hK23 _ _ ?_
          simp only [thenK, blockK, keepE, updM, List.filter_cons, List.filter_nil, List.nil_append, List.cons_append, List.map_cons, List.map_nil, envE, Mem.get, Nat.reduceEqDiff, reduceIte, Option.isNone_none, Option.isNone_some, Bool.false_eq_true, List.length_cons, List.length_nil, Nat.reduceAdd, Nat.reduceMul]
          refine hK22 _ _ _ ?_
          refine rwp_ret ?_
          obtain rfl := Option.some.inj h
          try simp only [thenK, blockK, reduceIte]
          exact end_ok trivial (rs_t (v := .d (eB false)) rfl rs_nil) (en_d (to_d _) en_nil) ou_nil (by first | exact eok rfl rfl rfl rfl trivial | (refine eok ?_ ?_ ?_ ?_ ?_ <;> first | rfl | exact trivial | simp [retM, Mem.get, PV.renL, PV.ren, Blk.ren, comps, rhoR, rhoM, appN, PV.refsL, PV.refs, keys, nodupB, Blk.refs, allIn, Blk.bor]))
      · replace h := ite_f h h30
        refine stGN 3648 rfl rfl h30 ?_
        refine stGN 3712 rfl rfl h30 ?_
        refine stGN 3776 rfl rfl h30 ?_
        refine st0 3840 rfl (ok (pick_f h30 _ (.d (eB false)))) ?_
        refine st0 3904 rfl (ok (mv (.d (eB false)))) ?_
        refine stGN 3968 rfl rfl rfl ?_
        refine stGN 4032 rfl rfl rfl ?_
        refine stGN 4096 rfl rfl rfl ?_
        refine st0 4160 rfl (ok (pick_f rfl _ (.d (eB false)))) ?_
        refine st0 4224 rfl (ok (mv (.d (eB false)))) ?_
        refine stGN 4288 rfl rfl rfl ?_
        refine st0 4352 rfl (ok (pick_f rfl _ (.d (eB false)))) ?_
        refine st0 4416 rfl (ok (mv (.d (eB false)))) ?_
        refine hK23 _ _ ?_
        simp only [thenK, blockK, keepE, updM, List.filter_cons, List.filter_nil, List.nil_append, List.cons_append, List.map_cons, List.map_nil, envE, Mem.get, Nat.reduceEqDiff, reduceIte, Option.isNone_none, Option.isNone_some, Bool.false_eq_true, List.length_cons, List.length_nil, Nat.reduceAdd, Nat.reduceMul]
        refine hK22 _ _ _ ?_
        refine rwp_ret ?_
        obtain rfl := Option.some.inj h
        try simp only [thenK, blockK, reduceIte]
        exact end_ok trivial (rs_t (v := .d (eB false)) rfl rs_nil) (en_d (to_d _) en_nil) ou_nil (by first | exact eok rfl rfl rfl rfl trivial | (refine eok ?_ ?_ ?_ ?_ ?_ <;> first | rfl | exact trivial | simp [retM, Mem.get, PV.renL, PV.ren, Blk.ren, comps, rhoR, rhoM, appN, PV.refsL, PV.refs, keys, nodupB, Blk.refs, allIn, Blk.bor]))
    · replace h := ite_f h h29
      refine stGN 3328 rfl rfl h29 ?_
      refine stGN 3392 rfl rfl h29 ?_
      refine stGN 3456 rfl rfl h29 ?_
      refine st0 3520 rfl (ok (pick_f h29 _ (.d (eB false)))) ?_
      refine st0 3584 rfl (ok (mv (.d (eB false)))) ?_
      refine stGN 3648 rfl rfl rfl ?_
      refine stGN 3712 rfl rfl rfl ?_
      refine stGN 3776 rfl rfl rfl ?_
      refine st0 3840 rfl (ok (pick_f rfl _ (.d (eB false)))) ?_
      refine st0 3904 rfl (ok (mv (.d (eB false)))) ?_
      refine stGN 3968 rfl rfl rfl ?_
      refine stGN 4032 rfl rfl rfl ?_
      refine stGN 4096 rfl rfl rfl ?_
      refine st0 4160 rfl (ok (pick_f rfl _ (.d (eB false)))) ?_
      refine st0 4224 rfl (ok (mv (.d (eB false)))) ?_
      refine stGN 4288 rfl rfl rfl ?_
      refine st0 4352 rfl (ok (pick_f rfl _ (.d (eB false)))) ?_
      refine st0 4416 rfl (ok (mv (.d (eB false)))) ?_
      refine hK23 _ _ ?_
      simp only [thenK, blockK, keepE, updM, List.filter_cons, List.filter_nil, List.nil_append, List.cons_append, List.map_cons, List.map_nil, envE, Mem.get, Nat.reduceEqDiff, reduceIte, Option.isNone_none, Option.isNone_some, Bool.false_eq_true, List.length_cons, List.length_nil, Nat.reduceAdd, Nat.reduceMul]
      refine hK22 _ _ _ ?_
      refine rwp_ret ?_
      obtain rfl := Option.some.inj h
      try simp only [thenK, blockK, reduceIte]
      exact end_ok trivial (rs_t (v := .d (eB false)) rfl rs_nil) (en_d (to_d _) en_nil) ou_nil (by first | exact eok rfl rfl rfl rfl trivial | (refine eok ?_ ?_ ?_ ?_ ?_ <;> first | rfl | exact trivial | simp [retM, Mem.get, PV.renL, PV.ren, Blk.ren, comps, rhoR, rhoM, appN, PV.refsL, PV.refs, keys, nodupB, Blk.refs, allIn, Blk.bor]))
  · replace h := ite_f h h28
    refine stGN 3008 rfl rfl h28 ?_
    refine stGN 3072 rfl rfl h28 ?_
    refine stGN 3136 rfl rfl h28 ?_
    refine st0 3200 rfl (ok (pick_f h28 _ (.d (eB false)))) ?_
    refine st0 3264 rfl (ok (mv (.d (eB false)))) ?_
    refine stGN 3328 rfl rfl rfl ?_
    refine stGN 3392 rfl rfl rfl ?_
    refine stGN 3456 rfl rfl rfl ?_
    refine st0 3520 rfl (ok (pick_f rfl _ (.d (eB false)))) ?_
    refine st0 3584 rfl (ok (mv (.d (eB false)))) ?_
    refine stGN 3648 rfl rfl rfl ?_
    refine stGN 3712 rfl rfl rfl ?_
    refine stGN 3776 rfl rfl rfl ?_
    refine st0 3840 rfl (ok (pick_f rfl _ (.d (eB false)))) ?_
    refine st0 3904 rfl (ok (mv (.d (eB false)))) ?_
    refine stGN 3968 rfl rfl rfl ?_
    refine stGN 4032 rfl rfl rfl ?_
    refine stGN 4096 rfl rfl rfl ?_
    refine st0 4160 rfl (ok (pick_f rfl _ (.d (eB false)))) ?_
    refine st0 4224 rfl (ok (mv (.d (eB false)))) ?_
    refine stGN 4288 rfl rfl rfl ?_
    refine st0 4352 rfl (ok (pick_f rfl _ (.d (eB false)))) ?_
    refine st0 4416 rfl (ok (mv (.d (eB false)))) ?_
    refine hK23 _ _ ?_
    simp only [thenK, blockK, keepE, updM, List.filter_cons, List.filter_nil, List.nil_append, List.cons_append, List.map_cons, List.map_nil, envE, Mem.get, Nat.reduceEqDiff, reduceIte, Option.isNone_none, Option.isNone_some, Bool.false_eq_true, List.length_cons, List.length_nil, Nat.reduceAdd, Nat.reduceMul]
    refine hK22 _ _ _ ?_
    refine rwp_ret ?_
    obtain rfl := Option.some.inj h
    try simp only [thenK, blockK, reduceIte]
    exact end_ok trivial (rs_t (v := .d (eB false)) rfl rs_nil) (en_d (to_d _) en_nil) ou_nil (by first | exact eok rfl rfl rfl rfl trivial | (refine eok ?_ ?_ ?_ ?_ ?_ <;> first | rfl | exact trivial | simp [retM, Mem.get, PV.renL, PV.ren, Blk.ren, comps, rhoR, rhoM, appN, PV.refsL, PV.refs, keys, nodupB, Blk.refs, allIn, Blk.bor]))

end Go.Proofs.Ty
