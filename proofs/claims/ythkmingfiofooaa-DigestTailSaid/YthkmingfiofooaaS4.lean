/- Each Go function comes to what its plain function says. PRINTED by a program of this session (ty.py). -/
import Derived.Test.YthkmingfiofooaaS3
set_option linter.unusedVariables false
set_option linter.unusedSimpArgs false
set_option maxHeartbeats 4000000
set_option maxRecDepth 10000
namespace Go.Proofs.Ty
open Go Go.RW Go.Proofs
/-- passkey/digest.Derive -/
def digestDeriveH : Hints := ⟨[(0, [0, 1, 2]), (1, [6])], []⟩
def digestDeriveRc : RCode :=
  .seq (.region false [⟨some 6, .mv, [.k (.d (.int .u64 0))], none, []⟩] [0, 1, 2]) (.seq (.region false [⟨some 7, .mv, [.t 0], none, []⟩, ⟨some 8, .mv, [.t 1], none, []⟩, ⟨some 9,
  .s2b, [.t 8], none, []⟩, ⟨some 10, .bslice 1 false 1 [.d (.int .u8 0)] [0], [.k (.d (.int .u8 0))], none, []⟩, ⟨some 11, .app 1 140737488355328, [.t 9, .t 10], none, []⟩, ⟨some
  12, .mv, [.t 2], none, []⟩, ⟨some 13, .cvt .u64, [.t 12], none, []⟩, ⟨some 14, .bslice 1 false 1 [.d (.int .u64 0)] [0], [.t 13], none, []⟩, ⟨some 15, .call 10 true, [.t 14],
  none, []⟩, ⟨some 16, .app 1 140737488355328, [.t 11, .t 15], none, []⟩, ⟨some 17, .call 12 false, [.t 7, .k (.d (.int .i64 4)), .t 16], none, []⟩, ⟨some 6, .mv, [.t 17], none,
  []⟩] [6]) .ret)
def digestDeriveRr : List RR := [.t 6]
theorem digestDeriveC : compFn Try.prog 15 digestDeriveH = some (digestDeriveRc, digestDeriveRr, 18) := by kernel_rfl
theorem digestDeriveOK (a0 : BitVec 64) (a1 : List (BitVec 8)) (a2 : Int) (res : BitVec 64) (h : digestDerive a0 a1 a2 = some res) : CallOK Try.prog 15 [.d (eU64 a0), .d (eS a1), .d (eI a2)] [] (.d (eU64 res)) [] := by
  unfold digestDerive at h
  refine callOK digestDeriveC fm rfl ?_
  simp only [initE, initM, nbor, List.map_cons, List.map_nil, Nat.reduceAdd]
  unfold digestDeriveRc
  refine rwp_seq fun K1 hK1 => ?_
  refine rwp_region fun K2 hK2 => ?_
  refine st0 128 rfl (ok (mv (.d (eU64 0#64)))) ?_
  refine hK2 _ _ ?_
  simp only [thenK, blockK, keepE, updM, List.filter_cons, List.filter_nil, List.nil_append, List.cons_append, List.map_cons, List.map_nil, envE, Mem.get, Nat.reduceEqDiff, reduceIte, Option.isNone_none, Option.isNone_some, Bool.false_eq_true, List.length_cons, List.length_nil, Nat.reduceAdd, Nat.reduceMul]
  refine hK1 _ _ _ ?_
  refine rwp_seq fun K3 hK3 => ?_
  refine rwp_region fun K4 hK4 => ?_
  refine st0 192 rfl (ok (mv (.d (eU64 a0)))) ?_
  refine st0 256 rfl (ok (mv (.d (eS a1)))) ?_
  refine st1 320 rfl (mem' := [(256, .row true 1 (a1.map eU8))]) (ok (s2b _)) rfl ?_
  refine st1 384 rfl (mem' := [(320, .row true 1 (([0#8] : List (BitVec 8)).map eU8)), (256, .row true 1 (a1.map eU8))]) (ok (bsl (e := eU8) (ys := ([0#8] : List (BitVec 8))) rfl rfl rfl)) rfl ?_
  obtain ⟨h5, h⟩ := asq_inv h
  refine st1 448 rfl (mem' := [(256, .row true 1 ((a1 ++ ([0#8] : List (BitVec 8))).map eU8)), (320, .row true 1 (([0#8] : List (BitVec 8)).map eU8))]) (ok (appR (e := eU8) (xs := a1) (ys := ([0#8] : List (BitVec 8))) (contR (xs := ([0#8] : List (BitVec 8))) rfl rfl rfl) rfl rfl rfl h5)) rfl ?_
  refine st0 512 rfl (ok (mv (.d (eI a2)))) ?_
  refine st0 576 rfl (ok (ofI64 _ a2)) ?_
  refine st1 640 rfl (mem' := [(576, .row true 1 (([(BitVec.ofInt 64 a2)] : List (BitVec 64)).map eU64)), (256, .row true 1 ((a1 ++ ([0#8] : List (BitVec 8))).map eU8)), (320, .row true 1 (([0#8] : List (BitVec 8)).map eU8))]) (ok (bsl (e := eU64) (ys := ([(BitVec.ofInt 64 a2)] : List (BitVec 64))) rfl rfl rfl)) rfl ?_
  obtain ⟨y6, h7, h⟩ := bind_inv h
  refine st1 704 rfl (mem' := [(640, .row true 1 (y6.map eU8)), (576, .row false 1 (([(BitVec.ofInt 64 a2)] : List (BitVec 64)).map eU64)), (256, .row true 1 ((a1 ++ ([0#8] : List (BitVec 8))).map eU8)), (320, .row true 1 (([0#8] : List (BitVec 8)).map eU8))]) (call_ok (v := .ref 640 y6.length 0 y6.length) (u := [(640, .row true 1 (y6.map eU8)), (576, .row false 1 (([(BitVec.ofInt 64 a2)] : List (BitVec 64)).map eU64))]) (ar_to rfl (to_1 rfl (ds_r (ys := ([(BitVec.ofInt 64 a2)] : List (BitVec 64))) rfl rfl rfl ds_nil)) ar_nil) rfl (digestWordsOK ([(BitVec.ofInt 64 a2)] : List (BitVec 64)) y6 h7) rfl) rfl ?_
  obtain ⟨h8, h⟩ := asq_inv h
  refine st1 768 rfl (mem' := [(256, .row true 1 (((a1 ++ ([0#8] : List (BitVec 8))) ++ y6).map eU8)), (640, .row true 1 (y6.map eU8)), (576, .row false 1 (([(BitVec.ofInt 64 a2)] : List (BitVec 64)).map eU64)), (320, .row true 1 (([0#8] : List (BitVec 8)).map eU8))]) (ok (appR (e := eU8) (xs := (a1 ++ ([0#8] : List (BitVec 8)))) (ys := y6) (contR (xs := y6) rfl rfl rfl) rfl rfl rfl h8)) rfl ?_
  obtain ⟨y9, h10, h⟩ := bind_inv h
  refine st0 832 rfl (call_ok (v := .d (eU64 y9)) (u := []) (ar_d (eU64 a0) (ar_d (eI (4 : Int)) (ar_to rfl (to_1 rfl (ds_r (ys := ((a1 ++ ([0#8] : List (BitVec 8))) ++ y6)) rfl rfl rfl ds_nil)) ar_nil))) rfl (digestMacOK a0 (4 : Int) ((a1 ++ ([0#8] : List (BitVec 8))) ++ y6) y9 h10) rfl) ?_
  refine st0 896 rfl (ok (mv (.d (eU64 y9)))) ?_
  refine hK4 _ _ ?_
  simp only [thenK, blockK, keepE, updM, List.filter_cons, List.filter_nil, List.nil_append, List.cons_append, List.map_cons, List.map_nil, envE, Mem.get, Nat.reduceEqDiff, reduceIte, Option.isNone_none, Option.isNone_some, Bool.false_eq_true, List.length_cons, List.length_nil, Nat.reduceAdd, Nat.reduceMul]
  refine hK3 _ _ _ ?_
  refine rwp_ret ?_
  obtain rfl := Option.some.inj h
  try simp only [thenK, blockK, reduceIte]
  exact end_ok trivial (rs_t (v := .d (eU64 y9)) rfl rs_nil) (en_d (to_d _) en_nil) ou_nil (by first | exact eok rfl rfl rfl rfl trivial | (refine eok ?_ ?_ ?_ ?_ ?_ <;> first | rfl | exact trivial | simp [retM, Mem.get, PV.renL, PV.ren, Blk.ren, comps, rhoR, rhoM, appN, PV.refsL, PV.refs, keys, nodupB, Blk.refs, allIn, Blk.bor]))

/-- passkey/passkeyref1.Derive -/
def passkeyref1DeriveH : Hints := ⟨[(0, [0, 1, 2]), (1, [6])], []⟩
def passkeyref1DeriveRc : RCode :=
  .seq (.region false [⟨some 6, .mv, [.k (.d (.int .u64 0))], none, []⟩] [0, 1, 2]) (.seq (.region false [⟨some 7, .mv, [.t 0], none, []⟩, ⟨some 8, .mv, [.t 1], none, []⟩, ⟨some 9,
  .s2b, [.t 8], none, []⟩, ⟨some 10, .bslice 1 false 1 [.d (.int .u8 0)] [0], [.k (.d (.int .u8 0))], none, []⟩, ⟨some 11, .app 1 140737488355328, [.t 9, .t 10], none, []⟩, ⟨some
  12, .mv, [.t 2], none, []⟩, ⟨some 13, .cvt .u64, [.t 12], none, []⟩, ⟨some 14, .bslice 1 false 1 [.d (.int .u64 0)] [0], [.t 13], none, []⟩, ⟨some 15, .call 11 true, [.t 14],
  none, []⟩, ⟨some 16, .app 1 140737488355328, [.t 11, .t 15], none, []⟩, ⟨some 17, .call 13 false, [.t 7, .k (.d (.int .i64 4)), .t 16], none, []⟩, ⟨some 6, .mv, [.t 17], none,
  []⟩] [6]) .ret)
def passkeyref1DeriveRr : List RR := [.t 6]
theorem passkeyref1DeriveC : compFn Try.prog 16 passkeyref1DeriveH = some (passkeyref1DeriveRc, passkeyref1DeriveRr, 18) := by kernel_rfl
theorem passkeyref1DeriveOK (a0 : BitVec 64) (a1 : List (BitVec 8)) (a2 : Int) (res : BitVec 64) (h : passkeyref1Derive a0 a1 a2 = some res) : CallOK Try.prog 16 [.d (eU64 a0), .d (eS a1), .d (eI a2)] [] (.d (eU64 res)) [] := by
  unfold passkeyref1Derive at h
  refine callOK passkeyref1DeriveC fm rfl ?_
  simp only [initE, initM, nbor, List.map_cons, List.map_nil, Nat.reduceAdd]
  unfold passkeyref1DeriveRc
  refine rwp_seq fun K1 hK1 => ?_
  refine rwp_region fun K2 hK2 => ?_
  refine st0 128 rfl (ok (mv (.d (eU64 0#64)))) ?_
  refine hK2 _ _ ?_
  simp only [thenK, blockK, keepE, updM, List.filter_cons, List.filter_nil, List.nil_append, List.cons_append, List.map_cons, List.map_nil, envE, Mem.get, Nat.reduceEqDiff, reduceIte, Option.isNone_none, Option.isNone_some, Bool.false_eq_true, List.length_cons, List.length_nil, Nat.reduceAdd, Nat.reduceMul]
  refine hK1 _ _ _ ?_
  refine rwp_seq fun K3 hK3 => ?_
  refine rwp_region fun K4 hK4 => ?_
  refine st0 192 rfl (ok (mv (.d (eU64 a0)))) ?_
  refine st0 256 rfl (ok (mv (.d (eS a1)))) ?_
  refine st1 320 rfl (mem' := [(256, .row true 1 (a1.map eU8))]) (ok (s2b _)) rfl ?_
  refine st1 384 rfl (mem' := [(320, .row true 1 (([0#8] : List (BitVec 8)).map eU8)), (256, .row true 1 (a1.map eU8))]) (ok (bsl (e := eU8) (ys := ([0#8] : List (BitVec 8))) rfl rfl rfl)) rfl ?_
  obtain ⟨h5, h⟩ := asq_inv h
  refine st1 448 rfl (mem' := [(256, .row true 1 ((a1 ++ ([0#8] : List (BitVec 8))).map eU8)), (320, .row true 1 (([0#8] : List (BitVec 8)).map eU8))]) (ok (appR (e := eU8) (xs := a1) (ys := ([0#8] : List (BitVec 8))) (contR (xs := ([0#8] : List (BitVec 8))) rfl rfl rfl) rfl rfl rfl h5)) rfl ?_
  refine st0 512 rfl (ok (mv (.d (eI a2)))) ?_
  refine st0 576 rfl (ok (ofI64 _ a2)) ?_
  refine st1 640 rfl (mem' := [(576, .row true 1 (([(BitVec.ofInt 64 a2)] : List (BitVec 64)).map eU64)), (256, .row true 1 ((a1 ++ ([0#8] : List (BitVec 8))).map eU8)), (320, .row true 1 (([0#8] : List (BitVec 8)).map eU8))]) (ok (bsl (e := eU64) (ys := ([(BitVec.ofInt 64 a2)] : List (BitVec 64))) rfl rfl rfl)) rfl ?_
  obtain ⟨y6, h7, h⟩ := bind_inv h
  refine st1 704 rfl (mem' := [(640, .row true 1 (y6.map eU8)), (576, .row false 1 (([(BitVec.ofInt 64 a2)] : List (BitVec 64)).map eU64)), (256, .row true 1 ((a1 ++ ([0#8] : List (BitVec 8))).map eU8)), (320, .row true 1 (([0#8] : List (BitVec 8)).map eU8))]) (call_ok (v := .ref 640 y6.length 0 y6.length) (u := [(640, .row true 1 (y6.map eU8)), (576, .row false 1 (([(BitVec.ofInt 64 a2)] : List (BitVec 64)).map eU64))]) (ar_to rfl (to_1 rfl (ds_r (ys := ([(BitVec.ofInt 64 a2)] : List (BitVec 64))) rfl rfl rfl ds_nil)) ar_nil) rfl (passkeyref1WordsOK ([(BitVec.ofInt 64 a2)] : List (BitVec 64)) y6 h7) rfl) rfl ?_
  obtain ⟨h8, h⟩ := asq_inv h
  refine st1 768 rfl (mem' := [(256, .row true 1 (((a1 ++ ([0#8] : List (BitVec 8))) ++ y6).map eU8)), (640, .row true 1 (y6.map eU8)), (576, .row false 1 (([(BitVec.ofInt 64 a2)] : List (BitVec 64)).map eU64)), (320, .row true 1 (([0#8] : List (BitVec 8)).map eU8))]) (ok (appR (e := eU8) (xs := (a1 ++ ([0#8] : List (BitVec 8)))) (ys := y6) (contR (xs := y6) rfl rfl rfl) rfl rfl rfl h8)) rfl ?_
  obtain ⟨y9, h10, h⟩ := bind_inv h
  refine st0 832 rfl (call_ok (v := .d (eU64 y9)) (u := []) (ar_d (eU64 a0) (ar_d (eI (4 : Int)) (ar_to rfl (to_1 rfl (ds_r (ys := ((a1 ++ ([0#8] : List (BitVec 8))) ++ y6)) rfl rfl rfl ds_nil)) ar_nil))) rfl (passkeyref1MacOK a0 (4 : Int) ((a1 ++ ([0#8] : List (BitVec 8))) ++ y6) y9 h10) rfl) ?_
  refine st0 896 rfl (ok (mv (.d (eU64 y9)))) ?_
  refine hK4 _ _ ?_
  simp only [thenK, blockK, keepE, updM, List.filter_cons, List.filter_nil, List.nil_append, List.cons_append, List.map_cons, List.map_nil, envE, Mem.get, Nat.reduceEqDiff, reduceIte, Option.isNone_none, Option.isNone_some, Bool.false_eq_true, List.length_cons, List.length_nil, Nat.reduceAdd, Nat.reduceMul]
  refine hK3 _ _ _ ?_
  refine rwp_ret ?_
  obtain rfl := Option.some.inj h
  try simp only [thenK, blockK, reduceIte]
  exact end_ok trivial (rs_t (v := .d (eU64 y9)) rfl rs_nil) (en_d (to_d _) en_nil) ou_nil (by first | exact eok rfl rfl rfl rfl trivial | (refine eok ?_ ?_ ?_ ?_ ?_ <;> first | rfl | exact trivial | simp [retM, Mem.get, PV.renL, PV.ren, Blk.ren, comps, rhoR, rhoM, appN, PV.refsL, PV.refs, keys, nodupB, Blk.refs, allIn, Blk.bor]))

/-- passkey/passkeylaw2.DigestUses -/
def passkeylaw2DigestUsesH : Hints := ⟨[(0, [0, 1, 2, 3, 4]), (1, [0, 1, 2, 3, 4, 18]), (2, [10]), (3, [10])], []⟩
def passkeylaw2DigestUsesRc : RCode :=
  .seq (.region false [⟨some 10, .mv, [.k (.d (.bool false))], none, []⟩] [0, 1, 2, 3, 4]) (.seq (.seq (.region false [⟨some 11, .mv, [.t 2], none, []⟩, ⟨some 12, .len, [.t 11],
  none, []⟩, ⟨some 13, .bin .gtr, [.t 12, .k (.d (.int .i64 1000))], none, []⟩, ⟨some 14, .mv, [.t 13], none, []⟩, ⟨some 15, .mv, [.t 3], some (14, false), []⟩, ⟨some 16, .lens,
  [.t 15], some (14, false), []⟩, ⟨some 17, .bin .gtr, [.t 16, .k (.d (.int .i64 300))], some (14, false), []⟩, ⟨some 18, .pick, [.t 14, .k (.d (.bool true)), .t 17], none, []⟩]
  [0, 1, 2, 3, 4, 18]) (.cond (.t 18) (.seq (.region false [⟨some 19, .call 7 false, [], none, []⟩, ⟨some 10, .mv, [.t 19], none, []⟩] [10]) .ret) .skip)) (.seq (.region false
  [⟨some 20, .mv, [.t 1], none, []⟩, ⟨some 21, .mv, [.t 2], none, []⟩, ⟨some 22, .call 14 false, [.t 20, .t 21], none, []⟩, ⟨some 23, .mv, [.t 1], none, []⟩, ⟨some 24, .cvt .u64,
  [.t 23], none, []⟩, ⟨some 25, .mv, [.t 2], none, []⟩, ⟨some 26, .call 8 false, [.t 24, .k (.d (.int .u64 0)), .t 25], none, []⟩, ⟨some 27, .bin .eql, [.t 22, .t 26], none, []⟩,
  ⟨some 28, .mv, [.t 27], none, []⟩, ⟨some 29, .mv, [.t 0], some (28, true), []⟩, ⟨some 30, .mv, [.t 1], some (28, true), []⟩, ⟨some 31, .mv, [.t 2], some (28, true), []⟩, ⟨some
  32, .call 12 false, [.t 29, .t 30, .t 31], some (28, true), []⟩, ⟨some 33, .mv, [.t 0], some (28, true), []⟩, ⟨some 34, .mv, [.t 1], some (28, true), []⟩, ⟨some 35, .cvt .u64,
  [.t 34], some (28, true), []⟩, ⟨some 36, .bin .add, [.k (.d (.int .u64 1)), .t 35], some (28, true), []⟩, ⟨some 37, .mv, [.t 2], some (28, true), []⟩, ⟨some 38, .call 8 false,
  [.t 33, .t 36, .t 37], some (28, true), []⟩, ⟨some 39, .bin .eql, [.t 32, .t 38], some (28, true), []⟩, ⟨some 40, .pick, [.t 28, .t 39, .k (.d (.bool false))], none, []⟩, ⟨some
  41, .mv, [.t 40], none, []⟩, ⟨some 42, .mv, [.t 0], some (41, true), []⟩, ⟨some 43, .mv, [.t 3], some (41, true), []⟩, ⟨some 44, .mv, [.t 4], some (41, true), []⟩, ⟨some 45,
  .call 15 false, [.t 42, .t 43, .t 44], some (41, true), []⟩, ⟨some 46, .mv, [.t 0], some (41, true), []⟩, ⟨some 47, .mv, [.t 3], some (41, true), []⟩, ⟨some 48, .mv, [.t 4], some
  (41, true), []⟩, ⟨some 49, .call 16 false, [.t 46, .t 47, .t 48], some (41, true), []⟩, ⟨some 50, .bin .eql, [.t 45, .t 49], some (41, true), []⟩, ⟨some 51, .pick, [.t 41, .t 50,
  .k (.d (.bool false))], none, []⟩, ⟨some 52, .mv, [.t 51], none, []⟩, ⟨some 53, .call 7 false, [], some (52, true), []⟩, ⟨some 54, .pick, [.t 52, .t 53, .k (.d (.bool false))],
  none, []⟩, ⟨some 10, .mv, [.t 54], none, []⟩] [10]) .ret))
def passkeylaw2DigestUsesRr : List RR := [.t 10]
theorem passkeylaw2DigestUsesC : compFn Try.prog 6 passkeylaw2DigestUsesH = some (passkeylaw2DigestUsesRc, passkeylaw2DigestUsesRr, 55) := by kernel_rfl
theorem passkeylaw2DigestUsesOK (a0 : BitVec 64) (a1 : Int) (a2 : List (BitVec 8)) (a3 : List (BitVec 8)) (a4 : Int) (res : Bool) (h : passkeylaw2DigestUses a0 a1 a2 a3 a4 = some res) : CallOK Try.prog 6 [.d (eU64 a0), .d (eI a1), .d ((eL 1 eU8) a2), .d (eS a3), .d (eI a4)] [] (.d (eB res)) [] := by
  unfold passkeylaw2DigestUses at h
  refine callOK passkeylaw2DigestUsesC fm rfl ?_
  simp only [initE, initM, nbor, List.map_cons, List.map_nil, Nat.reduceAdd]
  unfold passkeylaw2DigestUsesRc
  refine rwp_seq fun K1 hK1 => ?_
  refine rwp_region fun K2 hK2 => ?_
  refine st0 128 rfl (ok (mv (.d (eB false)))) ?_
  refine hK2 _ _ ?_
  simp only [thenK, blockK, keepE, updM, List.filter_cons, List.filter_nil, List.nil_append, List.cons_append, List.map_cons, List.map_nil, envE, Mem.get, Nat.reduceEqDiff, reduceIte, Option.isNone_none, Option.isNone_some, Bool.false_eq_true, List.length_cons, List.length_nil, Nat.reduceAdd, Nat.reduceMul]
  refine hK1 _ _ _ ?_
  refine rwp_seq fun K3 hK3 => ?_
  refine rwp_join ([], []) 704 (fun env mem => ∃ (v4 : Bool), passkeylaw2DigestUsesJ1 a0 a1 a2 a3 a4 v4 = some res ∧ env = [(0, .d (eU64 a0)), (1, .d (eI a1)), (2, .d ((eL 1 eU8) a2)), (3, .d (eS a3)), (4, .d (eI a4)), (18, .d (eB v4))] ∧ mem = []) (fun _ _ hI => ?_) (fun K5 hK5 => ?_)
  · obtain ⟨v4, h, rfl, rfl⟩ := hI
    unfold passkeylaw2DigestUsesJ1 at h
    rcases Bool.eq_false_or_eq_true (v4) with h6 | h6
    · replace h := ite_t h h6
      refine rwp_t (isT h6) ?_
      refine rwp_seq fun K7 hK7 => ?_
      refine rwp_region fun K8 hK8 => ?_
      obtain ⟨y9, h10, h⟩ := bind_inv h
      refine st0 768 rfl (call_ok (v := .d (eB y9)) (u := []) ar_nil rfl (passkeylaw2awakeOK  y9 h10) rfl) ?_
      refine st0 832 rfl (ok (mv (.d (eB y9)))) ?_
      refine hK8 _ _ ?_
      simp only [thenK, blockK, keepE, updM, List.filter_cons, List.filter_nil, List.nil_append, List.cons_append, List.map_cons, List.map_nil, envE, Mem.get, Nat.reduceEqDiff, reduceIte, Option.isNone_none, Option.isNone_some, Bool.false_eq_true, List.length_cons, List.length_nil, Nat.reduceAdd, Nat.reduceMul]
      refine hK7 _ _ _ ?_
      refine rwp_ret ?_
      obtain rfl := Option.some.inj h
      try simp only [thenK, blockK, reduceIte]
      exact end_ok trivial (rs_t (v := .d (eB y9)) rfl rs_nil) (en_d (to_d _) en_nil) ou_nil (by first | exact eok rfl rfl rfl rfl trivial | (refine eok ?_ ?_ ?_ ?_ ?_ <;> first | rfl | exact trivial | simp [retM, Mem.get, PV.renL, PV.ren, Blk.ren, comps, rhoR, rhoM, appN, PV.refsL, PV.refs, keys, nodupB, Blk.refs, allIn, Blk.bor]))
    · replace h := ite_f h h6
      refine rwp_f (isF h6) ?_
      refine rwp_skip ?_
      refine hK3 _ _ _ ?_
      refine rwp_seq fun K11 hK11 => ?_
      refine rwp_region fun K12 hK12 => ?_
      refine st0 768 rfl (ok (mv (.d (eI a1)))) ?_
      refine st0 832 rfl (ok (mv (.d ((eL 1 eU8) a2)))) ?_
      obtain ⟨y13, h14, h⟩ := bind_inv h
      refine st0 896 rfl (call_ok (v := .d (eU64 y13)) (u := []) (ar_d (eI a1) (ar_d ((eL 1 eU8) a2) ar_nil)) rfl (digestHashOK a1 a2 y13 h14) rfl) ?_
      refine st0 960 rfl (ok (mv (.d (eI a1)))) ?_
      refine st0 1024 rfl (ok (ofI64 _ a1)) ?_
      refine st0 1088 rfl (ok (mv (.d ((eL 1 eU8) a2)))) ?_
      obtain ⟨y15, h16, h⟩ := bind_inv h
      refine st0 1152 rfl (call_ok (v := .d (eU64 y15)) (u := []) (ar_d (eU64 (BitVec.ofInt 64 a1)) (ar_d (eU64 0#64) (ar_d ((eL 1 eU8) a2) ar_nil))) rfl (digestSumOK (BitVec.ofInt 64 a1) 0#64 a2 y15 h16) rfl) ?_
      refine st0 1216 rfl (ok (eql64 _ _)) ?_
      refine st0 1280 rfl (ok (mv (.d (eB (y13 == y15))))) ?_
      rcases Bool.eq_false_or_eq_true ((y13 == y15)) with h17 | h17
      · replace h := ite_t h h17
        refine stG (isT h17) ?_
        refine st0 1344 rfl (ok (mv (.d (eU64 a0)))) ?_
        refine stG (isT h17) ?_
        refine st0 1408 rfl (ok (mv (.d (eI a1)))) ?_
        refine stG (isT h17) ?_
        refine st0 1472 rfl (ok (mv (.d ((eL 1 eU8) a2)))) ?_
        refine stG (isT h17) ?_
        obtain ⟨y18, h19, h⟩ := bind_inv h
        refine st0 1536 rfl (call_ok (v := .d (eU64 y18)) (u := []) (ar_d (eU64 a0) (ar_d (eI a1) (ar_d ((eL 1 eU8) a2) ar_nil))) rfl (digestMacOK a0 a1 a2 y18 h19) rfl) ?_
        refine stG (isT h17) ?_
        refine st0 1600 rfl (ok (mv (.d (eU64 a0)))) ?_
        refine stG (isT h17) ?_
        refine st0 1664 rfl (ok (mv (.d (eI a1)))) ?_
        refine stG (isT h17) ?_
        refine st0 1728 rfl (ok (ofI64 _ a1)) ?_
        refine stG (isT h17) ?_
        refine st0 1792 rfl (ok (add64 1#64 _)) ?_
        refine stG (isT h17) ?_
        refine st0 1856 rfl (ok (mv (.d ((eL 1 eU8) a2)))) ?_
        refine stG (isT h17) ?_
        obtain ⟨y20, h21, h⟩ := bind_inv h
        refine st0 1920 rfl (call_ok (v := .d (eU64 y20)) (u := []) (ar_d (eU64 a0) (ar_d (eU64 (1#64 + (BitVec.ofInt 64 a1))) (ar_d ((eL 1 eU8) a2) ar_nil))) rfl (digestSumOK a0 (1#64 + (BitVec.ofInt 64 a1)) a2 y20 h21) rfl) ?_
        refine stG (isT h17) ?_
        refine st0 1984 rfl (ok (eql64 _ _)) ?_
        refine st0 2048 rfl (ok (pick_t h17 (.d (eB (y18 == y20))) _)) ?_
        refine st0 2112 rfl (ok (mv (.d (eB (y18 == y20))))) ?_
        rcases Bool.eq_false_or_eq_true ((y18 == y20)) with h22 | h22
        · replace h := ite_t h h22
          refine stG (isT h22) ?_
          refine st0 2176 rfl (ok (mv (.d (eU64 a0)))) ?_
          refine stG (isT h22) ?_
          refine st0 2240 rfl (ok (mv (.d (eS a3)))) ?_
          refine stG (isT h22) ?_
          refine st0 2304 rfl (ok (mv (.d (eI a4)))) ?_
          refine stG (isT h22) ?_
          obtain ⟨y23, h24, h⟩ := bind_inv h
          refine st0 2368 rfl (call_ok (v := .d (eU64 y23)) (u := []) (ar_d (eU64 a0) (ar_d (eS a3) (ar_d (eI a4) ar_nil))) rfl (digestDeriveOK a0 a3 a4 y23 h24) rfl) ?_
          refine stG (isT h22) ?_
          refine st0 2432 rfl (ok (mv (.d (eU64 a0)))) ?_
          refine stG (isT h22) ?_
          refine st0 2496 rfl (ok (mv (.d (eS a3)))) ?_
          refine stG (isT h22) ?_
          refine st0 2560 rfl (ok (mv (.d (eI a4)))) ?_
          refine stG (isT h22) ?_
          obtain ⟨y25, h26, h⟩ := bind_inv h
          refine st0 2624 rfl (call_ok (v := .d (eU64 y25)) (u := []) (ar_d (eU64 a0) (ar_d (eS a3) (ar_d (eI a4) ar_nil))) rfl (passkeyref1DeriveOK a0 a3 a4 y25 h26) rfl) ?_
          refine stG (isT h22) ?_
          refine st0 2688 rfl (ok (eql64 _ _)) ?_
          refine st0 2752 rfl (ok (pick_t h22 (.d (eB (y23 == y25))) _)) ?_
          refine st0 2816 rfl (ok (mv (.d (eB (y23 == y25))))) ?_
          rcases Bool.eq_false_or_eq_true ((y23 == y25)) with h27 | h27
          · replace h := ite_t h h27
            refine stG (isT h27) ?_
            obtain ⟨y28, h29, h⟩ := bind_inv h
            refine st0 2880 rfl (call_ok (v := .d (eB y28)) (u := []) ar_nil rfl (passkeylaw2awakeOK  y28 h29) rfl) ?_
            refine st0 2944 rfl (ok (pick_t h27 (.d (eB y28)) _)) ?_
            refine st0 3008 rfl (ok (mv (.d (eB y28)))) ?_
            refine hK12 _ _ ?_
            simp only [thenK, blockK, keepE, updM, List.filter_cons, List.filter_nil, List.nil_append, List.cons_append, List.map_cons, List.map_nil, envE, Mem.get, Nat.reduceEqDiff, reduceIte, Option.isNone_none, Option.isNone_some, Bool.false_eq_true, List.length_cons, List.length_nil, Nat.reduceAdd, Nat.reduceMul]
            refine hK11 _ _ _ ?_
            refine rwp_ret ?_
            obtain rfl := Option.some.inj h
            try simp only [thenK, blockK, reduceIte]
            exact end_ok trivial (rs_t (v := .d (eB y28)) rfl rs_nil) (en_d (to_d _) en_nil) ou_nil (by first | exact eok rfl rfl rfl rfl trivial | (refine eok ?_ ?_ ?_ ?_ ?_ <;> first | rfl | exact trivial | simp [retM, Mem.get, PV.renL, PV.ren, Blk.ren, comps, rhoR, rhoM, appN, PV.refsL, PV.refs, keys, nodupB, Blk.refs, allIn, Blk.bor]))
          · replace h := ite_f h h27
            refine stGN 2880 rfl rfl h27 ?_
            refine st0 2944 rfl (ok (pick_f h27 _ (.d (eB false)))) ?_
            refine st0 3008 rfl (ok (mv (.d (eB false)))) ?_
            refine hK12 _ _ ?_
            simp only [thenK, blockK, keepE, updM, List.filter_cons, List.filter_nil, List.nil_append, List.cons_append, List.map_cons, List.map_nil, envE, Mem.get, Nat.reduceEqDiff, reduceIte, Option.isNone_none, Option.isNone_some, Bool.false_eq_true, List.length_cons, List.length_nil, Nat.reduceAdd, Nat.reduceMul]
            refine hK11 _ _ _ ?_
            refine rwp_ret ?_
            obtain rfl := Option.some.inj h
            try simp only [thenK, blockK, reduceIte]
            exact end_ok trivial (rs_t (v := .d (eB false)) rfl rs_nil) (en_d (to_d _) en_nil) ou_nil (by first | exact eok rfl rfl rfl rfl trivial | (refine eok ?_ ?_ ?_ ?_ ?_ <;> first | rfl | exact trivial | simp [retM, Mem.get, PV.renL, PV.ren, Blk.ren, comps, rhoR, rhoM, appN, PV.refsL, PV.refs, keys, nodupB, Blk.refs, allIn, Blk.bor]))
        · replace h := ite_f h h22
          refine stGN 2176 rfl rfl h22 ?_
          refine stGN 2240 rfl rfl h22 ?_
          refine stGN 2304 rfl rfl h22 ?_
          refine stGN 2368 rfl rfl h22 ?_
          refine stGN 2432 rfl rfl h22 ?_
          refine stGN 2496 rfl rfl h22 ?_
          refine stGN 2560 rfl rfl h22 ?_
          refine stGN 2624 rfl rfl h22 ?_
          refine stGN 2688 rfl rfl h22 ?_
          refine st0 2752 rfl (ok (pick_f h22 _ (.d (eB false)))) ?_
          refine st0 2816 rfl (ok (mv (.d (eB false)))) ?_
          refine stGN 2880 rfl rfl rfl ?_
          refine st0 2944 rfl (ok (pick_f rfl _ (.d (eB false)))) ?_
          refine st0 3008 rfl (ok (mv (.d (eB false)))) ?_
          refine hK12 _ _ ?_
          simp only [thenK, blockK, keepE, updM, List.filter_cons, List.filter_nil, List.nil_append, List.cons_append, List.map_cons, List.map_nil, envE, Mem.get, Nat.reduceEqDiff, reduceIte, Option.isNone_none, Option.isNone_some, Bool.false_eq_true, List.length_cons, List.length_nil, Nat.reduceAdd, Nat.reduceMul]
          refine hK11 _ _ _ ?_
          refine rwp_ret ?_
          obtain rfl := Option.some.inj h
          try simp only [thenK, blockK, reduceIte]
          exact end_ok trivial (rs_t (v := .d (eB false)) rfl rs_nil) (en_d (to_d _) en_nil) ou_nil (by first | exact eok rfl rfl rfl rfl trivial | (refine eok ?_ ?_ ?_ ?_ ?_ <;> first | rfl | exact trivial | simp [retM, Mem.get, PV.renL, PV.ren, Blk.ren, comps, rhoR, rhoM, appN, PV.refsL, PV.refs, keys, nodupB, Blk.refs, allIn, Blk.bor]))
      · replace h := ite_f h h17
        refine stGN 1344 rfl rfl h17 ?_
        refine stGN 1408 rfl rfl h17 ?_
        refine stGN 1472 rfl rfl h17 ?_
        refine stGN 1536 rfl rfl h17 ?_
        refine stGN 1600 rfl rfl h17 ?_
        refine stGN 1664 rfl rfl h17 ?_
        refine stGN 1728 rfl rfl h17 ?_
        refine stGN 1792 rfl rfl h17 ?_
        refine stGN 1856 rfl rfl h17 ?_
        refine stGN 1920 rfl rfl h17 ?_
        refine stGN 1984 rfl rfl h17 ?_
        refine st0 2048 rfl (ok (pick_f h17 _ (.d (eB false)))) ?_
        refine st0 2112 rfl (ok (mv (.d (eB false)))) ?_
        refine stGN 2176 rfl rfl rfl ?_
        refine stGN 2240 rfl rfl rfl ?_
        refine stGN 2304 rfl rfl rfl ?_
        refine stGN 2368 rfl rfl rfl ?_
        refine stGN 2432 rfl rfl rfl ?_
        refine stGN 2496 rfl rfl rfl ?_
        refine stGN 2560 rfl rfl rfl ?_
        refine stGN 2624 rfl rfl rfl ?_
        refine stGN 2688 rfl rfl rfl ?_
        refine st0 2752 rfl (ok (pick_f rfl _ (.d (eB false)))) ?_
        refine st0 2816 rfl (ok (mv (.d (eB false)))) ?_
        refine stGN 2880 rfl rfl rfl ?_
        refine st0 2944 rfl (ok (pick_f rfl _ (.d (eB false)))) ?_
        refine st0 3008 rfl (ok (mv (.d (eB false)))) ?_
        refine hK12 _ _ ?_
        simp only [thenK, blockK, keepE, updM, List.filter_cons, List.filter_nil, List.nil_append, List.cons_append, List.map_cons, List.map_nil, envE, Mem.get, Nat.reduceEqDiff, reduceIte, Option.isNone_none, Option.isNone_some, Bool.false_eq_true, List.length_cons, List.length_nil, Nat.reduceAdd, Nat.reduceMul]
        refine hK11 _ _ _ ?_
        refine rwp_ret ?_
        obtain rfl := Option.some.inj h
        try simp only [thenK, blockK, reduceIte]
        exact end_ok trivial (rs_t (v := .d (eB false)) rfl rs_nil) (en_d (to_d _) en_nil) ou_nil (by first | exact eok rfl rfl rfl rfl trivial | (refine eok ?_ ?_ ?_ ?_ ?_ <;> first | rfl | exact trivial | simp [retM, Mem.get, PV.renL, PV.ren, Blk.ren, comps, rhoR, rhoM, appN, PV.refsL, PV.refs, keys, nodupB, Blk.refs, allIn, Blk.bor]))
  · refine rwp_region fun K30 hK30 => ?_
    refine st0 192 rfl (ok (mv (.d ((eL 1 eU8) a2)))) ?_
    refine st0 256 rfl (ok (lenL _ _)) ?_
    refine st0 320 rfl (ok (gtrI _ (1000 : Int))) ?_
    refine st0 384 rfl (ok (mv (.d (eB (decide ((1000 : Int) < (a2.length : Int))))))) ?_
    rcases Bool.eq_false_or_eq_true ((decide ((1000 : Int) < (a2.length : Int)))) with h31 | h31
    · replace h := ite_t h h31
      refine stGN 448 rfl rfl h31 ?_
      refine stGN 512 rfl rfl h31 ?_
      refine stGN 576 rfl rfl h31 ?_
      refine st0 640 rfl (ok (pick_t h31 (.d (eB true)) _)) ?_
      refine hK30 _ _ ?_
      simp only [thenK, blockK, keepE, updM, List.filter_cons, List.filter_nil, List.nil_append, List.cons_append, List.map_cons, List.map_nil, envE, Mem.get, Nat.reduceEqDiff, reduceIte, Option.isNone_none, Option.isNone_some, Bool.false_eq_true, List.length_cons, List.length_nil, Nat.reduceAdd, Nat.reduceMul]
      exact hK5 _ _ _ ⟨_, _, ⟨_, h, rfl, rfl⟩, ⟨rfl, ⟨⟨rfl, rfl⟩, ⟨⟨rfl, rfl⟩, ⟨⟨rfl, rfl⟩, ⟨⟨rfl, rfl⟩, ⟨⟨rfl, rfl⟩, ⟨⟨rfl, rfl⟩, trivial⟩⟩⟩⟩⟩⟩, trivial⟩, rfl⟩
    · replace h := ite_f h h31
      refine stG (isF h31) ?_
      refine st0 448 rfl (ok (mv (.d (eS a3)))) ?_
      refine stG (isF h31) ?_
      refine st0 512 rfl (ok (lenS _)) ?_
      refine stG (isF h31) ?_
      refine st0 576 rfl (ok (gtrI _ (300 : Int))) ?_
      refine st0 640 rfl (ok (pick_f h31 _ (.d (eB (decide ((300 : Int) < (a3.length : Int))))))) ?_
      refine hK30 _ _ ?_
      simp only [thenK, blockK, keepE, updM, List.filter_cons, List.filter_nil, List.nil_append, List.cons_append, List.map_cons, List.map_nil, envE, Mem.get, Nat.reduceEqDiff, reduceIte, Option.isNone_none, Option.isNone_some, Bool.false_eq_true, List.length_cons, List.length_nil, Nat.reduceAdd, Nat.reduceMul]
      exact hK5 _ _ _ ⟨_, _, ⟨_, h, rfl, rfl⟩, ⟨rfl, ⟨⟨rfl, rfl⟩, ⟨⟨rfl, rfl⟩, ⟨⟨rfl, rfl⟩, ⟨⟨rfl, rfl⟩, ⟨⟨rfl, rfl⟩, ⟨⟨rfl, rfl⟩, trivial⟩⟩⟩⟩⟩⟩, trivial⟩, rfl⟩

end Go.Proofs.Ty
