/- Each Go function comes to what its plain function says. PRINTED by a program of this session (ty.py). -/
import Derived.Test.YtkgdoilkneogdaaS6
set_option linter.unusedVariables false
set_option linter.unusedSimpArgs false
set_option maxHeartbeats 4000000
set_option maxRecDepth 10000
namespace Go.Proofs.Ty
open Go Go.RW Go.Proofs
/-- passkey/passkeyref29.ChallengeBytes -/
def passkeyref29ChallengeBytesH : Hints := ⟨[(0, [2, 3]), (1, [2, 3, 5]), (2, [2, 3, 5, 8]), (3, [2, 3, 5]), (4, [2, 3, 6]), (5, [4])], []⟩
def passkeyref29ChallengeBytesRc : RCode :=
  .seq (.region false [⟨some 2, .box, [.t 0], none, []⟩, ⟨some 3, .box, [.t 1], none, []⟩, ⟨some 4, .mv, [.k (.nil 1)], none, []⟩] [2, 3]) (.seq (.region false [⟨some 5, .mv, [.k (.d
  (.int .u64 0))], none, []⟩] [2, 3, 5]) (.seq (.seq (.region false [⟨some 7, .fa 3, [.t 3], none, []⟩, ⟨some 8, .load 1 false, [.t 7], none, []⟩] [2, 3, 5, 8]) (.cond (.t 8)
  (.region false [⟨some 5, .mv, [.k (.d (.int .u64 1))], none, []⟩] [2, 3, 5]) .skip)) (.seq (.region true [⟨some 9, .fa 0, [.t 3], none, []⟩, ⟨some 10, .load 1 false, [.t 9],
  none, [0]⟩, ⟨some 11, .cvt .u64, [.t 10], none, [0, 1]⟩, ⟨some 12, .fa 1, [.t 3], none, []⟩, ⟨some 13, .load 1 false, [.t 12], none, [3]⟩, ⟨some 14, .cvt .u64, [.t 13], none, [3,
  4]⟩, ⟨some 15, .mv, [.t 5], none, []⟩, ⟨some 16, .fa 4, [.t 3], none, []⟩, ⟨some 17, .load 1 false, [.t 16], none, [7]⟩, ⟨some 18, .cvt .u64, [.t 17], none, [7, 8]⟩, ⟨some 19,
  .bslice 1 false 4 [.d (.int .u64 0)] [0, 1, 2, 3], [.t 11, .t 14, .t 15, .t 18], none, [0, 1, 2, 3, 4, 5, 6, 7, 8, 9]⟩, ⟨some 20, .call 15 true, [.t 19], none, [0, 1, 2, 3, 4, 5,
  6, 7, 8, 9, 10]⟩, ⟨some 21, .fa 2, [.t 3], none, []⟩, ⟨some 22, .load 1 false, [.t 21], none, [12]⟩, ⟨some 23, .apps 140737488355328, [.t 20, .t 22], none, [0, 1, 2, 3, 4, 5, 6,
  7, 8, 9, 10, 11, 12, 13]⟩, ⟨some 6, .mv, [.t 23], none, [0, 1, 2, 3, 4, 5, 6, 7, 8, 9, 10, 11, 12, 13, 14]⟩] [2, 3, 6]) (.seq (.region true [⟨some 24, .fa 0, [.t 3], none, []⟩,
  ⟨some 25, .load 1 false, [.t 24], none, [0]⟩, ⟨some 26, .cvt .u64, [.t 25], none, [0, 1]⟩, ⟨some 27, .fa 0, [.t 2], none, []⟩, ⟨some 28, .load 1 false, [.t 27], none, [3]⟩, ⟨some
  29, .mv, [.t 6], none, []⟩, ⟨some 30, .call 16 false, [.t 28, .k (.d (.int .i64 17)), .t 29], none, [3, 4, 5]⟩, ⟨some 31, .bslice 1 false 2 [.d (.int .u64 0)] [0, 1], [.t 26, .t
  30], none, [0, 1, 2, 3, 4, 5, 6]⟩, ⟨some 32, .call 15 true, [.t 31], none, [0, 1, 2, 3, 4, 5, 6, 7]⟩, ⟨some 4, .mv, [.t 32], none, [0, 1, 2, 3, 4, 5, 6, 7, 8]⟩] [4]) .ret))))
def passkeyref29ChallengeBytesRr : List RR := [.t 4]
theorem passkeyref29ChallengeBytesC : compFn Try.prog 8 passkeyref29ChallengeBytesH = some (passkeyref29ChallengeBytesRc, passkeyref29ChallengeBytesRr, 33) := by kernel_rfl
theorem passkeyref29ChallengeBytesOK (a0 : TApiChallenges) (a1 : TApiChallenge) (res : List (BitVec 8)) (h : passkeyref29ChallengeBytes a0 a1 = some res) : CallOK Try.prog 8 [.d (eTApiChallenges a0), .d (eTApiChallenge a1)] [] (.ref 0 res.length 0 res.length) [(0, .row true 1 (res.map eU8))] := by
  unfold passkeyref29ChallengeBytes at h
  refine callOK passkeyref29ChallengeBytesC fm rfl ?_
  simp only [initE, initM, nbor, List.map_cons, List.map_nil, Nat.reduceAdd]
  unfold passkeyref29ChallengeBytesRc
  refine rwp_seq fun K1 hK1 => ?_
  refine rwp_region fun K2 hK2 => ?_
  refine st1 128 rfl (mem' := [(64, .var .mine [.d (eU64 a0.Secret), .d (eI a0.Count), .d ((eL 5 eTApiChallenge) a0.Open)])]) (ok (bx (ps := [.d (eU64 a0.Secret), .d (eI a0.Count), .d ((eL 5 eTApiChallenge) a0.Open)]) rfl rfl)) rfl ?_
  refine st1 192 rfl (mem' := [(128, .var .mine [.d (eI a1.Number), .d (eI a1.Kind), .d (eS a1.Account), .d (eB a1.Bound), .d (eI a1.Since)]), (64, .var .mine [.d (eU64 a0.Secret), .d (eI a0.Count), .d ((eL 5 eTApiChallenge) a0.Open)])]) (ok (bx (ps := [.d (eI a1.Number), .d (eI a1.Kind), .d (eS a1.Account), .d (eB a1.Bound), .d (eI a1.Since)]) rfl rfl)) rfl ?_
  refine st0 256 rfl (ok (mv (.nil 1))) ?_
  refine hK2 _ _ ?_
  simp only [thenK, blockK, keepE, updM, List.filter_cons, List.filter_nil, List.nil_append, List.cons_append, List.map_cons, List.map_nil, envE, Mem.get, Nat.reduceEqDiff, reduceIte, Option.isNone_none, Option.isNone_some, Bool.false_eq_true, List.length_cons, List.length_nil, Nat.reduceAdd, Nat.reduceMul]
  refine hK1 _ _ _ ?_
  refine rwp_seq fun K3 hK3 => ?_
  refine rwp_region fun K4 hK4 => ?_
  refine st0 320 rfl (ok (mv (.d (eU64 (0#64))))) ?_
  refine hK4 _ _ ?_
  simp only [thenK, blockK, keepE, updM, List.filter_cons, List.filter_nil, List.nil_append, List.cons_append, List.map_cons, List.map_nil, envE, Mem.get, Nat.reduceEqDiff, reduceIte, Option.isNone_none, Option.isNone_some, Bool.false_eq_true, List.length_cons, List.length_nil, Nat.reduceAdd, Nat.reduceMul]
  refine hK3 _ _ _ ?_
  refine rwp_join ([], []) 576 (fun env mem => ∃ (v5 : BitVec 64), passkeyref29ChallengeBytesJ1 a0 a1 v5 = some res ∧ env = [(2, .ptr 64 0), (3, .ptr 128 0), (5, .d (eU64 v5))] ∧ mem = [(64, .var .mine [.d (eU64 a0.Secret), .d (eI a0.Count), .d ((eL 5 eTApiChallenge) a0.Open)]), (128, .var .mine [.d (eI a1.Number), .d (eI a1.Kind), .d (eS a1.Account), .d (eB a1.Bound), .d (eI a1.Since)])]) (fun _ _ hI => ?_) (fun K6 hK6 => ?_)
  · obtain ⟨v5, h, rfl, rfl⟩ := hI
    unfold passkeyref29ChallengeBytesJ1 at h
    refine rwp_seq fun K7 hK7 => ?_
    refine rwp_draw fun K8 hK8 => ?_
    refine dr0 640 rfl (ok (fa_k 0 rfl)) (by kernel_rfl) ?_
    refine dr0 704 rfl (ok (ld_v (v := .d (eI a1.Number)) rfl rfl rfl)) (by kernel_rfl) ?_
    refine dr0 768 rfl (ok (ofI64 _ a1.Number)) (by kernel_rfl) ?_
    refine dr0 832 rfl (ok (fa_k 1 rfl)) (by kernel_rfl) ?_
    refine dr0 896 rfl (ok (ld_v (v := .d (eI a1.Kind)) rfl rfl rfl)) (by kernel_rfl) ?_
    refine dr0 960 rfl (ok (ofI64 _ a1.Kind)) (by kernel_rfl) ?_
    refine dr0 1024 rfl (ok (mv (.d (eU64 v5)))) (by kernel_rfl) ?_
    refine dr0 1088 rfl (ok (fa_k 4 rfl)) (by kernel_rfl) ?_
    refine dr0 1152 rfl (ok (ld_v (v := .d (eI a1.Since)) rfl rfl rfl)) (by kernel_rfl) ?_
    refine dr0 1216 rfl (ok (ofI64 _ a1.Since)) (by kernel_rfl) ?_
    refine dr1 1280 rfl (mem' := [(1216, .row true 1 (([(BitVec.ofInt 64 a1.Number), (BitVec.ofInt 64 a1.Kind), v5, (BitVec.ofInt 64 a1.Since)] : List (BitVec 64)).map eU64)), (64, .var .mine [.d (eU64 a0.Secret), .d (eI a0.Count), .d ((eL 5 eTApiChallenge) a0.Open)]), (128, .var .mine [.d (eI a1.Number), .d (eI a1.Kind), .d (eS a1.Account), .d (eB a1.Bound), .d (eI a1.Since)])]) (ok (bsl (e := eU64) (ys := ([(BitVec.ofInt 64 a1.Number), (BitVec.ofInt 64 a1.Kind), v5, (BitVec.ofInt 64 a1.Since)] : List (BitVec 64))) rfl rfl rfl)) rfl (by kernel_rfl) ?_
    obtain ⟨y9, h10, h⟩ := bind_inv h
    refine dr1 1344 rfl (mem' := [(1280, .row true 1 (y9.map eU8)), (1216, .row false 1 (([(BitVec.ofInt 64 a1.Number), (BitVec.ofInt 64 a1.Kind), v5, (BitVec.ofInt 64 a1.Since)] : List (BitVec 64)).map eU64)), (64, .var .mine [.d (eU64 a0.Secret), .d (eI a0.Count), .d ((eL 5 eTApiChallenge) a0.Open)]), (128, .var .mine [.d (eI a1.Number), .d (eI a1.Kind), .d (eS a1.Account), .d (eB a1.Bound), .d (eI a1.Since)])]) (call_ok (v := .ref 1280 y9.length 0 y9.length) (u := [(1280, .row true 1 (y9.map eU8)), (1216, .row false 1 (([(BitVec.ofInt 64 a1.Number), (BitVec.ofInt 64 a1.Kind), v5, (BitVec.ofInt 64 a1.Since)] : List (BitVec 64)).map eU64))]) (ar_to rfl (to_1 rfl (ds_r (ys := ([(BitVec.ofInt 64 a1.Number), (BitVec.ofInt 64 a1.Kind), v5, (BitVec.ofInt 64 a1.Since)] : List (BitVec 64))) rfl rfl rfl ds_nil)) ar_nil) rfl (passkeyref1WordsOK ([(BitVec.ofInt 64 a1.Number), (BitVec.ofInt 64 a1.Kind), v5, (BitVec.ofInt 64 a1.Since)] : List (BitVec 64)) y9 h10) rfl) rfl (by kernel_rfl) ?_
    refine dr0 1408 rfl (ok (fa_k 2 rfl)) (by kernel_rfl) ?_
    refine dr0 1472 rfl (ok (ld_v (v := .d (eS a1.Account)) rfl rfl rfl)) (by kernel_rfl) ?_
    obtain ⟨h11, h⟩ := asq_inv h
    refine dr1 1536 rfl (mem' := [(1280, .row true 1 ((y9 ++ a1.Account).map eU8)), (1216, .row false 1 (([(BitVec.ofInt 64 a1.Number), (BitVec.ofInt 64 a1.Kind), v5, (BitVec.ofInt 64 a1.Since)] : List (BitVec 64)).map eU64)), (64, .var .mine [.d (eU64 a0.Secret), .d (eI a0.Count), .d ((eL 5 eTApiChallenge) a0.Open)]), (128, .var .mine [.d (eI a1.Number), .d (eI a1.Kind), .d (eS a1.Account), .d (eB a1.Bound), .d (eI a1.Since)])]) (ok (apsR (t := a1.Account) (xs := y9) rfl rfl rfl h11)) rfl (by kernel_rfl) ?_
    refine dr0 1600 rfl (ok (mv (.ref 1280 (((y9 ++ a1.Account)).length) 0 (((y9 ++ a1.Account)).length)))) (by kernel_rfl) ?_
    refine hK8 _ _ ?_
    simp only [thenK, blockK, keepE, updM, List.filter_cons, List.filter_nil, List.nil_append, List.cons_append, List.map_cons, List.map_nil, envE, Mem.get, Nat.reduceEqDiff, reduceIte, Option.isNone_none, Option.isNone_some, Bool.false_eq_true, List.length_cons, List.length_nil, Nat.reduceAdd, Nat.reduceMul]
    refine hK7 _ _ _ ?_
    refine rwp_seq fun K12 hK12 => ?_
    refine rwp_draw fun K13 hK13 => ?_
    refine dr0 1664 rfl (ok (fa_k 0 rfl)) (by kernel_rfl) ?_
    refine dr0 1728 rfl (ok (ld_v (v := .d (eI a1.Number)) rfl rfl rfl)) (by kernel_rfl) ?_
    refine dr0 1792 rfl (ok (ofI64 _ a1.Number)) (by kernel_rfl) ?_
    refine dr0 1856 rfl (ok (fa_k 0 rfl)) (by kernel_rfl) ?_
    refine dr0 1920 rfl (ok (ld_v (v := .d (eU64 a0.Secret)) rfl rfl rfl)) (by kernel_rfl) ?_
    refine dr0 1984 rfl (ok (mv (.ref 1280 (((y9 ++ a1.Account)).length) 0 (((y9 ++ a1.Account)).length)))) (by kernel_rfl) ?_
    obtain ⟨y14, h15, h⟩ := bind_inv h
    refine dr0 2048 rfl (call_ok (v := .d (eU64 y14)) (u := []) (ar_d (eU64 a0.Secret) (ar_d (eI (17 : Int)) (ar_to rfl (to_1 rfl (ds_r (ys := (y9 ++ a1.Account)) rfl rfl rfl ds_nil)) ar_nil))) rfl (passkeyref1MacOK a0.Secret (17 : Int) (y9 ++ a1.Account) y14 h15) rfl) (by kernel_rfl) ?_
    refine dr1 2112 rfl (mem' := [(2048, .row true 1 (([(BitVec.ofInt 64 a1.Number), y14] : List (BitVec 64)).map eU64)), (1280, .row true 1 ((y9 ++ a1.Account).map eU8)), (1216, .row false 1 (([(BitVec.ofInt 64 a1.Number), (BitVec.ofInt 64 a1.Kind), v5, (BitVec.ofInt 64 a1.Since)] : List (BitVec 64)).map eU64)), (64, .var .mine [.d (eU64 a0.Secret), .d (eI a0.Count), .d ((eL 5 eTApiChallenge) a0.Open)]), (128, .var .mine [.d (eI a1.Number), .d (eI a1.Kind), .d (eS a1.Account), .d (eB a1.Bound), .d (eI a1.Since)])]) (ok (bsl (e := eU64) (ys := ([(BitVec.ofInt 64 a1.Number), y14] : List (BitVec 64))) rfl rfl rfl)) rfl (by kernel_rfl) ?_
    obtain ⟨y16, h17, h⟩ := bind_inv h
    refine dr1 2176 rfl (mem' := [(2112, .row true 1 (y16.map eU8)), (2048, .row false 1 (([(BitVec.ofInt 64 a1.Number), y14] : List (BitVec 64)).map eU64)), (1280, .row true 1 ((y9 ++ a1.Account).map eU8)), (1216, .row false 1 (([(BitVec.ofInt 64 a1.Number), (BitVec.ofInt 64 a1.Kind), v5, (BitVec.ofInt 64 a1.Since)] : List (BitVec 64)).map eU64)), (64, .var .mine [.d (eU64 a0.Secret), .d (eI a0.Count), .d ((eL 5 eTApiChallenge) a0.Open)]), (128, .var .mine [.d (eI a1.Number), .d (eI a1.Kind), .d (eS a1.Account), .d (eB a1.Bound), .d (eI a1.Since)])]) (call_ok (v := .ref 2112 y16.length 0 y16.length) (u := [(2112, .row true 1 (y16.map eU8)), (2048, .row false 1 (([(BitVec.ofInt 64 a1.Number), y14] : List (BitVec 64)).map eU64))]) (ar_to rfl (to_1 rfl (ds_r (ys := ([(BitVec.ofInt 64 a1.Number), y14] : List (BitVec 64))) rfl rfl rfl ds_nil)) ar_nil) rfl (passkeyref1WordsOK ([(BitVec.ofInt 64 a1.Number), y14] : List (BitVec 64)) y16 h17) rfl) rfl (by kernel_rfl) ?_
    refine dr0 2240 rfl (ok (mv (.ref 2112 y16.length 0 y16.length))) (by kernel_rfl) ?_
    refine hK13 _ _ ?_
    simp only [thenK, blockK, keepE, updM, List.filter_cons, List.filter_nil, List.nil_append, List.cons_append, List.map_cons, List.map_nil, envE, Mem.get, Nat.reduceEqDiff, reduceIte, Option.isNone_none, Option.isNone_some, Bool.false_eq_true, List.length_cons, List.length_nil, Nat.reduceAdd, Nat.reduceMul]
    refine hK12 _ _ _ ?_
    refine rwp_ret ?_
    obtain rfl := Option.some.inj h
    try simp only [thenK, blockK, reduceIte]
    exact Or.inl (end_ok trivial (rs_t (v := .ref 2112 y16.length 0 y16.length) rfl rs_nil) (en_ref en_nil) ou_nil (by first | exact eok rfl rfl rfl rfl (And.intro (And.intro rfl rfl) trivial) | (refine eok ?_ ?_ ?_ ?_ ?_ <;> first | rfl | exact (And.intro (And.intro rfl rfl) trivial) | simp [retM, Mem.get, PV.renL, PV.ren, Blk.ren, comps, rhoR, rhoM, appN, PV.refsL, PV.refs, keys, nodupB, Blk.refs, allIn, Blk.bor])))
  · refine rwp_seq fun K18 hK18 => ?_
    refine rwp_region fun K19 hK19 => ?_
    refine st0 384 rfl (ok (fa_k 3 rfl)) ?_
    refine st0 448 rfl (ok (ld_v (v := .d (eB a1.Bound)) rfl rfl rfl)) ?_
    refine hK19 _ _ ?_
    simp only [thenK, blockK, keepE, updM, List.filter_cons, List.filter_nil, List.nil_append, List.cons_append, List.map_cons, List.map_nil, envE, Mem.get, Nat.reduceEqDiff, reduceIte, Option.isNone_none, Option.isNone_some, Bool.false_eq_true, List.length_cons, List.length_nil, Nat.reduceAdd, Nat.reduceMul]
    refine hK18 _ _ _ ?_
    rcases Bool.eq_false_or_eq_true (a1.Bound) with h20 | h20
    · replace h := ite_t h h20
      refine rwp_t (isT h20) ?_
      refine rwp_region fun K21 hK21 => ?_
      refine st0 512 rfl (ok (mv (.d (eU64 (1#64))))) ?_
      refine hK21 _ _ ?_
      simp only [thenK, blockK, keepE, updM, List.filter_cons, List.filter_nil, List.nil_append, List.cons_append, List.map_cons, List.map_nil, envE, Mem.get, Nat.reduceEqDiff, reduceIte, Option.isNone_none, Option.isNone_some, Bool.false_eq_true, List.length_cons, List.length_nil, Nat.reduceAdd, Nat.reduceMul]
      exact hK6 _ _ _ ⟨_, _, Settled.refl, _, _, ⟨_, h, rfl, rfl⟩, ⟨rfl, ⟨⟨rfl, rfl⟩, ⟨⟨rfl, rfl⟩, ⟨⟨rfl, rfl⟩, trivial⟩⟩⟩, ⟨⟨rfl, rfl⟩, ⟨⟨rfl, rfl⟩, trivial⟩⟩⟩, rfl⟩
    · replace h := ite_f h h20
      refine rwp_f (isF h20) ?_
      refine rwp_skip ?_
      exact hK6 _ _ _ ⟨_, _, Settled.refl, _, _, ⟨_, h, rfl, rfl⟩, ⟨rfl, ⟨⟨rfl, rfl⟩, ⟨⟨rfl, rfl⟩, ⟨⟨rfl, rfl⟩, trivial⟩⟩⟩, ⟨⟨rfl, rfl⟩, ⟨⟨rfl, rfl⟩, trivial⟩⟩⟩, rfl⟩

/-- passkey/passkeylaw29.ChallengeBytes -/
def passkeylaw29ChallengeBytesH : Hints := ⟨[(0, [2, 3]), (1, [2, 3, 8]), (2, [4]), (3, [4])], []⟩
def passkeylaw29ChallengeBytesRc : RCode :=
  .seq (.region false [⟨some 2, .box, [.t 0], none, []⟩, ⟨some 3, .box, [.t 1], none, []⟩, ⟨some 4, .mv, [.k (.d (.bool false))], none, []⟩] [2, 3]) (.seq (.seq (.region false [⟨some
  5, .fa 2, [.t 3], none, []⟩, ⟨some 6, .load 1 false, [.t 5], none, []⟩, ⟨some 7, .lens, [.t 6], none, []⟩, ⟨some 8, .bin .gtr, [.t 7, .k (.d (.int .i64 200))], none, []⟩] [2, 3,
  8]) (.cond (.t 8) (.seq (.region false [⟨some 9, .call 6 false, [], none, []⟩, ⟨some 4, .mv, [.t 9], none, []⟩] [4]) .ret) .skip)) (.seq (.region true [⟨some 10, .load 3 true,
  [.t 2], none, []⟩, ⟨some 11, .load 5 true, [.t 3], none, []⟩, ⟨some 12, .call 7 true, [.t 10, .t 11], none, [0, 1]⟩, ⟨some 13, .b2s, [.t 12], none, [0, 1, 2]⟩, ⟨some 14, .load 3
  true, [.t 2], none, []⟩, ⟨some 15, .load 5 true, [.t 3], none, []⟩, ⟨some 16, .call 8 true, [.t 14, .t 15], none, [0, 1, 2, 4, 5]⟩, ⟨some 17, .b2s, [.t 16], none, [0, 1, 2, 4, 5,
  6]⟩, ⟨some 18, .bin .eql, [.t 13, .t 17], none, [0, 1, 2, 3, 4, 5, 6, 7]⟩, ⟨some 19, .mv, [.t 18], none, [0, 1, 2, 3, 4, 5, 6, 7, 8]⟩, ⟨some 20, .call 6 false, [], some (19,
  true), [0, 1, 2, 3, 4, 5, 6, 7, 8, 9]⟩, ⟨some 21, .pick, [.t 19, .t 20, .k (.d (.bool false))], none, [0, 1, 2, 3, 4, 5, 6, 7, 8, 9, 10]⟩, ⟨some 4, .mv, [.t 21], none, [0, 1, 2,
  3, 4, 5, 6, 7, 8, 9, 10, 11]⟩] [4]) .ret))
def passkeylaw29ChallengeBytesRr : List RR := [.t 4]
theorem passkeylaw29ChallengeBytesC : compFn Try.prog 3 passkeylaw29ChallengeBytesH = some (passkeylaw29ChallengeBytesRc, passkeylaw29ChallengeBytesRr, 22) := by kernel_rfl
theorem passkeylaw29ChallengeBytesOK (a0 : TApiChallenges) (a1 : TApiChallenge) (res : Bool) (h : passkeylaw29ChallengeBytes a0 a1 = some res) : CallOK Try.prog 3 [.d (eTApiChallenges a0), .d (eTApiChallenge a1)] [] (.d (eB res)) [] := by
  unfold passkeylaw29ChallengeBytes at h
  refine callOK passkeylaw29ChallengeBytesC fm rfl ?_
  simp only [initE, initM, nbor, List.map_cons, List.map_nil, Nat.reduceAdd]
  unfold passkeylaw29ChallengeBytesRc
  refine rwp_seq fun K1 hK1 => ?_
  refine rwp_region fun K2 hK2 => ?_
  refine st1 128 rfl (mem' := [(64, .var .mine [.d (eU64 a0.Secret), .d (eI a0.Count), .d ((eL 5 eTApiChallenge) a0.Open)])]) (ok (bx (ps := [.d (eU64 a0.Secret), .d (eI a0.Count), .d ((eL 5 eTApiChallenge) a0.Open)]) rfl rfl)) rfl ?_
  refine st1 192 rfl (mem' := [(128, .var .mine [.d (eI a1.Number), .d (eI a1.Kind), .d (eS a1.Account), .d (eB a1.Bound), .d (eI a1.Since)]), (64, .var .mine [.d (eU64 a0.Secret), .d (eI a0.Count), .d ((eL 5 eTApiChallenge) a0.Open)])]) (ok (bx (ps := [.d (eI a1.Number), .d (eI a1.Kind), .d (eS a1.Account), .d (eB a1.Bound), .d (eI a1.Since)]) rfl rfl)) rfl ?_
  refine st0 256 rfl (ok (mv (.d (eB false)))) ?_
  refine hK2 _ _ ?_
  simp only [thenK, blockK, keepE, updM, List.filter_cons, List.filter_nil, List.nil_append, List.cons_append, List.map_cons, List.map_nil, envE, Mem.get, Nat.reduceEqDiff, reduceIte, Option.isNone_none, Option.isNone_some, Bool.false_eq_true, List.length_cons, List.length_nil, Nat.reduceAdd, Nat.reduceMul]
  refine hK1 _ _ _ ?_
  refine rwp_seq fun K3 hK3 => ?_
  refine rwp_seq fun K4 hK4 => ?_
  refine rwp_region fun K5 hK5 => ?_
  refine st0 320 rfl (ok (fa_k 2 rfl)) ?_
  refine st0 384 rfl (ok (ld_v (v := .d (eS a1.Account)) rfl rfl rfl)) ?_
  refine st0 448 rfl (ok (lenS _)) ?_
  refine st0 512 rfl (ok (gtrI _ (200 : Int))) ?_
  refine hK5 _ _ ?_
  simp only [thenK, blockK, keepE, updM, List.filter_cons, List.filter_nil, List.nil_append, List.cons_append, List.map_cons, List.map_nil, envE, Mem.get, Nat.reduceEqDiff, reduceIte, Option.isNone_none, Option.isNone_some, Bool.false_eq_true, List.length_cons, List.length_nil, Nat.reduceAdd, Nat.reduceMul]
  refine hK4 _ _ _ ?_
  rcases Bool.eq_false_or_eq_true ((decide ((200 : Int) < (a1.Account.length : Int)))) with h6 | h6
  · replace h := ite_t h h6
    refine rwp_t (isT h6) ?_
    refine rwp_seq fun K7 hK7 => ?_
    refine rwp_region fun K8 hK8 => ?_
    obtain ⟨y9, h10, h⟩ := bind_inv h
    refine st0 576 rfl (call_ok (v := .d (eB y9)) (u := []) ar_nil rfl (passkeylaw29awakeOK  y9 h10) rfl) ?_
    refine st0 640 rfl (ok (mv (.d (eB y9)))) ?_
    refine hK8 _ _ ?_
    simp only [thenK, blockK, keepE, updM, List.filter_cons, List.filter_nil, List.nil_append, List.cons_append, List.map_cons, List.map_nil, envE, Mem.get, Nat.reduceEqDiff, reduceIte, Option.isNone_none, Option.isNone_some, Bool.false_eq_true, List.length_cons, List.length_nil, Nat.reduceAdd, Nat.reduceMul]
    refine hK7 _ _ _ ?_
    refine rwp_ret ?_
    obtain rfl := Option.some.inj h
    try simp only [thenK, blockK, reduceIte]
    exact Or.inl (end_ok trivial (rs_t (v := .d (eB y9)) rfl rs_nil) (en_d (to_d _) en_nil) ou_nil (by first | exact eok rfl rfl rfl rfl trivial | (refine eok ?_ ?_ ?_ ?_ ?_ <;> first | rfl | exact trivial | simp [retM, Mem.get, PV.renL, PV.ren, Blk.ren, comps, rhoR, rhoM, appN, PV.refsL, PV.refs, keys, nodupB, Blk.refs, allIn, Blk.bor])))
  · replace h := ite_f h h6
    refine rwp_f (isF h6) ?_
    refine rwp_skip ?_
    refine hK3 _ _ _ ?_
    refine rwp_seq fun K11 hK11 => ?_
    refine rwp_draw fun K12 hK12 => ?_
    refine dr0 576 rfl (ok (ld_v (v := .d (.agg [eU64 a0.Secret, eI a0.Count, (eL 5 eTApiChallenge) a0.Open])) rfl rfl rfl)) (by kernel_rfl) ?_
    refine dr0 640 rfl (ok (ld_v (v := .d (.agg [eI a1.Number, eI a1.Kind, eS a1.Account, eB a1.Bound, eI a1.Since])) rfl rfl rfl)) (by kernel_rfl) ?_
    obtain ⟨y13, h14, h⟩ := bind_inv h
    refine dr1 704 rfl (mem' := [(640, .row true 1 (y13.map eU8)), (128, .var .mine [.d (eI a1.Number), .d (eI a1.Kind), .d (eS a1.Account), .d (eB a1.Bound), .d (eI a1.Since)]), (64, .var .mine [.d (eU64 a0.Secret), .d (eI a0.Count), .d ((eL 5 eTApiChallenge) a0.Open)])]) (call_ok (v := .ref 640 y13.length 0 y13.length) (u := [(640, .row true 1 (y13.map eU8))]) (ar_d (eTApiChallenges (TApiChallenges.mk a0.Secret a0.Count a0.Open)) (ar_d (eTApiChallenge (TApiChallenge.mk a1.Number a1.Kind a1.Account a1.Bound a1.Since)) ar_nil)) rfl (challengeBytesOK (TApiChallenges.mk a0.Secret a0.Count a0.Open) (TApiChallenge.mk a1.Number a1.Kind a1.Account a1.Bound a1.Since) y13 h14) rfl) rfl (by kernel_rfl) ?_
    refine dr0 768 rfl (ok (b2s (contR (xs := y13) rfl rfl rfl))) (by kernel_rfl) ?_
    refine dr0 832 rfl (ok (ld_v (v := .d (.agg [eU64 a0.Secret, eI a0.Count, (eL 5 eTApiChallenge) a0.Open])) rfl rfl rfl)) (by kernel_rfl) ?_
    refine dr0 896 rfl (ok (ld_v (v := .d (.agg [eI a1.Number, eI a1.Kind, eS a1.Account, eB a1.Bound, eI a1.Since])) rfl rfl rfl)) (by kernel_rfl) ?_
    obtain ⟨y15, h16, h⟩ := bind_inv h
    refine dr1 960 rfl (mem' := [(896, .row true 1 (y15.map eU8)), (640, .row true 1 (y13.map eU8)), (128, .var .mine [.d (eI a1.Number), .d (eI a1.Kind), .d (eS a1.Account), .d (eB a1.Bound), .d (eI a1.Since)]), (64, .var .mine [.d (eU64 a0.Secret), .d (eI a0.Count), .d ((eL 5 eTApiChallenge) a0.Open)])]) (call_ok (v := .ref 896 y15.length 0 y15.length) (u := [(896, .row true 1 (y15.map eU8))]) (ar_d (eTApiChallenges (TApiChallenges.mk a0.Secret a0.Count a0.Open)) (ar_d (eTApiChallenge (TApiChallenge.mk a1.Number a1.Kind a1.Account a1.Bound a1.Since)) ar_nil)) rfl (passkeyref29ChallengeBytesOK (TApiChallenges.mk a0.Secret a0.Count a0.Open) (TApiChallenge.mk a1.Number a1.Kind a1.Account a1.Bound a1.Since) y15 h16) rfl) rfl (by kernel_rfl) ?_
    refine dr0 1024 rfl (ok (b2s (contR (xs := y15) rfl rfl rfl))) (by kernel_rfl) ?_
    refine dr0 1088 rfl (ok (eqlS y13 y15)) (by kernel_rfl) ?_
    refine dr0 1152 rfl (ok (mv (.d (eB (y13 == y15))))) (by kernel_rfl) ?_
    rcases Bool.eq_false_or_eq_true ((y13 == y15)) with h17 | h17
    · replace h := ite_t h h17
      refine drG (isT h17) ?_
      obtain ⟨y18, h19, h⟩ := bind_inv h
      refine dr0 1216 rfl (call_ok (v := .d (eB y18)) (u := []) ar_nil rfl (passkeylaw29awakeOK  y18 h19) rfl) (by kernel_rfl) ?_
      refine dr0 1280 rfl (ok (pick_t h17 (.d (eB y18)) _)) (by kernel_rfl) ?_
      refine dr0 1344 rfl (ok (mv (.d (eB y18)))) (by kernel_rfl) ?_
      refine hK12 _ _ ?_
      simp only [thenK, blockK, keepE, updM, List.filter_cons, List.filter_nil, List.nil_append, List.cons_append, List.map_cons, List.map_nil, envE, Mem.get, Nat.reduceEqDiff, reduceIte, Option.isNone_none, Option.isNone_some, Bool.false_eq_true, List.length_cons, List.length_nil, Nat.reduceAdd, Nat.reduceMul]
      refine hK11 _ _ _ ?_
      refine rwp_ret ?_
      obtain rfl := Option.some.inj h
      try simp only [thenK, blockK, reduceIte]
      exact Or.inl (end_ok trivial (rs_t (v := .d (eB y18)) rfl rs_nil) (en_d (to_d _) en_nil) ou_nil (by first | exact eok rfl rfl rfl rfl trivial | (refine eok ?_ ?_ ?_ ?_ ?_ <;> first | rfl | exact trivial | simp [retM, Mem.get, PV.renL, PV.ren, Blk.ren, comps, rhoR, rhoM, appN, PV.refsL, PV.refs, keys, nodupB, Blk.refs, allIn, Blk.bor])))
    · replace h := ite_f h h17
      refine drGN 1216 rfl rfl h17 ?_
      refine dr0 1280 rfl (ok (pick_f h17 _ (.d (eB false)))) (by kernel_rfl) ?_
      refine dr0 1344 rfl (ok (mv (.d (eB false)))) (by kernel_rfl) ?_
      refine hK12 _ _ ?_
      simp only [thenK, blockK, keepE, updM, List.filter_cons, List.filter_nil, List.nil_append, List.cons_append, List.map_cons, List.map_nil, envE, Mem.get, Nat.reduceEqDiff, reduceIte, Option.isNone_none, Option.isNone_some, Bool.false_eq_true, List.length_cons, List.length_nil, Nat.reduceAdd, Nat.reduceMul]
      refine hK11 _ _ _ ?_
      refine rwp_ret ?_
      obtain rfl := Option.some.inj h
      try simp only [thenK, blockK, reduceIte]
      exact Or.inl (end_ok trivial (rs_t (v := .d (eB false)) rfl rs_nil) (en_d (to_d _) en_nil) ou_nil (by first | exact eok rfl rfl rfl rfl trivial | (refine eok ?_ ?_ ?_ ?_ ?_ <;> first | rfl | exact trivial | simp [retM, Mem.get, PV.renL, PV.ren, Blk.ren, comps, rhoR, rhoM, appN, PV.refsL, PV.refs, keys, nodupB, Blk.refs, allIn, Blk.bor])))

/-- passkey/passkeycast.Mod -/
def passkeycastModH : Hints := ⟨[(0, [0, 1]), (1, [4])], []⟩
def passkeycastModRc : RCode :=
  .seq (.region false [⟨some 4, .mv, [.k (.d (.int .i64 0))], none, []⟩] [0, 1]) (.seq (.region false [⟨some 5, .mv, [.t 0], none, []⟩, ⟨some 6, .cvt .u64, [.t 5], none, []⟩, ⟨some
  7, .mv, [.t 1], none, []⟩, ⟨some 8, .cvt .u64, [.t 7], none, []⟩, ⟨some 9, .bin .rem, [.t 6, .t 8], none, []⟩, ⟨some 10, .cvt .i64, [.t 9], none, []⟩, ⟨some 4, .mv, [.t 10],
  none, []⟩] [4]) .ret)
def passkeycastModRr : List RR := [.t 4]
theorem passkeycastModC : compFn Try.prog 18 passkeycastModH = some (passkeycastModRc, passkeycastModRr, 11) := by kernel_rfl
theorem passkeycastModOK (a0 : Int) (a1 : Int) (res : Int) (h : passkeycastMod a0 a1 = some res) : CallOK Try.prog 18 [.d (eI a0), .d (eI a1)] [] (.d (eI res)) [] := by
  unfold passkeycastMod at h
  refine callOK passkeycastModC fm rfl ?_
  simp only [initE, initM, nbor, List.map_cons, List.map_nil, Nat.reduceAdd]
  unfold passkeycastModRc
  refine rwp_seq fun K1 hK1 => ?_
  refine rwp_region fun K2 hK2 => ?_
  refine st0 128 rfl (ok (mv (.d (eI (0 : Int))))) ?_
  refine hK2 _ _ ?_
  simp only [thenK, blockK, keepE, updM, List.filter_cons, List.filter_nil, List.nil_append, List.cons_append, List.map_cons, List.map_nil, envE, Mem.get, Nat.reduceEqDiff, reduceIte, Option.isNone_none, Option.isNone_some, Bool.false_eq_true, List.length_cons, List.length_nil, Nat.reduceAdd, Nat.reduceMul]
  refine hK1 _ _ _ ?_
  refine rwp_seq fun K3 hK3 => ?_
  refine rwp_region fun K4 hK4 => ?_
  refine st0 192 rfl (ok (mv (.d (eI a0)))) ?_
  refine st0 256 rfl (ok (ofI64 _ a0)) ?_
  refine st0 320 rfl (ok (mv (.d (eI a1)))) ?_
  refine st0 384 rfl (ok (ofI64 _ a1)) ?_
  obtain ⟨h5, h⟩ := asq_inv h
  refine st0 448 rfl (ok (rem64 _ _ h5)) ?_
  refine st0 512 rfl (ok (toI64 _)) ?_
  refine st0 576 rfl (ok (mv (.d (eI (((BitVec.ofInt 64 a0) % (BitVec.ofInt 64 a1)).toInt))))) ?_
  refine hK4 _ _ ?_
  simp only [thenK, blockK, keepE, updM, List.filter_cons, List.filter_nil, List.nil_append, List.cons_append, List.map_cons, List.map_nil, envE, Mem.get, Nat.reduceEqDiff, reduceIte, Option.isNone_none, Option.isNone_some, Bool.false_eq_true, List.length_cons, List.length_nil, Nat.reduceAdd, Nat.reduceMul]
  refine hK3 _ _ _ ?_
  refine rwp_ret ?_
  obtain rfl := Option.some.inj h
  try simp only [thenK, blockK, reduceIte]
  exact Or.inl (end_ok trivial (rs_t (v := .d (eI (((BitVec.ofInt 64 a0) % (BitVec.ofInt 64 a1)).toInt))) rfl rs_nil) (en_d (to_d _) en_nil) ou_nil (by first | exact eok rfl rfl rfl rfl trivial | (refine eok ?_ ?_ ?_ ?_ ?_ <;> first | rfl | exact trivial | simp [retM, Mem.get, PV.renL, PV.ren, Blk.ren, comps, rhoR, rhoM, appN, PV.refsL, PV.refs, keys, nodupB, Blk.refs, allIn, Blk.bor])))

/-- passkey/passkeycast.Name -/
def passkeycastNameH : Hints := ⟨[(0, [0]), (1, [2])], []⟩
def passkeycastNameRc : RCode :=
  .seq (.region false [⟨some 2, .mv, [.k (.d (.str ⟨#[]⟩))], none, []⟩] [0]) (.seq (.region false [⟨some 3, .bslice 1 false 5 [.d (.str ⟨#[]⟩)] [0, 1, 2, 3, 4], [.k (.d (.str ⟨#[97,
  108, 105, 99, 101]⟩)), .k (.d (.str ⟨#[98, 111, 98]⟩)), .k (.d (.str ⟨#[99, 97, 114, 111, 108]⟩)), .k (.d (.str ⟨#[]⟩)), .k (.d (.str ⟨#[255]⟩))], none, []⟩, ⟨some 4, .mv, [.t
  0], none, []⟩, ⟨some 5, .call 18 false, [.t 4, .k (.d (.int .i64 5))], none, []⟩, ⟨some 6, .ia 1, [.t 3, .t 5], none, []⟩, ⟨some 7, .load 1 false, [.t 6], none, []⟩, ⟨some 2,
  .mv, [.t 7], none, []⟩] [2]) .ret)
def passkeycastNameRr : List RR := [.t 2]
theorem passkeycastNameC : compFn Try.prog 11 passkeycastNameH = some (passkeycastNameRc, passkeycastNameRr, 8) := by kernel_rfl
theorem passkeycastNameOK (a0 : Int) (res : List (BitVec 8)) (h : passkeycastName a0 = some res) : CallOK Try.prog 11 [.d (eI a0)] [] (.d (eS res)) [] := by
  unfold passkeycastName at h
  refine callOK passkeycastNameC fm rfl ?_
  simp only [initE, initM, nbor, List.map_cons, List.map_nil, Nat.reduceAdd]
  unfold passkeycastNameRc
  refine rwp_seq fun K1 hK1 => ?_
  refine rwp_region fun K2 hK2 => ?_
  refine st0 128 rfl (ok (mv (.d (eS ([] : List (BitVec 8)))))) ?_
  refine hK2 _ _ ?_
  simp only [thenK, blockK, keepE, updM, List.filter_cons, List.filter_nil, List.nil_append, List.cons_append, List.map_cons, List.map_nil, envE, Mem.get, Nat.reduceEqDiff, reduceIte, Option.isNone_none, Option.isNone_some, Bool.false_eq_true, List.length_cons, List.length_nil, Nat.reduceAdd, Nat.reduceMul]
  refine hK1 _ _ _ ?_
  refine rwp_seq fun K3 hK3 => ?_
  refine rwp_region fun K4 hK4 => ?_
  refine st1 192 rfl (mem' := [(128, .row true 1 (([([97#8, 108#8, 105#8, 99#8, 101#8] : List (BitVec 8)), ([98#8, 111#8, 98#8] : List (BitVec 8)), ([99#8, 97#8, 114#8, 111#8, 108#8] : List (BitVec 8)), ([] : List (BitVec 8)), ([255#8] : List (BitVec 8))] : List (List (BitVec 8))).map eS))]) (ok (bsl (e := eS) (ys := ([([97#8, 108#8, 105#8, 99#8, 101#8] : List (BitVec 8)), ([98#8, 111#8, 98#8] : List (BitVec 8)), ([99#8, 97#8, 114#8, 111#8, 108#8] : List (BitVec 8)), ([] : List (BitVec 8)), ([255#8] : List (BitVec 8))] : List (List (BitVec 8)))) rfl rfl rfl)) rfl ?_
  refine st0 256 rfl (ok (mv (.d (eI a0)))) ?_
  obtain ⟨y5, h6, h⟩ := bind_inv h
  refine st0 320 rfl (call_ok (v := .d (eI y5)) (u := []) (ar_d (eI a0) (ar_d (eI (5 : Int)) ar_nil)) rfl (passkeycastModOK a0 (5 : Int) y5 h6) rfl) ?_
  obtain ⟨h7, h⟩ := asq_inv h
  refine st0 384 rfl (ok (iaR (xs := ([([97#8, 108#8, 105#8, 99#8, 101#8] : List (BitVec 8)), ([98#8, 111#8, 98#8] : List (BitVec 8)), ([99#8, 97#8, 114#8, 111#8, 108#8] : List (BitVec 8)), ([] : List (BitVec 8)), ([255#8] : List (BitVec 8))] : List (List (BitVec 8)))) (e := eS) rfl rfl h7)) ?_
  refine st0 448 rfl (ok (ld_r (e := eS) (xs := ([([97#8, 108#8, 105#8, 99#8, 101#8] : List (BitVec 8)), ([98#8, 111#8, 98#8] : List (BitVec 8)), ([99#8, 97#8, 114#8, 111#8, 108#8] : List (BitVec 8)), ([] : List (BitVec 8)), ([255#8] : List (BitVec 8))] : List (List (BitVec 8)))) ([] : List (BitVec 8)) rfl rfl (by have := h7; simp at this ⊢; omega) rfl)) ?_
  refine st0 512 rfl (ok (mv (.d (eS (([([97#8, 108#8, 105#8, 99#8, 101#8] : List (BitVec 8)), ([98#8, 111#8, 98#8] : List (BitVec 8)), ([99#8, 97#8, 114#8, 111#8, 108#8] : List (BitVec 8)), ([] : List (BitVec 8)), ([255#8] : List (BitVec 8))] : List (List (BitVec 8))).getD (0 + y5.toNat) ([] : List (BitVec 8))))))) ?_
  refine hK4 _ _ ?_
  simp only [thenK, blockK, keepE, updM, List.filter_cons, List.filter_nil, List.nil_append, List.cons_append, List.map_cons, List.map_nil, envE, Mem.get, Nat.reduceEqDiff, reduceIte, Option.isNone_none, Option.isNone_some, Bool.false_eq_true, List.length_cons, List.length_nil, Nat.reduceAdd, Nat.reduceMul]
  refine hK3 _ _ _ ?_
  refine rwp_ret ?_
  obtain rfl := Option.some.inj h
  try simp only [thenK, blockK, reduceIte]
  exact Or.inl (end_ok trivial (rs_t (v := .d (eS (([([97#8, 108#8, 105#8, 99#8, 101#8] : List (BitVec 8)), ([98#8, 111#8, 98#8] : List (BitVec 8)), ([99#8, 97#8, 114#8, 111#8, 108#8] : List (BitVec 8)), ([] : List (BitVec 8)), ([255#8] : List (BitVec 8))] : List (List (BitVec 8))).getD (0 + y5.toNat) ([] : List (BitVec 8))))) rfl rs_nil) (en_d (to_d _) en_nil) ou_nil (by first | exact eok rfl rfl rfl rfl trivial | (refine eok ?_ ?_ ?_ ?_ ?_ <;> first | rfl | exact trivial | simp [retM, Mem.get, PV.renL, PV.ren, Blk.ren, comps, rhoR, rhoM, appN, PV.refsL, PV.refs, keys, nodupB, Blk.refs, allIn, Blk.bor])))

end Go.Proofs.Ty
