/- Each Go function comes to what its plain function says. PRINTED by a program of this session (ty.py). -/
import Derived.Test.YthkmingfiofooaaS2
set_option linter.unusedVariables false
set_option linter.unusedSimpArgs false
set_option maxHeartbeats 4000000
set_option maxRecDepth 10000
namespace Go.Proofs.Ty
open Go Go.RW Go.Proofs
/-- passkey/passkeylaw2.DigestSums -/
def passkeylaw2DigestSumsH : Hints := ⟨[(0, [0, 1, 2]), (1, [0, 1, 2, 9]), (2, [6]), (3, [6])], []⟩
def passkeylaw2DigestSumsRc : RCode :=
  .seq (.region false [⟨some 6, .mv, [.k (.d (.bool false))], none, []⟩] [0, 1, 2]) (.seq (.seq (.region false [⟨some 7, .mv, [.t 2], none, []⟩, ⟨some 8, .len, [.t 7], none, []⟩,
  ⟨some 9, .bin .gtr, [.t 8, .k (.d (.int .i64 1000))], none, []⟩] [0, 1, 2, 9]) (.cond (.t 9) (.seq (.region false [⟨some 10, .call 7 false, [], none, []⟩, ⟨some 6, .mv, [.t 10],
  none, []⟩] [6]) .ret) .skip)) (.seq (.region false [⟨some 11, .mv, [.t 0], none, []⟩, ⟨some 12, .mv, [.t 1], none, []⟩, ⟨some 13, .mv, [.t 2], none, []⟩, ⟨some 14, .call 8 false,
  [.t 11, .t 12, .t 13], none, []⟩, ⟨some 15, .mv, [.t 0], none, []⟩, ⟨some 16, .mv, [.t 1], none, []⟩, ⟨some 17, .mv, [.t 2], none, []⟩, ⟨some 18, .call 9 false, [.t 15, .t 16, .t
  17], none, []⟩, ⟨some 19, .bin .eql, [.t 14, .t 18], none, []⟩, ⟨some 20, .mv, [.t 19], none, []⟩, ⟨some 21, .call 7 false, [], some (20, true), []⟩, ⟨some 22, .pick, [.t 20, .t
  21, .k (.d (.bool false))], none, []⟩, ⟨some 6, .mv, [.t 22], none, []⟩] [6]) .ret))
def passkeylaw2DigestSumsRr : List RR := [.t 6]
theorem passkeylaw2DigestSumsC : compFn Try.prog 3 passkeylaw2DigestSumsH = some (passkeylaw2DigestSumsRc, passkeylaw2DigestSumsRr, 23) := by kernel_rfl
theorem passkeylaw2DigestSumsOK (a0 : BitVec 64) (a1 : BitVec 64) (a2 : List (BitVec 8)) (res : Bool) (h : passkeylaw2DigestSums a0 a1 a2 = some res) : CallOK Try.prog 3 [.d (eU64 a0), .d (eU64 a1), .d ((eL 1 eU8) a2)] [] (.d (eB res)) [] := by
  unfold passkeylaw2DigestSums at h
  refine callOK passkeylaw2DigestSumsC fm rfl ?_
  simp only [initE, initM, nbor, List.map_cons, List.map_nil, Nat.reduceAdd]
  unfold passkeylaw2DigestSumsRc
  refine rwp_seq fun K1 hK1 => ?_
  refine rwp_region fun K2 hK2 => ?_
  refine st0 128 rfl (ok (mv (.d (eB false)))) ?_
  refine hK2 _ _ ?_
  simp only [thenK, blockK, keepE, updM, List.filter_cons, List.filter_nil, List.nil_append, List.cons_append, List.map_cons, List.map_nil, envE, Mem.get, Nat.reduceEqDiff, reduceIte, Option.isNone_none, Option.isNone_some, Bool.false_eq_true, List.length_cons, List.length_nil, Nat.reduceAdd, Nat.reduceMul]
  refine hK1 _ _ _ ?_
  refine rwp_seq fun K3 hK3 => ?_
  refine rwp_seq fun K4 hK4 => ?_
  refine rwp_region fun K5 hK5 => ?_
  refine st0 192 rfl (ok (mv (.d ((eL 1 eU8) a2)))) ?_
  refine st0 256 rfl (ok (lenL _ _)) ?_
  refine st0 320 rfl (ok (gtrI _ (1000 : Int))) ?_
  refine hK5 _ _ ?_
  simp only [thenK, blockK, keepE, updM, List.filter_cons, List.filter_nil, List.nil_append, List.cons_append, List.map_cons, List.map_nil, envE, Mem.get, Nat.reduceEqDiff, reduceIte, Option.isNone_none, Option.isNone_some, Bool.false_eq_true, List.length_cons, List.length_nil, Nat.reduceAdd, Nat.reduceMul]
  refine hK4 _ _ _ ?_
  rcases Bool.eq_false_or_eq_true ((decide ((1000 : Int) < (a2.length : Int)))) with h6 | h6
  · replace h := ite_t h h6
    refine rwp_t (isT h6) ?_
    refine rwp_seq fun K7 hK7 => ?_
    refine rwp_region fun K8 hK8 => ?_
    obtain ⟨y9, h10, h⟩ := bind_inv h
    refine st0 384 rfl (call_ok (v := .d (eB y9)) (u := []) ar_nil rfl (passkeylaw2awakeOK  y9 h10) rfl) ?_
    refine st0 448 rfl (ok (mv (.d (eB y9)))) ?_
    refine hK8 _ _ ?_
    simp only [thenK, blockK, keepE, updM, List.filter_cons, List.filter_nil, List.nil_append, List.cons_append, List.map_cons, List.map_nil, envE, Mem.get, Nat.reduceEqDiff, reduceIte, Option.isNone_none, Option.isNone_some, Bool.false_eq_true, List.length_cons, List.length_nil, Nat.reduceAdd, Nat.reduceMul]
    refine hK7 _ _ _ ?_
    refine rwp_ret ?_
    obtain rfl := Option.some.inj h
    try simp only [thenK, blockK, reduceIte]
    exact end_ok trivial (rs_t (v := .d (eB y9)) rfl rs_nil) (en_d (to_d _) en_nil) ou_nil (by first | exact eok rfl rfl rfl rfl trivial | (refine eok ?_ ?_ ?_ ?_ ?_ <;> first | rfl | exact trivial | simp [retM, Mem.get, PV.renL, PV.ren, Blk.ren, comps, rhoR, rhoM, appN, PV.refsL, PV.refs, keys, nodupB, Blk.refs, allIn, Blk.bor]))
  · replace h := ite_f h h6
    refine rwp_f (isF h6) ?_
    refine rwp_skip ?_
    refine hK3 _ _ _ ?_
    refine rwp_seq fun K11 hK11 => ?_
    refine rwp_region fun K12 hK12 => ?_
    refine st0 384 rfl (ok (mv (.d (eU64 a0)))) ?_
    refine st0 448 rfl (ok (mv (.d (eU64 a1)))) ?_
    refine st0 512 rfl (ok (mv (.d ((eL 1 eU8) a2)))) ?_
    obtain ⟨y13, h14, h⟩ := bind_inv h
    refine st0 576 rfl (call_ok (v := .d (eU64 y13)) (u := []) (ar_d (eU64 a0) (ar_d (eU64 a1) (ar_d ((eL 1 eU8) a2) ar_nil))) rfl (digestSumOK a0 a1 a2 y13 h14) rfl) ?_
    refine st0 640 rfl (ok (mv (.d (eU64 a0)))) ?_
    refine st0 704 rfl (ok (mv (.d (eU64 a1)))) ?_
    refine st0 768 rfl (ok (mv (.d ((eL 1 eU8) a2)))) ?_
    obtain ⟨y15, h16, h⟩ := bind_inv h
    refine st0 832 rfl (call_ok (v := .d (eU64 y15)) (u := []) (ar_d (eU64 a0) (ar_d (eU64 a1) (ar_d ((eL 1 eU8) a2) ar_nil))) rfl (passkeyref1SumOK a0 a1 a2 y15 h16) rfl) ?_
    refine st0 896 rfl (ok (eql64 _ _)) ?_
    refine st0 960 rfl (ok (mv (.d (eB (y13 == y15))))) ?_
    rcases Bool.eq_false_or_eq_true ((y13 == y15)) with h17 | h17
    · replace h := ite_t h h17
      refine stG (isT h17) ?_
      obtain ⟨y18, h19, h⟩ := bind_inv h
      refine st0 1024 rfl (call_ok (v := .d (eB y18)) (u := []) ar_nil rfl (passkeylaw2awakeOK  y18 h19) rfl) ?_
      refine st0 1088 rfl (ok (pick_t h17 (.d (eB y18)) _)) ?_
      refine st0 1152 rfl (ok (mv (.d (eB y18)))) ?_
      refine hK12 _ _ ?_
      simp only [thenK, blockK, keepE, updM, List.filter_cons, List.filter_nil, List.nil_append, List.cons_append, List.map_cons, List.map_nil, envE, Mem.get, Nat.reduceEqDiff, reduceIte, Option.isNone_none, Option.isNone_some, Bool.false_eq_true, List.length_cons, List.length_nil, Nat.reduceAdd, Nat.reduceMul]
      refine hK11 _ _ _ ?_
      refine rwp_ret ?_
      obtain rfl := Option.some.inj h
      try simp only [thenK, blockK, reduceIte]
      exact end_ok trivial (rs_t (v := .d (eB y18)) rfl rs_nil) (en_d (to_d _) en_nil) ou_nil (by first | exact eok rfl rfl rfl rfl trivial | (refine eok ?_ ?_ ?_ ?_ ?_ <;> first | rfl | exact trivial | simp [retM, Mem.get, PV.renL, PV.ren, Blk.ren, comps, rhoR, rhoM, appN, PV.refsL, PV.refs, keys, nodupB, Blk.refs, allIn, Blk.bor]))
    · replace h := ite_f h h17
      refine stGN 1024 rfl rfl h17 ?_
      refine st0 1088 rfl (ok (pick_f h17 _ (.d (eB false)))) ?_
      refine st0 1152 rfl (ok (mv (.d (eB false)))) ?_
      refine hK12 _ _ ?_
      simp only [thenK, blockK, keepE, updM, List.filter_cons, List.filter_nil, List.nil_append, List.cons_append, List.map_cons, List.map_nil, envE, Mem.get, Nat.reduceEqDiff, reduceIte, Option.isNone_none, Option.isNone_some, Bool.false_eq_true, List.length_cons, List.length_nil, Nat.reduceAdd, Nat.reduceMul]
      refine hK11 _ _ _ ?_
      refine rwp_ret ?_
      obtain rfl := Option.some.inj h
      try simp only [thenK, blockK, reduceIte]
      exact end_ok trivial (rs_t (v := .d (eB false)) rfl rs_nil) (en_d (to_d _) en_nil) ou_nil (by first | exact eok rfl rfl rfl rfl trivial | (refine eok ?_ ?_ ?_ ?_ ?_ <;> first | rfl | exact trivial | simp [retM, Mem.get, PV.renL, PV.ren, Blk.ren, comps, rhoR, rhoM, appN, PV.refsL, PV.refs, keys, nodupB, Blk.refs, allIn, Blk.bor]))

/-- passkey/passkeyref1.Words -/
def passkeyref1WordsH : Hints := ⟨[(0, [0]), (1, [0, 3]), (2, [0, 3, 4]), (3, [0, 3, 4, 9]), (5, [0, 3, 4, 5]), (6, [0, 3, 4, 5, 13]), (8, [0, 3, 4, 5]), (7, [0, 3, 4, 5]), (4, [0, 3, 4]), (9, [2])], []⟩
def passkeyref1WordsRc : RCode :=
  .seq (.region false [⟨some 2, .mv, [.k (.nil 1)], none, []⟩] [0]) (.seq (.region false [⟨some 3, .mv, [.k (.nil 1)], none, []⟩] [0, 3]) (.seq (.seq (.region false [⟨some 4, .mv,
  [.k (.d (.int .i64 0))], none, []⟩] [0, 3, 4]) (.block 0 (.loop [] (.seq (.seq (.region false [⟨some 6, .mv, [.t 4], none, []⟩, ⟨some 7, .mv, [.t 0], none, []⟩, ⟨some 8, .len,
  [.t 7], none, []⟩, ⟨some 9, .bin .lss, [.t 6, .t 8], none, []⟩] [0, 3, 4, 9]) (.cond (.t 9) .skip (.exit 0))) (.seq (.block 1 (.seq (.region false [⟨some 5, .mv, [.k (.d (.int
  .i64 7))], none, []⟩] [0, 3, 4, 5]) (.block 2 (.loop [] (.seq (.seq (.region false [⟨some 12, .mv, [.t 5], none, []⟩, ⟨some 13, .bin .geq, [.t 12, .k (.d (.int .i64 0))], none,
  []⟩] [0, 3, 4, 5, 13]) (.cond (.t 13) .skip (.exit 2))) (.seq (.block 3 (.region false [⟨some 16, .mv, [.t 3], none, []⟩, ⟨some 17, .mv, [.t 0], none, []⟩, ⟨some 18, .mv, [.t 4],
  none, []⟩, ⟨some 19, .ia 1, [.t 17, .t 18], none, []⟩, ⟨some 20, .load 1 false, [.t 19], none, []⟩, ⟨some 21, .mv, [.t 5], none, []⟩, ⟨some 22, .bin .mul, [.k (.d (.int .i64 8)),
  .t 21], none, []⟩, ⟨some 23, .cvt .u64, [.t 22], none, []⟩, ⟨some 24, .bin .shr, [.t 20, .t 23], none, []⟩, ⟨some 25, .cvt .u8, [.t 24], none, []⟩, ⟨some 26, .bslice 1 false 1
  [.d (.int .u8 0)] [0], [.t 25], none, []⟩, ⟨some 27, .app 1 140737488355328, [.t 16, .t 26], none, []⟩, ⟨some 3, .mv, [.t 27], none, []⟩] [0, 3, 4, 5])) (.region false [⟨some 14,
  .mv, [.t 5], none, []⟩, ⟨some 15, .bin .sub, [.t 14, .k (.d (.int .i64 1))], none, []⟩, ⟨some 5, .mv, [.t 15], none, []⟩] [0, 3, 4, 5]))))))) (.region false [⟨some 10, .mv, [.t
  4], none, []⟩, ⟨some 11, .bin .add, [.t 10, .k (.d (.int .i64 1))], none, []⟩, ⟨some 4, .mv, [.t 11], none, []⟩] [0, 3, 4])))))) (.seq (.region false [⟨some 28, .mv, [.t 3],
  none, []⟩, ⟨some 2, .mv, [.t 28], none, []⟩] [2]) .ret)))
def passkeyref1WordsRr : List RR := [.t 2]
theorem passkeyref1WordsC : compFn Try.prog 11 passkeyref1WordsH = some (passkeyref1WordsRc, passkeyref1WordsRr, 29) := by kernel_rfl
theorem passkeyref1WordsOK (a0 : List (BitVec 64)) (res : List (BitVec 8)) (h : passkeyref1Words a0 = some res) : CallOK Try.prog 11 [.d ((eL 1 eU64) a0)] [] (.ref 0 res.length 0 res.length) [(0, .row true 1 (res.map eU8))] := by
  unfold passkeyref1Words at h
  refine callOK passkeyref1WordsC fm rfl ?_
  simp only [initE, initM, nbor, List.map_cons, List.map_nil, Nat.reduceAdd]
  unfold passkeyref1WordsRc
  refine rwp_seq fun K1 hK1 => ?_
  refine rwp_region fun K2 hK2 => ?_
  refine st0 128 rfl (ok (mv (.nil 1))) ?_
  refine hK2 _ _ ?_
  simp only [thenK, blockK, keepE, updM, List.filter_cons, List.filter_nil, List.nil_append, List.cons_append, List.map_cons, List.map_nil, envE, Mem.get, Nat.reduceEqDiff, reduceIte, Option.isNone_none, Option.isNone_some, Bool.false_eq_true, List.length_cons, List.length_nil, Nat.reduceAdd, Nat.reduceMul]
  refine hK1 _ _ _ ?_
  refine rwp_seq fun K3 hK3 => ?_
  refine rwp_region fun K4 hK4 => ?_
  refine st0 192 rfl (ok (mv (.nil 1))) ?_
  refine hK4 _ _ ?_
  simp only [thenK, blockK, keepE, updM, List.filter_cons, List.filter_nil, List.nil_append, List.cons_append, List.map_cons, List.map_nil, envE, Mem.get, Nat.reduceEqDiff, reduceIte, Option.isNone_none, Option.isNone_some, Bool.false_eq_true, List.length_cons, List.length_nil, Nat.reduceAdd, Nat.reduceMul]
  refine hK3 _ _ _ ?_
  refine rwp_join ([], []) 2816 (fun env mem => ∃ (v5 : List (BitVec 8)), passkeyref1WordsJ1 v5 = some res ∧ env = [(3, .ref 2433 v5.length 0 v5.length)] ∧ mem = [(2433, .row true 1 (v5.map eU8))]) (fun _ _ hI => ?_) (fun K6 hK6 => ?_)
  · obtain ⟨v5, h, rfl, rfl⟩ := hI
    unfold passkeyref1WordsJ1 at h
    refine rwp_seq fun K7 hK7 => ?_
    refine rwp_region fun K8 hK8 => ?_
    refine st0 2880 rfl (ok (mv (.ref 2433 v5.length 0 v5.length))) ?_
    refine st0 2944 rfl (ok (mv (.ref 2433 v5.length 0 v5.length))) ?_
    refine hK8 _ _ ?_
    simp only [thenK, blockK, keepE, updM, List.filter_cons, List.filter_nil, List.nil_append, List.cons_append, List.map_cons, List.map_nil, envE, Mem.get, Nat.reduceEqDiff, reduceIte, Option.isNone_none, Option.isNone_some, Bool.false_eq_true, List.length_cons, List.length_nil, Nat.reduceAdd, Nat.reduceMul]
    refine hK7 _ _ _ ?_
    refine rwp_ret ?_
    obtain rfl := Option.some.inj h
    try simp only [thenK, blockK, reduceIte]
    exact end_ok trivial (rs_t (v := .ref 2433 v5.length 0 v5.length) rfl rs_nil) (en_ref en_nil) ou_nil (by first | exact eok rfl rfl rfl rfl (And.intro (And.intro rfl rfl) trivial) | (refine eok ?_ ?_ ?_ ?_ ?_ <;> first | rfl | exact (And.intro (And.intro rfl rfl) trivial) | simp [retM, Mem.get, PV.renL, PV.ren, Blk.ren, comps, rhoR, rhoM, appN, PV.refsL, PV.refs, keys, nodupB, Blk.refs, allIn, Blk.bor]))
  · refine rwp_seq fun K9 hK9 => ?_
    refine rwp_region fun K10 hK10 => ?_
    refine st0 256 rfl (ok (mv (.d (eI (0 : Int))))) ?_
    refine hK10 _ _ ?_
    simp only [thenK, blockK, keepE, updM, List.filter_cons, List.filter_nil, List.nil_append, List.cons_append, List.map_cons, List.map_nil, envE, Mem.get, Nat.reduceEqDiff, reduceIte, Option.isNone_none, Option.isNone_some, Bool.false_eq_true, List.length_cons, List.length_nil, Nat.reduceAdd, Nat.reduceMul]
    refine hK9 _ _ _ ?_
    refine rwp_block fun K11 hK11 => ?_
    refine rwp_loop ([(3, 2433)], []) 2496 (fun k env mem => ∃ (v12 : List (BitVec 8)) (v13 : Int), passkeyref1WordsL2 a0 k v12 v13 = some res ∧ env = [(0, .d ((eL 1 eU64) a0)), (3, .ref 2433 v12.length 0 v12.length), (4, .d (eI v13))] ∧ mem = [(2433, .row true 1 (v12.map eU8))]) FUEL ⟨_, _, ⟨_, _, h, rfl, rfl⟩, ⟨rfl, ⟨⟨rfl, rfl⟩, ⟨⟨rfl, rfl⟩, ⟨⟨rfl, rfl⟩, trivial⟩⟩⟩, ⟨⟨rfl, rfl⟩, trivial⟩⟩, rfl⟩ (fun k2 env1 mem1 hI K14 hK14 => ?_)
    obtain ⟨v12, v13, h, rfl, rfl⟩ := hI
    cases k2 with
    | zero => simp [passkeyref1WordsL2] at h
    | succ k2 =>
      rw [passkeyref1WordsL2] at h
      refine rwp_seq fun K15 hK15 => ?_
      refine rwp_seq fun K16 hK16 => ?_
      refine rwp_region fun K17 hK17 => ?_
      refine st0 2560 rfl (ok (mv (.d (eI v13)))) ?_
      refine st0 2624 rfl (ok (mv (.d ((eL 1 eU64) a0)))) ?_
      refine st0 2688 rfl (ok (lenL _ _)) ?_
      refine st0 2752 rfl (ok (lssI _ _)) ?_
      refine hK17 _ _ ?_
      simp only [thenK, blockK, keepE, updM, List.filter_cons, List.filter_nil, List.nil_append, List.cons_append, List.map_cons, List.map_nil, envE, Mem.get, Nat.reduceEqDiff, reduceIte, Option.isNone_none, Option.isNone_some, Bool.false_eq_true, List.length_cons, List.length_nil, Nat.reduceAdd, Nat.reduceMul]
      refine hK16 _ _ _ ?_
      rcases Bool.eq_false_or_eq_true ((decide (v13 < (a0.length : Int)))) with h18 | h18
      · replace h := ite_t h h18
        refine rwp_t (isT h18) ?_
        refine rwp_skip ?_
        refine hK15 _ _ _ ?_
        refine rwp_join ([], []) 4288 (fun env mem => ∃ (v19 : List (BitVec 8)), passkeyref1WordsJ3 (passkeyref1WordsL2 a0 k2) v13 v19 = some res ∧ env = [(0, .d ((eL 1 eU64) a0)), (3, .ref 2433 v19.length 0 v19.length), (4, .d (eI v13))] ∧ mem = [(2433, .row true 1 (v19.map eU8))]) (fun _ _ hI => ?_) (fun K20 hK20 => ?_)
        · obtain ⟨v19, h, rfl, rfl⟩ := hI
          unfold passkeyref1WordsJ3 at h
          refine rwp_region fun K21 hK21 => ?_
          refine st0 4352 rfl (ok (mv (.d (eI v13)))) ?_
          refine st0 4416 rfl (ok (addI _ (1 : Int))) ?_
          refine st0 4480 rfl (ok (mv (.d (eI (w64 (v13 + (1 : Int))))))) ?_
          refine hK21 _ _ ?_
          simp only [thenK, blockK, keepE, updM, List.filter_cons, List.filter_nil, List.nil_append, List.cons_append, List.map_cons, List.map_nil, envE, Mem.get, Nat.reduceEqDiff, reduceIte, Option.isNone_none, Option.isNone_some, Bool.false_eq_true, List.length_cons, List.length_nil, Nat.reduceAdd, Nat.reduceMul]
          exact hK14.out _ _ _ k2 (Nat.lt_succ_self k2) ⟨_, _, ⟨_, _, h, rfl, rfl⟩, ⟨rfl, ⟨⟨rfl, rfl⟩, ⟨⟨rfl, rfl⟩, ⟨⟨rfl, rfl⟩, trivial⟩⟩⟩, ⟨⟨rfl, rfl⟩, trivial⟩⟩, rfl⟩
        · refine rwp_block fun K22 hK22 => ?_
          refine rwp_seq fun K23 hK23 => ?_
          refine rwp_region fun K24 hK24 => ?_
          refine st0 2816 rfl (ok (mv (.d (eI (7 : Int))))) ?_
          refine hK24 _ _ ?_
          simp only [thenK, blockK, keepE, updM, List.filter_cons, List.filter_nil, List.nil_append, List.cons_append, List.map_cons, List.map_nil, envE, Mem.get, Nat.reduceEqDiff, reduceIte, Option.isNone_none, Option.isNone_some, Bool.false_eq_true, List.length_cons, List.length_nil, Nat.reduceAdd, Nat.reduceMul]
          refine hK23 _ _ _ ?_
          refine rwp_block fun K25 hK25 => ?_
          refine rwp_loop ([], []) 4096 (fun k env mem => ∃ (v26 : List (BitVec 8)) (v27 : Int), passkeyref1WordsL4 (passkeyref1WordsL2 a0 k2) a0 v13 k v26 v27 = some res ∧ env = [(0, .d ((eL 1 eU64) a0)), (3, .ref 2433 v26.length 0 v26.length), (4, .d (eI v13)), (5, .d (eI v27))] ∧ mem = [(2433, .row true 1 (v26.map eU8))]) FUEL ⟨_, _, ⟨_, _, h, rfl, rfl⟩, ⟨rfl, ⟨⟨rfl, rfl⟩, ⟨⟨rfl, rfl⟩, ⟨⟨rfl, rfl⟩, ⟨⟨rfl, rfl⟩, trivial⟩⟩⟩⟩, ⟨⟨rfl, rfl⟩, trivial⟩⟩, rfl⟩ (fun k4 env1 mem1 hI K28 hK28 => ?_)
          obtain ⟨v26, v27, h, rfl, rfl⟩ := hI
          cases k4 with
          | zero => simp [passkeyref1WordsL4] at h
          | succ k4 =>
            rw [passkeyref1WordsL4] at h
            refine rwp_seq fun K29 hK29 => ?_
            refine rwp_seq fun K30 hK30 => ?_
            refine rwp_region fun K31 hK31 => ?_
            refine st0 4160 rfl (ok (mv (.d (eI v27)))) ?_
            refine st0 4224 rfl (ok (geqI _ (0 : Int))) ?_
            refine hK31 _ _ ?_
            simp only [thenK, blockK, keepE, updM, List.filter_cons, List.filter_nil, List.nil_append, List.cons_append, List.map_cons, List.map_nil, envE, Mem.get, Nat.reduceEqDiff, reduceIte, Option.isNone_none, Option.isNone_some, Bool.false_eq_true, List.length_cons, List.length_nil, Nat.reduceAdd, Nat.reduceMul]
            refine hK30 _ _ _ ?_
            rcases Bool.eq_false_or_eq_true ((decide ((0 : Int) ≤ v27))) with h32 | h32
            · replace h := ite_t h h32
              refine rwp_t (isT h32) ?_
              refine rwp_skip ?_
              refine hK29 _ _ _ ?_
              refine rwp_seq fun K33 hK33 => ?_
              refine rwp_block fun K34 hK34 => ?_
              refine rwp_region fun K35 hK35 => ?_
              refine st0 4288 rfl (ok (mv (.ref 2433 v26.length 0 v26.length))) ?_
              refine st0 4352 rfl (ok (mv (.d ((eL 1 eU64) a0)))) ?_
              refine st0 4416 rfl (ok (mv (.d (eI v13)))) ?_
              obtain ⟨h36, h⟩ := asq_inv h
              refine st0 4480 rfl (ok (iaL (e := eU64) (xs := a0) 0#64 h36)) ?_
              refine st0 4544 rfl (ok (ld_i (v := eU64 (a0.getD v13.toNat 0#64)) rfl rfl)) ?_
              refine st0 4608 rfl (ok (mv (.d (eI v27)))) ?_
              refine st0 4672 rfl (ok (mulI (8 : Int) _)) ?_
              refine st0 4736 rfl (ok (ofI64 _ (w64 ((8 : Int) * v27)))) ?_
              obtain ⟨v37, h38, h⟩ := lett_inv h
              refine st0e 4800 rfl (ok (shr64_64 _ _)) (congrArg (fun z => PV.d (eU64 z)) h38) ?_
              refine st0 4864 rfl (ok (cvt64_8 _)) ?_
              refine st1 4928 rfl (mem' := [(4864, .row true 1 (([(v37.setWidth 8)] : List (BitVec 8)).map eU8)), (2433, .row true 1 (v26.map eU8))]) (ok (bsl (e := eU8) (ys := ([(v37.setWidth 8)] : List (BitVec 8))) rfl rfl rfl)) rfl ?_
              obtain ⟨h39, h⟩ := asq_inv h
              refine st1 4992 rfl (mem' := [(2433, .row true 1 ((v26 ++ ([(v37.setWidth 8)] : List (BitVec 8))).map eU8)), (4864, .row true 1 (([(v37.setWidth 8)] : List (BitVec 8)).map eU8))]) (ok (appR (e := eU8) (xs := v26) (ys := ([(v37.setWidth 8)] : List (BitVec 8))) (contR (xs := ([(v37.setWidth 8)] : List (BitVec 8))) rfl rfl rfl) rfl rfl rfl h39)) rfl ?_
              refine st0 5056 rfl (ok (mv (.ref 2433 (((v26 ++ ([(v37.setWidth 8)] : List (BitVec 8)))).length) 0 (((v26 ++ ([(v37.setWidth 8)] : List (BitVec 8)))).length)))) ?_
              refine hK35 _ _ ?_
              simp only [thenK, blockK, keepE, updM, List.filter_cons, List.filter_nil, List.nil_append, List.cons_append, List.map_cons, List.map_nil, envE, Mem.get, Nat.reduceEqDiff, reduceIte, Option.isNone_none, Option.isNone_some, Bool.false_eq_true, List.length_cons, List.length_nil, Nat.reduceAdd, Nat.reduceMul]
              refine hK34 _ _ _ ?_
              refine hK33 _ _ _ ?_
              refine rwp_region fun K40 hK40 => ?_
              refine st0 5120 rfl (ok (mv (.d (eI v27)))) ?_
              refine st0 5184 rfl (ok (subI _ (1 : Int))) ?_
              refine st0 5248 rfl (ok (mv (.d (eI (w64 (v27 - (1 : Int))))))) ?_
              refine hK40 _ _ ?_
              simp only [thenK, blockK, keepE, updM, List.filter_cons, List.filter_nil, List.nil_append, List.cons_append, List.map_cons, List.map_nil, envE, Mem.get, Nat.reduceEqDiff, reduceIte, Option.isNone_none, Option.isNone_some, Bool.false_eq_true, List.length_cons, List.length_nil, Nat.reduceAdd, Nat.reduceMul]
              exact hK28.out _ _ _ k4 (Nat.lt_succ_self k4) ⟨_, _, ⟨_, _, h, rfl, rfl⟩, ⟨rfl, ⟨⟨rfl, rfl⟩, ⟨⟨rfl, rfl⟩, ⟨⟨rfl, rfl⟩, ⟨⟨rfl, rfl⟩, trivial⟩⟩⟩⟩, ⟨⟨rfl, rfl⟩, trivial⟩⟩, rfl⟩
            · replace h := ite_f h h32
              refine rwp_f (isF h32) ?_
              refine rwp_exit ?_
              refine hK25 _ _ _ ?_
              refine hK22 _ _ _ ?_
              exact hK20 _ _ _ ⟨_, _, ⟨_, h, rfl, rfl⟩, ⟨rfl, ⟨⟨rfl, rfl⟩, ⟨⟨rfl, rfl⟩, ⟨⟨rfl, rfl⟩, trivial⟩⟩⟩, ⟨⟨rfl, rfl⟩, trivial⟩⟩, rfl⟩
      · replace h := ite_f h h18
        refine rwp_f (isF h18) ?_
        refine rwp_exit ?_
        refine hK11 _ _ _ ?_
        exact hK6 _ _ _ ⟨_, _, ⟨_, h, rfl, rfl⟩, ⟨rfl, ⟨⟨rfl, rfl⟩, trivial⟩, ⟨⟨rfl, rfl⟩, trivial⟩⟩, rfl⟩

/-- passkey/passkeylaw2.DigestWords -/
def passkeylaw2DigestWordsH : Hints := ⟨[(0, [0, 1]), (1, [0, 1, 13]), (2, [4]), (3, [0, 1, 5]), (4, [4])], []⟩
def passkeylaw2DigestWordsRc : RCode :=
  .seq (.region false [⟨some 4, .mv, [.k (.d (.bool false))], none, []⟩] [0, 1]) (.seq (.seq (.region false [⟨some 6, .mv, [.t 0], none, []⟩, ⟨some 7, .len, [.t 6], none, []⟩, ⟨some
  8, .bin .gtr, [.t 7, .k (.d (.int .i64 100))], none, []⟩, ⟨some 9, .mv, [.t 8], none, []⟩, ⟨some 10, .mv, [.t 1], some (9, false), []⟩, ⟨some 11, .len, [.t 10], some (9, false),
  []⟩, ⟨some 12, .bin .gtr, [.t 11, .k (.d (.int .i64 100))], some (9, false), []⟩, ⟨some 13, .pick, [.t 9, .k (.d (.bool true)), .t 12], none, []⟩] [0, 1, 13]) (.cond (.t 13)
  (.seq (.region false [⟨some 14, .call 7 false, [], none, []⟩, ⟨some 4, .mv, [.t 14], none, []⟩] [4]) .ret) .skip)) (.seq (.region false [⟨some 15, .mv, [.t 0], none, []⟩, ⟨some
  16, .app 1 17592186044416, [.k (.nil 1), .t 15], none, []⟩, ⟨some 17, .mv, [.t 1], none, []⟩, ⟨some 18, .app 1 17592186044416, [.t 16, .t 17], none, []⟩, ⟨some 5, .mv, [.t 18],
  none, []⟩] [0, 1, 5]) (.seq (.region true [⟨some 19, .mv, [.t 5], none, []⟩, ⟨some 20, .call 10 true, [.t 19], none, [0]⟩, ⟨some 21, .b2s, [.t 20], none, [0, 1]⟩, ⟨some 22, .mv,
  [.t 5], none, []⟩, ⟨some 23, .call 11 true, [.t 22], none, [0, 1, 3]⟩, ⟨some 24, .b2s, [.t 23], none, [0, 1, 3, 4]⟩, ⟨some 25, .bin .eql, [.t 21, .t 24], none, [0, 1, 2, 3, 4,
  5]⟩, ⟨some 26, .mv, [.t 25], none, [0, 1, 2, 3, 4, 5, 6]⟩, ⟨some 27, .mv, [.t 0], some (26, true), [0, 1, 2, 3, 4, 5, 6, 7]⟩, ⟨some 28, .call 10 true, [.t 27], some (26, true),
  [0, 1, 2, 3, 4, 5, 6, 7, 8]⟩, ⟨some 29, .b2s, [.t 28], some (26, true), [0, 1, 2, 3, 4, 5, 6, 7, 8, 9]⟩, ⟨some 30, .mv, [.t 1], some (26, true), [0, 1, 2, 3, 4, 5, 6, 7]⟩, ⟨some
  31, .call 10 true, [.t 30], some (26, true), [0, 1, 2, 3, 4, 5, 6, 7, 8, 9, 11]⟩, ⟨some 32, .b2s, [.t 31], some (26, true), [0, 1, 2, 3, 4, 5, 6, 7, 8, 9, 11, 12]⟩, ⟨some 33,
  .bin .add, [.t 29, .t 32], some (26, true), [0, 1, 2, 3, 4, 5, 6, 7, 8, 9, 10, 11, 12, 13]⟩, ⟨some 34, .mv, [.t 5], some (26, true), [0, 1, 2, 3, 4, 5, 6, 7]⟩, ⟨some 35, .call 10
  true, [.t 34], some (26, true), [0, 1, 2, 3, 4, 5, 6, 7, 8, 9, 11, 12, 15]⟩, ⟨some 36, .b2s, [.t 35], some (26, true), [0, 1, 2, 3, 4, 5, 6, 7, 8, 9, 11, 12, 15, 16]⟩, ⟨some 37,
  .bin .eql, [.t 33, .t 36], some (26, true), [0, 1, 2, 3, 4, 5, 6, 7, 8, 9, 10, 11, 12, 13, 14, 15, 16, 17]⟩, ⟨some 38, .pick, [.t 26, .t 37, .k (.d (.bool false))], none, [0, 1,
  2, 3, 4, 5, 6, 7, 8, 9, 10, 11, 12, 13, 14, 15, 16, 17, 18]⟩, ⟨some 39, .mv, [.t 38], none, [0, 1, 2, 3, 4, 5, 6, 7, 8, 9, 10, 11, 12, 13, 14, 15, 16, 17, 18, 19]⟩, ⟨some 40,
  .call 7 false, [], some (39, true), [0, 1, 2, 3, 4, 5, 6, 7, 8, 9, 10, 11, 12, 13, 14, 15, 16, 17, 18, 19, 20]⟩, ⟨some 41, .pick, [.t 39, .t 40, .k (.d (.bool false))], none, [0,
  1, 2, 3, 4, 5, 6, 7, 8, 9, 10, 11, 12, 13, 14, 15, 16, 17, 18, 19, 20, 21]⟩, ⟨some 4, .mv, [.t 41], none, [0, 1, 2, 3, 4, 5, 6, 7, 8, 9, 10, 11, 12, 13, 14, 15, 16, 17, 18, 19,
  20, 21, 22]⟩] [4]) .ret)))
def passkeylaw2DigestWordsRr : List RR := [.t 4]
theorem passkeylaw2DigestWordsC : compFn Try.prog 4 passkeylaw2DigestWordsH = some (passkeylaw2DigestWordsRc, passkeylaw2DigestWordsRr, 42) := by kernel_rfl
theorem passkeylaw2DigestWordsOK (a0 : List (BitVec 64)) (a1 : List (BitVec 64)) (res : Bool) (h : passkeylaw2DigestWords a0 a1 = some res) : CallOK Try.prog 4 [.d ((eL 1 eU64) a0), .d ((eL 1 eU64) a1)] [] (.d (eB res)) [] := by
  unfold passkeylaw2DigestWords at h
  refine callOK passkeylaw2DigestWordsC fm rfl ?_
  simp only [initE, initM, nbor, List.map_cons, List.map_nil, Nat.reduceAdd]
  unfold passkeylaw2DigestWordsRc
  refine rwp_seq fun K1 hK1 => ?_
  refine rwp_region fun K2 hK2 => ?_
  refine st0 128 rfl (ok (mv (.d (eB false)))) ?_
  refine hK2 _ _ ?_
  simp only [thenK, blockK, keepE, updM, List.filter_cons, List.filter_nil, List.nil_append, List.cons_append, List.map_cons, List.map_nil, envE, Mem.get, Nat.reduceEqDiff, reduceIte, Option.isNone_none, Option.isNone_some, Bool.false_eq_true, List.length_cons, List.length_nil, Nat.reduceAdd, Nat.reduceMul]
  refine hK1 _ _ _ ?_
  refine rwp_seq fun K3 hK3 => ?_
  refine rwp_join ([], []) 704 (fun env mem => ∃ (v4 : Bool), passkeylaw2DigestWordsJ1 a0 a1 v4 = some res ∧ env = [(0, .d ((eL 1 eU64) a0)), (1, .d ((eL 1 eU64) a1)), (13, .d (eB v4))] ∧ mem = []) (fun _ _ hI => ?_) (fun K5 hK5 => ?_)
  · obtain ⟨v4, h, rfl, rfl⟩ := hI
    unfold passkeylaw2DigestWordsJ1 at h
    rcases Bool.eq_false_or_eq_true (v4) with h6 | h6
    · replace h := ite_t h h6
      refine rwp_t (isT h6) ?_
      refine rwp_seq fun K7 hK7 => ?_
      refine rwp_region fun K8 hK8 => ?_
      obtain ⟨y9, h10, h⟩ := bind_inv h
      refine st0 768 rfl (call_ok (v := .d (eB y9)) (u := []) ar_nil rfl (passkeylaw2awakeOK  y9 h10) rfl) ?_
      refine st0 832 rfl (ok (mv (.d (eB y9)))) ?_
      refine hK8 _ _ ?_
      simp only [thenK, blockK, keepE, updM, List.filter_cons, List.filter_nil, List.nil_append, List.cons_append, List.map_cons, List.map_nil, envE, Mem.get, Nat.reduceEqDiff, reduceIte, Option.isNone_none, Option.isNone_some, Bool.false_eq_true, List.length_cons, List.length_nil, Nat.reduceAdd, Nat.reduceMul]
      refine hK7 _ _ _ ?_
      refine rwp_ret ?_
      obtain rfl := Option.some.inj h
      try simp only [thenK, blockK, reduceIte]
      exact end_ok trivial (rs_t (v := .d (eB y9)) rfl rs_nil) (en_d (to_d _) en_nil) ou_nil (by first | exact eok rfl rfl rfl rfl trivial | (refine eok ?_ ?_ ?_ ?_ ?_ <;> first | rfl | exact trivial | simp [retM, Mem.get, PV.renL, PV.ren, Blk.ren, comps, rhoR, rhoM, appN, PV.refsL, PV.refs, keys, nodupB, Blk.refs, allIn, Blk.bor]))
    · replace h := ite_f h h6
      refine rwp_f (isF h6) ?_
      refine rwp_skip ?_
      refine hK3 _ _ _ ?_
      refine rwp_seq fun K11 hK11 => ?_
      refine rwp_region fun K12 hK12 => ?_
      refine st0 768 rfl (ok (mv (.d ((eL 1 eU64) a0)))) ?_
      obtain ⟨h13, h⟩ := asq_inv h
      refine st1 832 rfl (mem' := [(768, .row true 1 (a0.map eU64))]) (ok (appN0 (e := eU64) (ys := a0) contL h13)) rfl ?_
      refine st0 896 rfl (ok (mv (.d ((eL 1 eU64) a1)))) ?_
      obtain ⟨h14, h⟩ := asq_inv h
      refine st1 960 rfl (mem' := [(768, .row true 1 ((a0 ++ a1).map eU64))]) (ok (appR (e := eU64) (xs := a0) (ys := a1) contL rfl rfl rfl h14)) rfl ?_
      refine st0 1024 rfl (ok (mv (.ref 768 (((a0 ++ a1)).length) 0 (((a0 ++ a1)).length)))) ?_
      refine hK12 _ _ ?_
      simp only [thenK, blockK, keepE, updM, List.filter_cons, List.filter_nil, List.nil_append, List.cons_append, List.map_cons, List.map_nil, envE, Mem.get, Nat.reduceEqDiff, reduceIte, Option.isNone_none, Option.isNone_some, Bool.false_eq_true, List.length_cons, List.length_nil, Nat.reduceAdd, Nat.reduceMul]
      refine hK11 _ _ _ ?_
      refine rwp_seq fun K15 hK15 => ?_
      refine rwp_draw fun K16 hK16 => ?_
      refine dr0 1088 rfl (ok (mv (.ref 768 (((a0 ++ a1)).length) 0 (((a0 ++ a1)).length)))) (by kernel_rfl) ?_
      obtain ⟨y17, h18, h⟩ := bind_inv h
      refine dr1 1152 rfl (mem' := [(1088, .row true 1 (y17.map eU8)), (768, .row false 1 ((a0 ++ a1).map eU64))]) (call_ok (v := .ref 1088 y17.length 0 y17.length) (u := [(1088, .row true 1 (y17.map eU8)), (768, .row false 1 ((a0 ++ a1).map eU64))]) (ar_to rfl (to_1 rfl (ds_r (ys := (a0 ++ a1)) rfl rfl rfl ds_nil)) ar_nil) rfl (digestWordsOK (a0 ++ a1) y17 h18) rfl) rfl (by kernel_rfl) ?_
      refine dr0 1216 rfl (ok (b2s (contR (xs := y17) rfl rfl rfl))) (by kernel_rfl) ?_
      refine dr0 1280 rfl (ok (mv (.ref 768 (((a0 ++ a1)).length) 0 (((a0 ++ a1)).length)))) (by kernel_rfl) ?_
      obtain ⟨y19, h20, h⟩ := bind_inv h
      refine dr1 1344 rfl (mem' := [(1280, .row true 1 (y19.map eU8)), (768, .row false 1 ((a0 ++ a1).map eU64)), (1088, .row true 1 (y17.map eU8))]) (call_ok (v := .ref 1280 y19.length 0 y19.length) (u := [(1280, .row true 1 (y19.map eU8)), (768, .row false 1 ((a0 ++ a1).map eU64))]) (ar_to rfl (to_1 rfl (ds_r (ys := (a0 ++ a1)) rfl rfl rfl ds_nil)) ar_nil) rfl (passkeyref1WordsOK (a0 ++ a1) y19 h20) rfl) rfl (by kernel_rfl) ?_
      refine dr0 1408 rfl (ok (b2s (contR (xs := y19) rfl rfl rfl))) (by kernel_rfl) ?_
      refine dr0 1472 rfl (ok (eqlS y17 y19)) (by kernel_rfl) ?_
      refine dr0 1536 rfl (ok (mv (.d (eB (y17 == y19))))) (by kernel_rfl) ?_
      rcases Bool.eq_false_or_eq_true ((y17 == y19)) with h21 | h21
      · replace h := ite_t h h21
        refine drG (isT h21) ?_
        refine dr0 1600 rfl (ok (mv (.d ((eL 1 eU64) a0)))) (by kernel_rfl) ?_
        refine drG (isT h21) ?_
        obtain ⟨y22, h23, h⟩ := bind_inv h
        refine dr1 1664 rfl (mem' := [(1600, .row true 1 (y22.map eU8)), (1280, .row true 1 (y19.map eU8)), (768, .row false 1 ((a0 ++ a1).map eU64)), (1088, .row true 1 (y17.map eU8))]) (call_ok (v := .ref 1600 y22.length 0 y22.length) (u := [(1600, .row true 1 (y22.map eU8))]) (ar_d ((eL 1 eU64) a0) ar_nil) rfl (digestWordsOK a0 y22 h23) rfl) rfl (by kernel_rfl) ?_
        refine drG (isT h21) ?_
        refine dr0 1728 rfl (ok (b2s (contR (xs := y22) rfl rfl rfl))) (by kernel_rfl) ?_
        refine drG (isT h21) ?_
        refine dr0 1792 rfl (ok (mv (.d ((eL 1 eU64) a1)))) (by kernel_rfl) ?_
        refine drG (isT h21) ?_
        obtain ⟨y24, h25, h⟩ := bind_inv h
        refine dr1 1856 rfl (mem' := [(1792, .row true 1 (y24.map eU8)), (1600, .row true 1 (y22.map eU8)), (1280, .row true 1 (y19.map eU8)), (768, .row false 1 ((a0 ++ a1).map eU64)), (1088, .row true 1 (y17.map eU8))]) (call_ok (v := .ref 1792 y24.length 0 y24.length) (u := [(1792, .row true 1 (y24.map eU8))]) (ar_d ((eL 1 eU64) a1) ar_nil) rfl (digestWordsOK a1 y24 h25) rfl) rfl (by kernel_rfl) ?_
        refine drG (isT h21) ?_
        refine dr0 1920 rfl (ok (b2s (contR (xs := y24) rfl rfl rfl))) (by kernel_rfl) ?_
        refine drG (isT h21) ?_
        obtain ⟨h26, h⟩ := asq_inv h
        refine dr0 1984 rfl (ok (addS y22 y24 h26)) (by kernel_rfl) ?_
        refine drG (isT h21) ?_
        refine dr0 2048 rfl (ok (mv (.ref 768 (((a0 ++ a1)).length) 0 (((a0 ++ a1)).length)))) (by kernel_rfl) ?_
        refine drG (isT h21) ?_
        obtain ⟨y27, h28, h⟩ := bind_inv h
        refine dr1 2112 rfl (mem' := [(2048, .row true 1 (y27.map eU8)), (768, .row false 1 ((a0 ++ a1).map eU64)), (1792, .row true 1 (y24.map eU8)), (1600, .row true 1 (y22.map eU8)), (1280, .row true 1 (y19.map eU8)), (1088, .row true 1 (y17.map eU8))]) (call_ok (v := .ref 2048 y27.length 0 y27.length) (u := [(2048, .row true 1 (y27.map eU8)), (768, .row false 1 ((a0 ++ a1).map eU64))]) (ar_to rfl (to_1 rfl (ds_r (ys := (a0 ++ a1)) rfl rfl rfl ds_nil)) ar_nil) rfl (digestWordsOK (a0 ++ a1) y27 h28) rfl) rfl (by kernel_rfl) ?_
        refine drG (isT h21) ?_
        refine dr0 2176 rfl (ok (b2s (contR (xs := y27) rfl rfl rfl))) (by kernel_rfl) ?_
        refine drG (isT h21) ?_
        refine dr0 2240 rfl (ok (eqlS (y22 ++ y24) y27)) (by kernel_rfl) ?_
        refine dr0 2304 rfl (ok (pick_t h21 (.d (eB ((y22 ++ y24) == y27))) _)) (by kernel_rfl) ?_
        refine dr0 2368 rfl (ok (mv (.d (eB ((y22 ++ y24) == y27))))) (by kernel_rfl) ?_
        rcases Bool.eq_false_or_eq_true (((y22 ++ y24) == y27)) with h29 | h29
        · replace h := ite_t h h29
          refine drG (isT h29) ?_
          obtain ⟨y30, h31, h⟩ := bind_inv h
          refine dr0 2432 rfl (call_ok (v := .d (eB y30)) (u := []) ar_nil rfl (passkeylaw2awakeOK  y30 h31) rfl) (by kernel_rfl) ?_
          refine dr0 2496 rfl (ok (pick_t h29 (.d (eB y30)) _)) (by kernel_rfl) ?_
          refine dr0 2560 rfl (ok (mv (.d (eB y30)))) (by kernel_rfl) ?_
          refine hK16 _ _ ?_
          simp only [thenK, blockK, keepE, updM, List.filter_cons, List.filter_nil, List.nil_append, List.cons_append, List.map_cons, List.map_nil, envE, Mem.get, Nat.reduceEqDiff, reduceIte, Option.isNone_none, Option.isNone_some, Bool.false_eq_true, List.length_cons, List.length_nil, Nat.reduceAdd, Nat.reduceMul]
          refine hK15 _ _ _ ?_
          refine rwp_ret ?_
          obtain rfl := Option.some.inj h
          try simp only [thenK, blockK, reduceIte]
          exact end_ok trivial (rs_t (v := .d (eB y30)) rfl rs_nil) (en_d (to_d _) en_nil) ou_nil (by first | exact eok rfl rfl rfl rfl trivial | (refine eok ?_ ?_ ?_ ?_ ?_ <;> first | rfl | exact trivial | simp [retM, Mem.get, PV.renL, PV.ren, Blk.ren, comps, rhoR, rhoM, appN, PV.refsL, PV.refs, keys, nodupB, Blk.refs, allIn, Blk.bor]))
        · replace h := ite_f h h29
          refine drGN 2432 rfl rfl h29 ?_
          refine dr0 2496 rfl (ok (pick_f h29 _ (.d (eB false)))) (by kernel_rfl) ?_
          refine dr0 2560 rfl (ok (mv (.d (eB false)))) (by kernel_rfl) ?_
          refine hK16 _ _ ?_
          simp only [thenK, blockK, keepE, updM, List.filter_cons, List.filter_nil, List.nil_append, List.cons_append, List.map_cons, List.map_nil, envE, Mem.get, Nat.reduceEqDiff, reduceIte, Option.isNone_none, Option.isNone_some, Bool.false_eq_true, List.length_cons, List.length_nil, Nat.reduceAdd, Nat.reduceMul]
          refine hK15 _ _ _ ?_
          refine rwp_ret ?_
          obtain rfl := Option.some.inj h
          try simp only [thenK, blockK, reduceIte]
          exact end_ok trivial (rs_t (v := .d (eB false)) rfl rs_nil) (en_d (to_d _) en_nil) ou_nil (by first | exact eok rfl rfl rfl rfl trivial | (refine eok ?_ ?_ ?_ ?_ ?_ <;> first | rfl | exact trivial | simp [retM, Mem.get, PV.renL, PV.ren, Blk.ren, comps, rhoR, rhoM, appN, PV.refsL, PV.refs, keys, nodupB, Blk.refs, allIn, Blk.bor]))
      · replace h := ite_f h h21
        refine drGN 1600 rfl rfl h21 ?_
        refine drGN 1664 rfl rfl h21 ?_
        refine drGN 1728 rfl rfl h21 ?_
        refine drGN 1792 rfl rfl h21 ?_
        refine drGN 1856 rfl rfl h21 ?_
        refine drGN 1920 rfl rfl h21 ?_
        refine drGN 1984 rfl rfl h21 ?_
        refine drGN 2048 rfl rfl h21 ?_
        refine drGN 2112 rfl rfl h21 ?_
        refine drGN 2176 rfl rfl h21 ?_
        refine drGN 2240 rfl rfl h21 ?_
        refine dr0 2304 rfl (ok (pick_f h21 _ (.d (eB false)))) (by kernel_rfl) ?_
        refine dr0 2368 rfl (ok (mv (.d (eB false)))) (by kernel_rfl) ?_
        refine drGN 2432 rfl rfl rfl ?_
        refine dr0 2496 rfl (ok (pick_f rfl _ (.d (eB false)))) (by kernel_rfl) ?_
        refine dr0 2560 rfl (ok (mv (.d (eB false)))) (by kernel_rfl) ?_
        refine hK16 _ _ ?_
        simp only [thenK, blockK, keepE, updM, List.filter_cons, List.filter_nil, List.nil_append, List.cons_append, List.map_cons, List.map_nil, envE, Mem.get, Nat.reduceEqDiff, reduceIte, Option.isNone_none, Option.isNone_some, Bool.false_eq_true, List.length_cons, List.length_nil, Nat.reduceAdd, Nat.reduceMul]
        refine hK15 _ _ _ ?_
        refine rwp_ret ?_
        obtain rfl := Option.some.inj h
        try simp only [thenK, blockK, reduceIte]
        exact end_ok trivial (rs_t (v := .d (eB false)) rfl rs_nil) (en_d (to_d _) en_nil) ou_nil (by first | exact eok rfl rfl rfl rfl trivial | (refine eok ?_ ?_ ?_ ?_ ?_ <;> first | rfl | exact trivial | simp [retM, Mem.get, PV.renL, PV.ren, Blk.ren, comps, rhoR, rhoM, appN, PV.refsL, PV.refs, keys, nodupB, Blk.refs, allIn, Blk.bor]))
  · refine rwp_region fun K32 hK32 => ?_
    refine st0 192 rfl (ok (mv (.d ((eL 1 eU64) a0)))) ?_
    refine st0 256 rfl (ok (lenL _ _)) ?_
    refine st0 320 rfl (ok (gtrI _ (100 : Int))) ?_
    refine st0 384 rfl (ok (mv (.d (eB (decide ((100 : Int) < (a0.length : Int))))))) ?_
    rcases Bool.eq_false_or_eq_true ((decide ((100 : Int) < (a0.length : Int)))) with h33 | h33
    · replace h := ite_t h h33
      refine stGN 448 rfl rfl h33 ?_
      refine stGN 512 rfl rfl h33 ?_
      refine stGN 576 rfl rfl h33 ?_
      refine st0 640 rfl (ok (pick_t h33 (.d (eB true)) _)) ?_
      refine hK32 _ _ ?_
      simp only [thenK, blockK, keepE, updM, List.filter_cons, List.filter_nil, List.nil_append, List.cons_append, List.map_cons, List.map_nil, envE, Mem.get, Nat.reduceEqDiff, reduceIte, Option.isNone_none, Option.isNone_some, Bool.false_eq_true, List.length_cons, List.length_nil, Nat.reduceAdd, Nat.reduceMul]
      exact hK5 _ _ _ ⟨_, _, ⟨_, h, rfl, rfl⟩, ⟨rfl, ⟨⟨rfl, rfl⟩, ⟨⟨rfl, rfl⟩, ⟨⟨rfl, rfl⟩, trivial⟩⟩⟩, trivial⟩, rfl⟩
    · replace h := ite_f h h33
      refine stG (isF h33) ?_
      refine st0 448 rfl (ok (mv (.d ((eL 1 eU64) a1)))) ?_
      refine stG (isF h33) ?_
      refine st0 512 rfl (ok (lenL _ _)) ?_
      refine stG (isF h33) ?_
      refine st0 576 rfl (ok (gtrI _ (100 : Int))) ?_
      refine st0 640 rfl (ok (pick_f h33 _ (.d (eB (decide ((100 : Int) < (a1.length : Int))))))) ?_
      refine hK32 _ _ ?_
      simp only [thenK, blockK, keepE, updM, List.filter_cons, List.filter_nil, List.nil_append, List.cons_append, List.map_cons, List.map_nil, envE, Mem.get, Nat.reduceEqDiff, reduceIte, Option.isNone_none, Option.isNone_some, Bool.false_eq_true, List.length_cons, List.length_nil, Nat.reduceAdd, Nat.reduceMul]
      exact hK5 _ _ _ ⟨_, _, ⟨_, h, rfl, rfl⟩, ⟨rfl, ⟨⟨rfl, rfl⟩, ⟨⟨rfl, rfl⟩, ⟨⟨rfl, rfl⟩, trivial⟩⟩⟩, trivial⟩, rfl⟩

/-- passkey/digest.Mac -/
def digestMacH : Hints := ⟨[(0, [0, 1, 2]), (1, [6])], []⟩
def digestMacRc : RCode :=
  .seq (.region false [⟨some 6, .mv, [.k (.d (.int .u64 0))], none, []⟩] [0, 1, 2]) (.seq (.region false [⟨some 7, .mv, [.t 0], none, []⟩, ⟨some 8, .mv, [.t 1], none, []⟩, ⟨some 9,
  .cvt .u64, [.t 8], none, []⟩, ⟨some 10, .bin .add, [.k (.d (.int .u64 1)), .t 9], none, []⟩, ⟨some 11, .mv, [.t 2], none, []⟩, ⟨some 12, .call 8 false, [.t 7, .t 10, .t 11],
  none, []⟩, ⟨some 6, .mv, [.t 12], none, []⟩] [6]) .ret)
def digestMacRr : List RR := [.t 6]
theorem digestMacC : compFn Try.prog 12 digestMacH = some (digestMacRc, digestMacRr, 13) := by kernel_rfl
theorem digestMacOK (a0 : BitVec 64) (a1 : Int) (a2 : List (BitVec 8)) (res : BitVec 64) (h : digestMac a0 a1 a2 = some res) : CallOK Try.prog 12 [.d (eU64 a0), .d (eI a1), .d ((eL 1 eU8) a2)] [] (.d (eU64 res)) [] := by
  unfold digestMac at h
  refine callOK digestMacC fm rfl ?_
  simp only [initE, initM, nbor, List.map_cons, List.map_nil, Nat.reduceAdd]
  unfold digestMacRc
  refine rwp_seq fun K1 hK1 => ?_
  refine rwp_region fun K2 hK2 => ?_
  refine st0 128 rfl (ok (mv (.d (eU64 0#64)))) ?_
  refine hK2 _ _ ?_
  simp only [thenK, blockK, keepE, updM, List.filter_cons, List.filter_nil, List.nil_append, List.cons_append, List.map_cons, List.map_nil, envE, Mem.get, Nat.reduceEqDiff, reduceIte, Option.isNone_none, Option.isNone_some, Bool.false_eq_true, List.length_cons, List.length_nil, Nat.reduceAdd, Nat.reduceMul]
  refine hK1 _ _ _ ?_
  refine rwp_seq fun K3 hK3 => ?_
  refine rwp_region fun K4 hK4 => ?_
  refine st0 192 rfl (ok (mv (.d (eU64 a0)))) ?_
  refine st0 256 rfl (ok (mv (.d (eI a1)))) ?_
  refine st0 320 rfl (ok (ofI64 _ a1)) ?_
  refine st0 384 rfl (ok (add64 1#64 _)) ?_
  refine st0 448 rfl (ok (mv (.d ((eL 1 eU8) a2)))) ?_
  obtain ⟨y5, h6, h⟩ := bind_inv h
  refine st0 512 rfl (call_ok (v := .d (eU64 y5)) (u := []) (ar_d (eU64 a0) (ar_d (eU64 (1#64 + (BitVec.ofInt 64 a1))) (ar_d ((eL 1 eU8) a2) ar_nil))) rfl (digestSumOK a0 (1#64 + (BitVec.ofInt 64 a1)) a2 y5 h6) rfl) ?_
  refine st0 576 rfl (ok (mv (.d (eU64 y5)))) ?_
  refine hK4 _ _ ?_
  simp only [thenK, blockK, keepE, updM, List.filter_cons, List.filter_nil, List.nil_append, List.cons_append, List.map_cons, List.map_nil, envE, Mem.get, Nat.reduceEqDiff, reduceIte, Option.isNone_none, Option.isNone_some, Bool.false_eq_true, List.length_cons, List.length_nil, Nat.reduceAdd, Nat.reduceMul]
  refine hK3 _ _ _ ?_
  refine rwp_ret ?_
  obtain rfl := Option.some.inj h
  try simp only [thenK, blockK, reduceIte]
  exact end_ok trivial (rs_t (v := .d (eU64 y5)) rfl rs_nil) (en_d (to_d _) en_nil) ou_nil (by first | exact eok rfl rfl rfl rfl trivial | (refine eok ?_ ?_ ?_ ?_ ?_ <;> first | rfl | exact trivial | simp [retM, Mem.get, PV.renL, PV.ren, Blk.ren, comps, rhoR, rhoM, appN, PV.refsL, PV.refs, keys, nodupB, Blk.refs, allIn, Blk.bor]))

/-- passkey/passkeyref1.Mac -/
def passkeyref1MacH : Hints := ⟨[(0, [0, 1, 2]), (1, [6])], []⟩
def passkeyref1MacRc : RCode :=
  .seq (.region false [⟨some 6, .mv, [.k (.d (.int .u64 0))], none, []⟩] [0, 1, 2]) (.seq (.region false [⟨some 7, .mv, [.t 0], none, []⟩, ⟨some 8, .mv, [.t 1], none, []⟩, ⟨some 9,
  .cvt .u64, [.t 8], none, []⟩, ⟨some 10, .bin .add, [.k (.d (.int .u64 1)), .t 9], none, []⟩, ⟨some 11, .mv, [.t 2], none, []⟩, ⟨some 12, .call 9 false, [.t 7, .t 10, .t 11],
  none, []⟩, ⟨some 6, .mv, [.t 12], none, []⟩] [6]) .ret)
def passkeyref1MacRr : List RR := [.t 6]
theorem passkeyref1MacC : compFn Try.prog 13 passkeyref1MacH = some (passkeyref1MacRc, passkeyref1MacRr, 13) := by kernel_rfl
theorem passkeyref1MacOK (a0 : BitVec 64) (a1 : Int) (a2 : List (BitVec 8)) (res : BitVec 64) (h : passkeyref1Mac a0 a1 a2 = some res) : CallOK Try.prog 13 [.d (eU64 a0), .d (eI a1), .d ((eL 1 eU8) a2)] [] (.d (eU64 res)) [] := by
  unfold passkeyref1Mac at h
  refine callOK passkeyref1MacC fm rfl ?_
  simp only [initE, initM, nbor, List.map_cons, List.map_nil, Nat.reduceAdd]
  unfold passkeyref1MacRc
  refine rwp_seq fun K1 hK1 => ?_
  refine rwp_region fun K2 hK2 => ?_
  refine st0 128 rfl (ok (mv (.d (eU64 0#64)))) ?_
  refine hK2 _ _ ?_
  simp only [thenK, blockK, keepE, updM, List.filter_cons, List.filter_nil, List.nil_append, List.cons_append, List.map_cons, List.map_nil, envE, Mem.get, Nat.reduceEqDiff, reduceIte, Option.isNone_none, Option.isNone_some, Bool.false_eq_true, List.length_cons, List.length_nil, Nat.reduceAdd, Nat.reduceMul]
  refine hK1 _ _ _ ?_
  refine rwp_seq fun K3 hK3 => ?_
  refine rwp_region fun K4 hK4 => ?_
  refine st0 192 rfl (ok (mv (.d (eU64 a0)))) ?_
  refine st0 256 rfl (ok (mv (.d (eI a1)))) ?_
  refine st0 320 rfl (ok (ofI64 _ a1)) ?_
  refine st0 384 rfl (ok (add64 1#64 _)) ?_
  refine st0 448 rfl (ok (mv (.d ((eL 1 eU8) a2)))) ?_
  obtain ⟨y5, h6, h⟩ := bind_inv h
  refine st0 512 rfl (call_ok (v := .d (eU64 y5)) (u := []) (ar_d (eU64 a0) (ar_d (eU64 (1#64 + (BitVec.ofInt 64 a1))) (ar_d ((eL 1 eU8) a2) ar_nil))) rfl (passkeyref1SumOK a0 (1#64 + (BitVec.ofInt 64 a1)) a2 y5 h6) rfl) ?_
  refine st0 576 rfl (ok (mv (.d (eU64 y5)))) ?_
  refine hK4 _ _ ?_
  simp only [thenK, blockK, keepE, updM, List.filter_cons, List.filter_nil, List.nil_append, List.cons_append, List.map_cons, List.map_nil, envE, Mem.get, Nat.reduceEqDiff, reduceIte, Option.isNone_none, Option.isNone_some, Bool.false_eq_true, List.length_cons, List.length_nil, Nat.reduceAdd, Nat.reduceMul]
  refine hK3 _ _ _ ?_
  refine rwp_ret ?_
  obtain rfl := Option.some.inj h
  try simp only [thenK, blockK, reduceIte]
  exact end_ok trivial (rs_t (v := .d (eU64 y5)) rfl rs_nil) (en_d (to_d _) en_nil) ou_nil (by first | exact eok rfl rfl rfl rfl trivial | (refine eok ?_ ?_ ?_ ?_ ?_ <;> first | rfl | exact trivial | simp [retM, Mem.get, PV.renL, PV.ren, Blk.ren, comps, rhoR, rhoM, appN, PV.refsL, PV.refs, keys, nodupB, Blk.refs, allIn, Blk.bor]))

/-- passkey/passkeylaw2.DigestTail -/
def passkeylaw2DigestTailH : Hints := ⟨[(0, [0, 1, 2]), (1, [0, 1, 2, 10]), (2, [6]), (3, [0, 1, 7]), (4, [6])], []⟩
def passkeylaw2DigestTailRc : RCode :=
  .seq (.region false [⟨some 6, .mv, [.k (.d (.bool false))], none, []⟩] [0, 1, 2]) (.seq (.seq (.region false [⟨some 8, .mv, [.t 1], none, []⟩, ⟨some 9, .len, [.t 8], none, []⟩,
  ⟨some 10, .bin .gtr, [.t 9, .k (.d (.int .i64 24))], none, []⟩] [0, 1, 2, 10]) (.cond (.t 10) (.seq (.region false [⟨some 11, .call 7 false, [], none, []⟩, ⟨some 6, .mv, [.t 11],
  none, []⟩] [6]) .ret) .skip)) (.seq (.region false [⟨some 12, .mv, [.t 1], none, []⟩, ⟨some 13, .app 1 140737488355328, [.k (.nil 1), .t 12], none, []⟩, ⟨some 14, .mv, [.t 2],
  none, []⟩, ⟨some 15, .bin .rem, [.t 14, .k (.d (.int .u8 17))], none, []⟩, ⟨some 16, .appz 1 false [.d (.int .u8 0)] 140737488355328, [.t 13, .t 15], none, []⟩, ⟨some 7, .mv, [.t
  16], none, []⟩] [0, 1, 7]) (.seq (.region false [⟨some 17, .mv, [.t 0], none, []⟩, ⟨some 18, .mv, [.t 1], none, []⟩, ⟨some 19, .call 12 false, [.t 17, .k (.d (.int .i64 3)), .t
  18], none, []⟩, ⟨some 20, .mv, [.t 0], none, []⟩, ⟨some 21, .mv, [.t 1], none, []⟩, ⟨some 22, .call 13 false, [.t 20, .k (.d (.int .i64 3)), .t 21], none, []⟩, ⟨some 23, .bin
  .eql, [.t 19, .t 22], none, []⟩, ⟨some 24, .mv, [.t 23], none, []⟩, ⟨some 25, .mv, [.t 0], some (24, true), []⟩, ⟨some 26, .mv, [.t 7], some (24, true), []⟩, ⟨some 27, .call 12
  false, [.t 25, .k (.d (.int .i64 3)), .t 26], some (24, true), []⟩, ⟨some 28, .mv, [.t 0], some (24, true), []⟩, ⟨some 29, .mv, [.t 7], some (24, true), []⟩, ⟨some 30, .call 13
  false, [.t 28, .k (.d (.int .i64 3)), .t 29], some (24, true), []⟩, ⟨some 31, .bin .eql, [.t 27, .t 30], some (24, true), []⟩, ⟨some 32, .pick, [.t 24, .t 31, .k (.d (.bool
  false))], none, []⟩, ⟨some 33, .mv, [.t 32], none, []⟩, ⟨some 34, .call 7 false, [], some (33, true), []⟩, ⟨some 35, .pick, [.t 33, .t 34, .k (.d (.bool false))], none, []⟩,
  ⟨some 6, .mv, [.t 35], none, []⟩] [6]) .ret)))
def passkeylaw2DigestTailRr : List RR := [.t 6]
theorem passkeylaw2DigestTailC : compFn Try.prog 5 passkeylaw2DigestTailH = some (passkeylaw2DigestTailRc, passkeylaw2DigestTailRr, 36) := by kernel_rfl
theorem passkeylaw2DigestTailOK (a0 : BitVec 64) (a1 : List (BitVec 8)) (a2 : BitVec 8) (res : Bool) (h : passkeylaw2DigestTail a0 a1 a2 = some res) : CallOK Try.prog 5 [.d (eU64 a0), .d ((eL 1 eU8) a1), .d (eU8 a2)] [] (.d (eB res)) [] := by
  unfold passkeylaw2DigestTail at h
  refine callOK passkeylaw2DigestTailC fm rfl ?_
  simp only [initE, initM, nbor, List.map_cons, List.map_nil, Nat.reduceAdd]
  unfold passkeylaw2DigestTailRc
  refine rwp_seq fun K1 hK1 => ?_
  refine rwp_region fun K2 hK2 => ?_
  refine st0 128 rfl (ok (mv (.d (eB false)))) ?_
  refine hK2 _ _ ?_
  simp only [thenK, blockK, keepE, updM, List.filter_cons, List.filter_nil, List.nil_append, List.cons_append, List.map_cons, List.map_nil, envE, Mem.get, Nat.reduceEqDiff, reduceIte, Option.isNone_none, Option.isNone_some, Bool.false_eq_true, List.length_cons, List.length_nil, Nat.reduceAdd, Nat.reduceMul]
  refine hK1 _ _ _ ?_
  refine rwp_seq fun K3 hK3 => ?_
  refine rwp_seq fun K4 hK4 => ?_
  refine rwp_region fun K5 hK5 => ?_
  refine st0 192 rfl (ok (mv (.d ((eL 1 eU8) a1)))) ?_
  refine st0 256 rfl (ok (lenL _ _)) ?_
  refine st0 320 rfl (ok (gtrI _ (24 : Int))) ?_
  refine hK5 _ _ ?_
  simp only [thenK, blockK, keepE, updM, List.filter_cons, List.filter_nil, List.nil_append, List.cons_append, List.map_cons, List.map_nil, envE, Mem.get, Nat.reduceEqDiff, reduceIte, Option.isNone_none, Option.isNone_some, Bool.false_eq_true, List.length_cons, List.length_nil, Nat.reduceAdd, Nat.reduceMul]
  refine hK4 _ _ _ ?_
  rcases Bool.eq_false_or_eq_true ((decide ((24 : Int) < (a1.length : Int)))) with h6 | h6
  · replace h := ite_t h h6
    refine rwp_t (isT h6) ?_
    refine rwp_seq fun K7 hK7 => ?_
    refine rwp_region fun K8 hK8 => ?_
    obtain ⟨y9, h10, h⟩ := bind_inv h
    refine st0 384 rfl (call_ok (v := .d (eB y9)) (u := []) ar_nil rfl (passkeylaw2awakeOK  y9 h10) rfl) ?_
    refine st0 448 rfl (ok (mv (.d (eB y9)))) ?_
    refine hK8 _ _ ?_
    simp only [thenK, blockK, keepE, updM, List.filter_cons, List.filter_nil, List.nil_append, List.cons_append, List.map_cons, List.map_nil, envE, Mem.get, Nat.reduceEqDiff, reduceIte, Option.isNone_none, Option.isNone_some, Bool.false_eq_true, List.length_cons, List.length_nil, Nat.reduceAdd, Nat.reduceMul]
    refine hK7 _ _ _ ?_
    refine rwp_ret ?_
    obtain rfl := Option.some.inj h
    try simp only [thenK, blockK, reduceIte]
    exact end_ok trivial (rs_t (v := .d (eB y9)) rfl rs_nil) (en_d (to_d _) en_nil) ou_nil (by first | exact eok rfl rfl rfl rfl trivial | (refine eok ?_ ?_ ?_ ?_ ?_ <;> first | rfl | exact trivial | simp [retM, Mem.get, PV.renL, PV.ren, Blk.ren, comps, rhoR, rhoM, appN, PV.refsL, PV.refs, keys, nodupB, Blk.refs, allIn, Blk.bor]))
  · replace h := ite_f h h6
    refine rwp_f (isF h6) ?_
    refine rwp_skip ?_
    refine hK3 _ _ _ ?_
    refine rwp_seq fun K11 hK11 => ?_
    refine rwp_region fun K12 hK12 => ?_
    refine st0 384 rfl (ok (mv (.d ((eL 1 eU8) a1)))) ?_
    obtain ⟨h13, h⟩ := asq_inv h
    refine st1 448 rfl (mem' := [(384, .row true 1 (a1.map eU8))]) (ok (appN0 (e := eU8) (ys := a1) contL h13)) rfl ?_
    refine st0 512 rfl (ok (mv (.d (eU8 a2)))) ?_
    refine st0 576 rfl (ok (rem8 _ 17#8 (by decide))) ?_
    obtain ⟨h14, h⟩ := asq_inv h
    refine st1 640 rfl (mem' := [(384, .row true 1 ((a1 ++ (List.replicate ((a2 % 17#8).toNat : Int).toNat 0#8)).map eU8))]) (ok (apzR (e := eU8) (xs := a1) 0#8 rfl rfl h14.1 rfl rfl rfl h14.2)) rfl ?_
    refine st0 704 rfl (ok (mv (.ref 384 (((a1 ++ (List.replicate ((a2 % 17#8).toNat : Int).toNat 0#8))).length) 0 (((a1 ++ (List.replicate ((a2 % 17#8).toNat : Int).toNat 0#8))).length)))) ?_
    refine hK12 _ _ ?_
    simp only [thenK, blockK, keepE, updM, List.filter_cons, List.filter_nil, List.nil_append, List.cons_append, List.map_cons, List.map_nil, envE, Mem.get, Nat.reduceEqDiff, reduceIte, Option.isNone_none, Option.isNone_some, Bool.false_eq_true, List.length_cons, List.length_nil, Nat.reduceAdd, Nat.reduceMul]
    refine hK11 _ _ _ ?_
    refine rwp_seq fun K15 hK15 => ?_
    refine rwp_region fun K16 hK16 => ?_
    refine st0 768 rfl (ok (mv (.d (eU64 a0)))) ?_
    refine st0 832 rfl (ok (mv (.d ((eL 1 eU8) a1)))) ?_
    obtain ⟨y17, h18, h⟩ := bind_inv h
    refine st0 896 rfl (call_ok (v := .d (eU64 y17)) (u := []) (ar_d (eU64 a0) (ar_d (eI (3 : Int)) (ar_d ((eL 1 eU8) a1) ar_nil))) rfl (digestMacOK a0 (3 : Int) a1 y17 h18) rfl) ?_
    refine st0 960 rfl (ok (mv (.d (eU64 a0)))) ?_
    refine st0 1024 rfl (ok (mv (.d ((eL 1 eU8) a1)))) ?_
    obtain ⟨y19, h20, h⟩ := bind_inv h
    refine st0 1088 rfl (call_ok (v := .d (eU64 y19)) (u := []) (ar_d (eU64 a0) (ar_d (eI (3 : Int)) (ar_d ((eL 1 eU8) a1) ar_nil))) rfl (passkeyref1MacOK a0 (3 : Int) a1 y19 h20) rfl) ?_
    refine st0 1152 rfl (ok (eql64 _ _)) ?_
    refine st0 1216 rfl (ok (mv (.d (eB (y17 == y19))))) ?_
    rcases Bool.eq_false_or_eq_true ((y17 == y19)) with h21 | h21
    · replace h := ite_t h h21
      refine stG (isT h21) ?_
      refine st0 1280 rfl (ok (mv (.d (eU64 a0)))) ?_
      refine stG (isT h21) ?_
      refine st0 1344 rfl (ok (mv (.ref 384 (((a1 ++ (List.replicate ((a2 % 17#8).toNat : Int).toNat 0#8))).length) 0 (((a1 ++ (List.replicate ((a2 % 17#8).toNat : Int).toNat 0#8))).length)))) ?_
      refine stG (isT h21) ?_
      obtain ⟨y22, h23, h⟩ := bind_inv h
      refine st0 1408 rfl (call_ok (v := .d (eU64 y22)) (u := []) (ar_d (eU64 a0) (ar_d (eI (3 : Int)) (ar_to rfl (to_1 rfl (ds_r (ys := (a1 ++ (List.replicate ((a2 % 17#8).toNat : Int).toNat 0#8))) rfl rfl rfl ds_nil)) ar_nil))) rfl (digestMacOK a0 (3 : Int) (a1 ++ (List.replicate ((a2 % 17#8).toNat : Int).toNat 0#8)) y22 h23) rfl) ?_
      refine stG (isT h21) ?_
      refine st0 1472 rfl (ok (mv (.d (eU64 a0)))) ?_
      refine stG (isT h21) ?_
      refine st0 1536 rfl (ok (mv (.ref 384 (((a1 ++ (List.replicate ((a2 % 17#8).toNat : Int).toNat 0#8))).length) 0 (((a1 ++ (List.replicate ((a2 % 17#8).toNat : Int).toNat 0#8))).length)))) ?_
      refine stG (isT h21) ?_
      obtain ⟨y24, h25, h⟩ := bind_inv h
      refine st0 1600 rfl (call_ok (v := .d (eU64 y24)) (u := []) (ar_d (eU64 a0) (ar_d (eI (3 : Int)) (ar_to rfl (to_1 rfl (ds_r (ys := (a1 ++ (List.replicate ((a2 % 17#8).toNat : Int).toNat 0#8))) rfl rfl rfl ds_nil)) ar_nil))) rfl (passkeyref1MacOK a0 (3 : Int) (a1 ++ (List.replicate ((a2 % 17#8).toNat : Int).toNat 0#8)) y24 h25) rfl) ?_
      refine stG (isT h21) ?_
      refine st0 1664 rfl (ok (eql64 _ _)) ?_
      refine st0 1728 rfl (ok (pick_t h21 (.d (eB (y22 == y24))) _)) ?_
      refine st0 1792 rfl (ok (mv (.d (eB (y22 == y24))))) ?_
      rcases Bool.eq_false_or_eq_true ((y22 == y24)) with h26 | h26
      · replace h := ite_t h h26
        refine stG (isT h26) ?_
        obtain ⟨y27, h28, h⟩ := bind_inv h
        refine st0 1856 rfl (call_ok (v := .d (eB y27)) (u := []) ar_nil rfl (passkeylaw2awakeOK  y27 h28) rfl) ?_
        refine st0 1920 rfl (ok (pick_t h26 (.d (eB y27)) _)) ?_
        refine st0 1984 rfl (ok (mv (.d (eB y27)))) ?_
        refine hK16 _ _ ?_
        simp only [thenK, blockK, keepE, updM, List.filter_cons, List.filter_nil, List.nil_append, List.cons_append, List.map_cons, List.map_nil, envE, Mem.get, Nat.reduceEqDiff, reduceIte, Option.isNone_none, Option.isNone_some, Bool.false_eq_true, List.length_cons, List.length_nil, Nat.reduceAdd, Nat.reduceMul]
        refine hK15 _ _ _ ?_
        refine rwp_ret ?_
        obtain rfl := Option.some.inj h
        try simp only [thenK, blockK, reduceIte]
        exact end_ok trivial (rs_t (v := .d (eB y27)) rfl rs_nil) (en_d (to_d _) en_nil) ou_nil (by first | exact eok rfl rfl rfl rfl trivial | (refine eok ?_ ?_ ?_ ?_ ?_ <;> first | rfl | exact trivial | simp [retM, Mem.get, PV.renL, PV.ren, Blk.ren, comps, rhoR, rhoM, appN, PV.refsL, PV.refs, keys, nodupB, Blk.refs, allIn, Blk.bor]))
      · replace h := ite_f h h26
        refine stGN 1856 rfl rfl h26 ?_
        refine st0 1920 rfl (ok (pick_f h26 _ (.d (eB false)))) ?_
        refine st0 1984 rfl (ok (mv (.d (eB false)))) ?_
        refine hK16 _ _ ?_
        simp only [thenK, blockK, keepE, updM, List.filter_cons, List.filter_nil, List.nil_append, List.cons_append, List.map_cons, List.map_nil, envE, Mem.get, Nat.reduceEqDiff, reduceIte, Option.isNone_none, Option.isNone_some, Bool.false_eq_true, List.length_cons, List.length_nil, Nat.reduceAdd, Nat.reduceMul]
        refine hK15 _ _ _ ?_
        refine rwp_ret ?_
        obtain rfl := Option.some.inj h
        try simp only [thenK, blockK, reduceIte]
        exact end_ok trivial (rs_t (v := .d (eB false)) rfl rs_nil) (en_d (to_d _) en_nil) ou_nil (by first | exact eok rfl rfl rfl rfl trivial | (refine eok ?_ ?_ ?_ ?_ ?_ <;> first | rfl | exact trivial | simp [retM, Mem.get, PV.renL, PV.ren, Blk.ren, comps, rhoR, rhoM, appN, PV.refsL, PV.refs, keys, nodupB, Blk.refs, allIn, Blk.bor]))
    · replace h := ite_f h h21
      refine stGN 1280 rfl rfl h21 ?_
      refine stGN 1344 rfl rfl h21 ?_
      refine stGN 1408 rfl rfl h21 ?_
      refine stGN 1472 rfl rfl h21 ?_
      refine stGN 1536 rfl rfl h21 ?_
      refine stGN 1600 rfl rfl h21 ?_
      refine stGN 1664 rfl rfl h21 ?_
      refine st0 1728 rfl (ok (pick_f h21 _ (.d (eB false)))) ?_
      refine st0 1792 rfl (ok (mv (.d (eB false)))) ?_
      refine stGN 1856 rfl rfl rfl ?_
      refine st0 1920 rfl (ok (pick_f rfl _ (.d (eB false)))) ?_
      refine st0 1984 rfl (ok (mv (.d (eB false)))) ?_
      refine hK16 _ _ ?_
      simp only [thenK, blockK, keepE, updM, List.filter_cons, List.filter_nil, List.nil_append, List.cons_append, List.map_cons, List.map_nil, envE, Mem.get, Nat.reduceEqDiff, reduceIte, Option.isNone_none, Option.isNone_some, Bool.false_eq_true, List.length_cons, List.length_nil, Nat.reduceAdd, Nat.reduceMul]
      refine hK15 _ _ _ ?_
      refine rwp_ret ?_
      obtain rfl := Option.some.inj h
      try simp only [thenK, blockK, reduceIte]
      exact end_ok trivial (rs_t (v := .d (eB false)) rfl rs_nil) (en_d (to_d _) en_nil) ou_nil (by first | exact eok rfl rfl rfl rfl trivial | (refine eok ?_ ?_ ?_ ?_ ?_ <;> first | rfl | exact trivial | simp [retM, Mem.get, PV.renL, PV.ren, Blk.ren, comps, rhoR, rhoM, appN, PV.refsL, PV.refs, keys, nodupB, Blk.refs, allIn, Blk.bor]))

/-- passkey/digest.Hash -/
def digestHashH : Hints := ⟨[(0, [0, 1]), (1, [4])], []⟩
def digestHashRc : RCode :=
  .seq (.region false [⟨some 4, .mv, [.k (.d (.int .u64 0))], none, []⟩] [0, 1]) (.seq (.region false [⟨some 5, .mv, [.t 0], none, []⟩, ⟨some 6, .cvt .u64, [.t 5], none, []⟩, ⟨some
  7, .mv, [.t 1], none, []⟩, ⟨some 8, .call 8 false, [.t 6, .k (.d (.int .u64 0)), .t 7], none, []⟩, ⟨some 4, .mv, [.t 8], none, []⟩] [4]) .ret)
def digestHashRr : List RR := [.t 4]
theorem digestHashC : compFn Try.prog 14 digestHashH = some (digestHashRc, digestHashRr, 9) := by kernel_rfl
theorem digestHashOK (a0 : Int) (a1 : List (BitVec 8)) (res : BitVec 64) (h : digestHash a0 a1 = some res) : CallOK Try.prog 14 [.d (eI a0), .d ((eL 1 eU8) a1)] [] (.d (eU64 res)) [] := by
  unfold digestHash at h
  refine callOK digestHashC fm rfl ?_
  simp only [initE, initM, nbor, List.map_cons, List.map_nil, Nat.reduceAdd]
  unfold digestHashRc
  refine rwp_seq fun K1 hK1 => ?_
  refine rwp_region fun K2 hK2 => ?_
  refine st0 128 rfl (ok (mv (.d (eU64 0#64)))) ?_
  refine hK2 _ _ ?_
  simp only [thenK, blockK, keepE, updM, List.filter_cons, List.filter_nil, List.nil_append, List.cons_append, List.map_cons, List.map_nil, envE, Mem.get, Nat.reduceEqDiff, reduceIte, Option.isNone_none, Option.isNone_some, Bool.false_eq_true, List.length_cons, List.length_nil, Nat.reduceAdd, Nat.reduceMul]
  refine hK1 _ _ _ ?_
  refine rwp_seq fun K3 hK3 => ?_
  refine rwp_region fun K4 hK4 => ?_
  refine st0 192 rfl (ok (mv (.d (eI a0)))) ?_
  refine st0 256 rfl (ok (ofI64 _ a0)) ?_
  refine st0 320 rfl (ok (mv (.d ((eL 1 eU8) a1)))) ?_
  obtain ⟨y5, h6, h⟩ := bind_inv h
  refine st0 384 rfl (call_ok (v := .d (eU64 y5)) (u := []) (ar_d (eU64 (BitVec.ofInt 64 a0)) (ar_d (eU64 0#64) (ar_d ((eL 1 eU8) a1) ar_nil))) rfl (digestSumOK (BitVec.ofInt 64 a0) 0#64 a1 y5 h6) rfl) ?_
  refine st0 448 rfl (ok (mv (.d (eU64 y5)))) ?_
  refine hK4 _ _ ?_
  simp only [thenK, blockK, keepE, updM, List.filter_cons, List.filter_nil, List.nil_append, List.cons_append, List.map_cons, List.map_nil, envE, Mem.get, Nat.reduceEqDiff, reduceIte, Option.isNone_none, Option.isNone_some, Bool.false_eq_true, List.length_cons, List.length_nil, Nat.reduceAdd, Nat.reduceMul]
  refine hK3 _ _ _ ?_
  refine rwp_ret ?_
  obtain rfl := Option.some.inj h
  try simp only [thenK, blockK, reduceIte]
  exact end_ok trivial (rs_t (v := .d (eU64 y5)) rfl rs_nil) (en_d (to_d _) en_nil) ou_nil (by first | exact eok rfl rfl rfl rfl trivial | (refine eok ?_ ?_ ?_ ?_ ?_ <;> first | rfl | exact trivial | simp [retM, Mem.get, PV.renL, PV.ren, Blk.ren, comps, rhoR, rhoM, appN, PV.refsL, PV.refs, keys, nodupB, Blk.refs, allIn, Blk.bor]))

end Go.Proofs.Ty
