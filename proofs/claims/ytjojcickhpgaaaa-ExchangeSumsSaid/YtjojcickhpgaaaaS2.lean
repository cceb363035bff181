/- Each Go function comes to what its plain function says. PRINTED by a program of this session (ty.py). -/
import Derived.Test.YtjojcickhpgaaaaS1
set_option linter.unusedVariables false
set_option linter.unusedSimpArgs false
set_option maxHeartbeats 4000000
set_option maxRecDepth 10000
namespace Go.Proofs.Ty
open Go Go.RW Go.Proofs
/-- passkey/passkeyref3.Mul -/
def passkeyref3MulH : Hints := ⟨[(0, [0, 1]), (1, [0, 1]), (2, [0, 1, 5]), (3, [0, 1, 5, 6]), (4, [0, 1, 5, 6, 12]), (6, [0, 1, 5, 6]), (7, [0, 1, 5, 6, 23]), (8, [0, 1, 5, 6]), (5, [0, 1, 5, 6]), (9, [4])], []⟩
def passkeyref3MulRc : RCode :=
  .seq (.region false [⟨some 4, .mv, [.k (.d (.int .u64 0))], none, []⟩] [0, 1]) (.seq (.region false [⟨some 7, .mv, [.t 0], none, []⟩, ⟨some 8, .bin .rem, [.t 7, .k (.d (.int .u64
  2305843009213693951))], none, []⟩, ⟨some 9, .mv, [.t 1], none, []⟩, ⟨some 10, .bin .rem, [.t 9, .k (.d (.int .u64 2305843009213693951))], none, []⟩, ⟨some 0, .mv, [.t 8], none,
  []⟩, ⟨some 1, .mv, [.t 10], none, []⟩] [0, 1]) (.seq (.region false [⟨some 5, .mv, [.k (.d (.int .u64 0))], none, []⟩] [0, 1, 5]) (.seq (.seq (.region false [⟨some 6, .mv, [.k
  (.d (.int .i64 60))], none, []⟩] [0, 1, 5, 6]) (.block 0 (.loop [] (.seq (.seq (.region false [⟨some 11, .mv, [.t 6], none, []⟩, ⟨some 12, .bin .geq, [.t 11, .k (.d (.int .i64
  0))], none, []⟩] [0, 1, 5, 6, 12]) (.cond (.t 12) .skip (.exit 0))) (.seq (.block 1 (.seq (.region false [⟨some 15, .mv, [.t 5], none, []⟩, ⟨some 16, .bin .mul, [.t 15, .k (.d
  (.int .u64 2))], none, []⟩, ⟨some 17, .bin .rem, [.t 16, .k (.d (.int .u64 2305843009213693951))], none, []⟩, ⟨some 5, .mv, [.t 17], none, []⟩] [0, 1, 5, 6]) (.seq (.region false
  [⟨some 18, .mv, [.t 1], none, []⟩, ⟨some 19, .mv, [.t 6], none, []⟩, ⟨some 20, .cvt .u64, [.t 19], none, []⟩, ⟨some 21, .bin .shr, [.t 18, .t 20], none, []⟩, ⟨some 22, .bin .and,
  [.t 21, .k (.d (.int .u64 1))], none, []⟩, ⟨some 23, .bin .eql, [.t 22, .k (.d (.int .u64 1))], none, []⟩] [0, 1, 5, 6, 23]) (.cond (.t 23) (.region false [⟨some 24, .mv, [.t 5],
  none, []⟩, ⟨some 25, .mv, [.t 0], none, []⟩, ⟨some 26, .bin .add, [.t 24, .t 25], none, []⟩, ⟨some 27, .bin .rem, [.t 26, .k (.d (.int .u64 2305843009213693951))], none, []⟩,
  ⟨some 5, .mv, [.t 27], none, []⟩] [0, 1, 5, 6]) .skip)))) (.region false [⟨some 13, .mv, [.t 6], none, []⟩, ⟨some 14, .bin .sub, [.t 13, .k (.d (.int .i64 1))], none, []⟩, ⟨some
  6, .mv, [.t 14], none, []⟩] [0, 1, 5, 6])))))) (.seq (.region false [⟨some 28, .mv, [.t 5], none, []⟩, ⟨some 4, .mv, [.t 28], none, []⟩] [4]) .ret))))
def passkeyref3MulRr : List RR := [.t 4]
theorem passkeyref3MulC : compFn Try.prog 10 passkeyref3MulH = some (passkeyref3MulRc, passkeyref3MulRr, 29) := by kernel_rfl
theorem passkeyref3MulOK (a0 : BitVec 64) (a1 : BitVec 64) (res : BitVec 64) (h : passkeyref3Mul a0 a1 = some res) : CallOK Try.prog 10 [.d (eU64 a0), .d (eU64 a1)] [] (.d (eU64 res)) [] := by
  unfold passkeyref3Mul at h
  refine callOK passkeyref3MulC fm rfl ?_
  simp only [initE, initM, nbor, List.map_cons, List.map_nil, Nat.reduceAdd]
  unfold passkeyref3MulRc
  refine rwp_seq fun K1 hK1 => ?_
  refine rwp_region fun K2 hK2 => ?_
  refine st0 128 rfl (ok (mv (.d (eU64 (0#64))))) ?_
  refine hK2 _ _ ?_
  simp only [thenK, blockK, keepE, updM, List.filter_cons, List.filter_nil, List.nil_append, List.cons_append, List.map_cons, List.map_nil, envE, Mem.get, Nat.reduceEqDiff, reduceIte, Option.isNone_none, Option.isNone_some, Bool.false_eq_true, List.length_cons, List.length_nil, Nat.reduceAdd, Nat.reduceMul]
  refine hK1 _ _ _ ?_
  refine rwp_seq fun K3 hK3 => ?_
  refine rwp_region fun K4 hK4 => ?_
  refine st0 192 rfl (ok (mv (.d (eU64 a0)))) ?_
  refine st0 256 rfl (ok (rem64 _ (2305843009213693951#64) (by decide))) ?_
  refine st0 320 rfl (ok (mv (.d (eU64 a1)))) ?_
  refine st0 384 rfl (ok (rem64 _ (2305843009213693951#64) (by decide))) ?_
  refine st0 448 rfl (ok (mv (.d (eU64 (a0 % (2305843009213693951#64)))))) ?_
  refine st0 512 rfl (ok (mv (.d (eU64 (a1 % (2305843009213693951#64)))))) ?_
  refine hK4 _ _ ?_
  simp only [thenK, blockK, keepE, updM, List.filter_cons, List.filter_nil, List.nil_append, List.cons_append, List.map_cons, List.map_nil, envE, Mem.get, Nat.reduceEqDiff, reduceIte, Option.isNone_none, Option.isNone_some, Bool.false_eq_true, List.length_cons, List.length_nil, Nat.reduceAdd, Nat.reduceMul]
  refine hK3 _ _ _ ?_
  refine rwp_seq fun K5 hK5 => ?_
  refine rwp_region fun K6 hK6 => ?_
  refine st0 576 rfl (ok (mv (.d (eU64 (0#64))))) ?_
  refine hK6 _ _ ?_
  simp only [thenK, blockK, keepE, updM, List.filter_cons, List.filter_nil, List.nil_append, List.cons_append, List.map_cons, List.map_nil, envE, Mem.get, Nat.reduceEqDiff, reduceIte, Option.isNone_none, Option.isNone_some, Bool.false_eq_true, List.length_cons, List.length_nil, Nat.reduceAdd, Nat.reduceMul]
  refine hK5 _ _ _ ?_
  refine rwp_join ([], []) 2304 (fun env mem => ∃ (v7 : BitVec 64), passkeyref3MulJ1 v7 = some res ∧ env = [(5, .d (eU64 v7))] ∧ mem = []) (fun _ _ hI => ?_) (fun K8 hK8 => ?_)
  · obtain ⟨v7, h, rfl, rfl⟩ := hI
    unfold passkeyref3MulJ1 at h
    refine rwp_seq fun K9 hK9 => ?_
    refine rwp_region fun K10 hK10 => ?_
    refine st0 2368 rfl (ok (mv (.d (eU64 v7)))) ?_
    refine st0 2432 rfl (ok (mv (.d (eU64 v7)))) ?_
    refine hK10 _ _ ?_
    simp only [thenK, blockK, keepE, updM, List.filter_cons, List.filter_nil, List.nil_append, List.cons_append, List.map_cons, List.map_nil, envE, Mem.get, Nat.reduceEqDiff, reduceIte, Option.isNone_none, Option.isNone_some, Bool.false_eq_true, List.length_cons, List.length_nil, Nat.reduceAdd, Nat.reduceMul]
    refine hK9 _ _ _ ?_
    refine rwp_ret ?_
    obtain rfl := Option.some.inj h
    try simp only [thenK, blockK, reduceIte]
    exact end_ok trivial (rs_t (v := .d (eU64 v7)) rfl rs_nil) (en_d (to_d _) en_nil) ou_nil (by first | exact eok rfl rfl rfl rfl trivial | (refine eok ?_ ?_ ?_ ?_ ?_ <;> first | rfl | exact trivial | simp [retM, Mem.get, PV.renL, PV.ren, Blk.ren, comps, rhoR, rhoM, appN, PV.refsL, PV.refs, keys, nodupB, Blk.refs, allIn, Blk.bor]))
  · refine rwp_seq fun K11 hK11 => ?_
    refine rwp_region fun K12 hK12 => ?_
    refine st0 640 rfl (ok (mv (.d (eI (60 : Int))))) ?_
    refine hK12 _ _ ?_
    simp only [thenK, blockK, keepE, updM, List.filter_cons, List.filter_nil, List.nil_append, List.cons_append, List.map_cons, List.map_nil, envE, Mem.get, Nat.reduceEqDiff, reduceIte, Option.isNone_none, Option.isNone_some, Bool.false_eq_true, List.length_cons, List.length_nil, Nat.reduceAdd, Nat.reduceMul]
    refine hK11 _ _ _ ?_
    refine rwp_block fun K13 hK13 => ?_
    refine rwp_loop ([], []) 2112 (fun k env mem => ∃ (v14 : BitVec 64) (v15 : Int), passkeyref3MulL2 a0 a1 k v14 v15 = some res ∧ env = [(0, .d (eU64 (a0 % (2305843009213693951#64)))), (1, .d (eU64 (a1 % (2305843009213693951#64)))), (5, .d (eU64 v14)), (6, .d (eI v15))] ∧ mem = []) FUEL ⟨_, _, Settled.refl, _, _, ⟨_, _, h, rfl, rfl⟩, ⟨rfl, ⟨⟨rfl, rfl⟩, ⟨⟨rfl, rfl⟩, ⟨⟨rfl, rfl⟩, ⟨⟨rfl, rfl⟩, trivial⟩⟩⟩⟩, trivial⟩, rfl⟩ (fun k2 env1 mem1 hI K16 hK16 => ?_)
    obtain ⟨v14, v15, h, rfl, rfl⟩ := hI
    cases k2 with
    | zero => simp [passkeyref3MulL2] at h
    | succ k2 =>
      rw [passkeyref3MulL2] at h
      refine rwp_seq fun K17 hK17 => ?_
      refine rwp_seq fun K18 hK18 => ?_
      refine rwp_region fun K19 hK19 => ?_
      refine st0 2176 rfl (ok (mv (.d (eI v15)))) ?_
      refine st0 2240 rfl (ok (geqI _ (0 : Int))) ?_
      refine hK19 _ _ ?_
      simp only [thenK, blockK, keepE, updM, List.filter_cons, List.filter_nil, List.nil_append, List.cons_append, List.map_cons, List.map_nil, envE, Mem.get, Nat.reduceEqDiff, reduceIte, Option.isNone_none, Option.isNone_some, Bool.false_eq_true, List.length_cons, List.length_nil, Nat.reduceAdd, Nat.reduceMul]
      refine hK18 _ _ _ ?_
      rcases Bool.eq_false_or_eq_true ((decide ((0 : Int) ≤ v15))) with h20 | h20
      · replace h := ite_t h h20
        refine rwp_t (isT h20) ?_
        refine rwp_skip ?_
        refine hK17 _ _ _ ?_
        refine rwp_join ([], []) 3264 (fun env mem => ∃ (v21 : BitVec 64), passkeyref3MulJ3 (passkeyref3MulL2 a0 a1 k2) v15 v21 = some res ∧ env = [(0, .d (eU64 (a0 % (2305843009213693951#64)))), (1, .d (eU64 (a1 % (2305843009213693951#64)))), (5, .d (eU64 v21)), (6, .d (eI v15))] ∧ mem = []) (fun _ _ hI => ?_) (fun K22 hK22 => ?_)
        · obtain ⟨v21, h, rfl, rfl⟩ := hI
          unfold passkeyref3MulJ3 at h
          refine rwp_region fun K23 hK23 => ?_
          refine st0 3328 rfl (ok (mv (.d (eI v15)))) ?_
          refine st0 3392 rfl (ok (subI _ (1 : Int))) ?_
          refine st0 3456 rfl (ok (mv (.d (eI (w64 (v15 - (1 : Int))))))) ?_
          refine hK23 _ _ ?_
          simp only [thenK, blockK, keepE, updM, List.filter_cons, List.filter_nil, List.nil_append, List.cons_append, List.map_cons, List.map_nil, envE, Mem.get, Nat.reduceEqDiff, reduceIte, Option.isNone_none, Option.isNone_some, Bool.false_eq_true, List.length_cons, List.length_nil, Nat.reduceAdd, Nat.reduceMul]
          exact hK16.out _ _ _ k2 (Nat.lt_succ_self k2) ⟨_, _, Settled.refl, _, _, ⟨_, _, h, rfl, rfl⟩, ⟨rfl, ⟨⟨rfl, rfl⟩, ⟨⟨rfl, rfl⟩, ⟨⟨rfl, rfl⟩, ⟨⟨rfl, rfl⟩, trivial⟩⟩⟩⟩, trivial⟩, rfl⟩
        · refine rwp_block fun K24 hK24 => ?_
          refine rwp_seq fun K25 hK25 => ?_
          refine rwp_region fun K26 hK26 => ?_
          refine st0 2304 rfl (ok (mv (.d (eU64 v14)))) ?_
          refine st0 2368 rfl (ok (mul64 _ (2#64))) ?_
          refine st0 2432 rfl (ok (rem64 _ (2305843009213693951#64) (by decide))) ?_
          refine st0 2496 rfl (ok (mv (.d (eU64 ((v14 * (2#64)) % (2305843009213693951#64)))))) ?_
          refine hK26 _ _ ?_
          simp only [thenK, blockK, keepE, updM, List.filter_cons, List.filter_nil, List.nil_append, List.cons_append, List.map_cons, List.map_nil, envE, Mem.get, Nat.reduceEqDiff, reduceIte, Option.isNone_none, Option.isNone_some, Bool.false_eq_true, List.length_cons, List.length_nil, Nat.reduceAdd, Nat.reduceMul]
          refine hK25 _ _ _ ?_
          refine rwp_seq fun K27 hK27 => ?_
          refine rwp_region fun K28 hK28 => ?_
          refine st0 2560 rfl (ok (mv (.d (eU64 (a1 % (2305843009213693951#64)))))) ?_
          refine st0 2624 rfl (ok (mv (.d (eI v15)))) ?_
          refine st0 2688 rfl (ok (ofI64 _ v15)) ?_
          obtain ⟨v29, h30, h⟩ := lett_inv h
          refine st0e 2752 rfl (ok (shr64_64 _ _)) (congrArg (fun z => PV.d (eU64 z)) h30) ?_
          refine st0 2816 rfl (ok (and64 _ (1#64))) ?_
          refine st0 2880 rfl (ok (eql64 _ (1#64))) ?_
          refine hK28 _ _ ?_
          simp only [thenK, blockK, keepE, updM, List.filter_cons, List.filter_nil, List.nil_append, List.cons_append, List.map_cons, List.map_nil, envE, Mem.get, Nat.reduceEqDiff, reduceIte, Option.isNone_none, Option.isNone_some, Bool.false_eq_true, List.length_cons, List.length_nil, Nat.reduceAdd, Nat.reduceMul]
          refine hK27 _ _ _ ?_
          rcases Bool.eq_false_or_eq_true (((v29 &&& (1#64)) == (1#64))) with h31 | h31
          · replace h := ite_t h h31
            refine rwp_t (isT h31) ?_
            refine rwp_region fun K32 hK32 => ?_
            refine st0 2944 rfl (ok (mv (.d (eU64 ((v14 * (2#64)) % (2305843009213693951#64)))))) ?_
            refine st0 3008 rfl (ok (mv (.d (eU64 (a0 % (2305843009213693951#64)))))) ?_
            obtain ⟨v33, h34, h⟩ := lett_inv h
            refine st0e 3072 rfl (ok (add64 _ _)) (congrArg (fun z => PV.d (eU64 z)) h34) ?_
            refine st0 3136 rfl (ok (rem64 _ (2305843009213693951#64) (by decide))) ?_
            refine st0 3200 rfl (ok (mv (.d (eU64 (v33 % (2305843009213693951#64)))))) ?_
            refine hK32 _ _ ?_
            simp only [thenK, blockK, keepE, updM, List.filter_cons, List.filter_nil, List.nil_append, List.cons_append, List.map_cons, List.map_nil, envE, Mem.get, Nat.reduceEqDiff, reduceIte, Option.isNone_none, Option.isNone_some, Bool.false_eq_true, List.length_cons, List.length_nil, Nat.reduceAdd, Nat.reduceMul]
            refine hK24 _ _ _ ?_
            exact hK22 _ _ _ ⟨_, _, Settled.refl, _, _, ⟨_, h, rfl, rfl⟩, ⟨rfl, ⟨⟨rfl, rfl⟩, ⟨⟨rfl, rfl⟩, ⟨⟨rfl, rfl⟩, ⟨⟨rfl, rfl⟩, trivial⟩⟩⟩⟩, trivial⟩, rfl⟩
          · replace h := ite_f h h31
            refine rwp_f (isF h31) ?_
            refine rwp_skip ?_
            refine hK24 _ _ _ ?_
            exact hK22 _ _ _ ⟨_, _, Settled.refl, _, _, ⟨_, h, rfl, rfl⟩, ⟨rfl, ⟨⟨rfl, rfl⟩, ⟨⟨rfl, rfl⟩, ⟨⟨rfl, rfl⟩, ⟨⟨rfl, rfl⟩, trivial⟩⟩⟩⟩, trivial⟩, rfl⟩
      · replace h := ite_f h h20
        refine rwp_f (isF h20) ?_
        refine rwp_exit ?_
        refine hK13 _ _ _ ?_
        exact hK8 _ _ _ ⟨_, _, Settled.refl, _, _, ⟨_, h, rfl, rfl⟩, ⟨rfl, ⟨⟨rfl, rfl⟩, trivial⟩, trivial⟩, rfl⟩

/-- passkey/exchange.exponent -/
def exchangeexponentH : Hints := ⟨[(0, [0]), (1, [2])], []⟩
def exchangeexponentRc : RCode :=
  .seq (.region false [⟨some 2, .mv, [.k (.d (.int .u64 0))], none, []⟩] [0]) (.seq (.region false [⟨some 3, .mv, [.t 0], none, []⟩, ⟨some 4, .bin .rem, [.t 3, .k (.d (.int .u64
  2305843009213693948))], none, []⟩, ⟨some 5, .bin .add, [.k (.d (.int .u64 2)), .t 4], none, []⟩, ⟨some 2, .mv, [.t 5], none, []⟩] [2]) .ret)
def exchangeexponentRr : List RR := [.t 2]
theorem exchangeexponentC : compFn Try.prog 22 exchangeexponentH = some (exchangeexponentRc, exchangeexponentRr, 6) := by kernel_rfl
theorem exchangeexponentOK (a0 : BitVec 64) (res : BitVec 64) (h : exchangeexponent a0 = some res) : CallOK Try.prog 22 [.d (eU64 a0)] [] (.d (eU64 res)) [] := by
  unfold exchangeexponent at h
  refine callOK exchangeexponentC fm rfl ?_
  simp only [initE, initM, nbor, List.map_cons, List.map_nil, Nat.reduceAdd]
  unfold exchangeexponentRc
  refine rwp_seq fun K1 hK1 => ?_
  refine rwp_region fun K2 hK2 => ?_
  refine st0 128 rfl (ok (mv (.d (eU64 (0#64))))) ?_
  refine hK2 _ _ ?_
  simp only [thenK, blockK, keepE, updM, List.filter_cons, List.filter_nil, List.nil_append, List.cons_append, List.map_cons, List.map_nil, envE, Mem.get, Nat.reduceEqDiff, reduceIte, Option.isNone_none, Option.isNone_some, Bool.false_eq_true, List.length_cons, List.length_nil, Nat.reduceAdd, Nat.reduceMul]
  refine hK1 _ _ _ ?_
  refine rwp_seq fun K3 hK3 => ?_
  refine rwp_region fun K4 hK4 => ?_
  refine st0 192 rfl (ok (mv (.d (eU64 a0)))) ?_
  refine st0 256 rfl (ok (rem64 _ (2305843009213693948#64) (by decide))) ?_
  refine st0 320 rfl (ok (add64 (2#64) _)) ?_
  refine st0 384 rfl (ok (mv (.d (eU64 ((2#64) + (a0 % (2305843009213693948#64))))))) ?_
  refine hK4 _ _ ?_
  simp only [thenK, blockK, keepE, updM, List.filter_cons, List.filter_nil, List.nil_append, List.cons_append, List.map_cons, List.map_nil, envE, Mem.get, Nat.reduceEqDiff, reduceIte, Option.isNone_none, Option.isNone_some, Bool.false_eq_true, List.length_cons, List.length_nil, Nat.reduceAdd, Nat.reduceMul]
  refine hK3 _ _ _ ?_
  refine rwp_ret ?_
  obtain rfl := Option.some.inj h
  try simp only [thenK, blockK, reduceIte]
  exact end_ok trivial (rs_t (v := .d (eU64 ((2#64) + (a0 % (2305843009213693948#64))))) rfl rs_nil) (en_d (to_d _) en_nil) ou_nil (by first | exact eok rfl rfl rfl rfl trivial | (refine eok ?_ ?_ ?_ ?_ ?_ <;> first | rfl | exact trivial | simp [retM, Mem.get, PV.renL, PV.ren, Blk.ren, comps, rhoR, rhoM, appN, PV.refsL, PV.refs, keys, nodupB, Blk.refs, allIn, Blk.bor]))

/-- passkey/exchange.Power -/
def exchangePowerH : Hints := ⟨[(0, [0, 1]), (1, [0, 1, 5]), (2, [0, 1, 5, 7]), (4, [0, 1, 5, 12]), (5, [0, 1, 5]), (6, [0, 1, 5]), (3, [0, 1, 5]), (7, [4])], []⟩
def exchangePowerRc : RCode :=
  .seq (.region false [⟨some 4, .mv, [.k (.d (.int .u64 0))], none, []⟩] [0, 1]) (.seq (.region false [⟨some 5, .mv, [.k (.d (.int .u64 1))], none, []⟩] [0, 1, 5]) (.seq (.block 0
  (.loop [] (.seq (.seq (.region false [⟨some 6, .mv, [.t 1], none, []⟩, ⟨some 7, .bin .gtr, [.t 6, .k (.d (.int .u64 0))], none, []⟩] [0, 1, 5, 7]) (.cond (.t 7) .skip (.exit 0)))
  (.seq (.block 1 (.seq (.seq (.region false [⟨some 10, .mv, [.t 1], none, []⟩, ⟨some 11, .bin .and, [.t 10, .k (.d (.int .u64 1))], none, []⟩, ⟨some 12, .bin .eql, [.t 11, .k (.d
  (.int .u64 1))], none, []⟩] [0, 1, 5, 12]) (.cond (.t 12) (.region false [⟨some 13, .mv, [.t 5], none, []⟩, ⟨some 14, .mv, [.t 0], none, []⟩, ⟨some 15, .call 9 false, [.t 13, .t
  14], none, []⟩, ⟨some 5, .mv, [.t 15], none, []⟩] [0, 1, 5]) .skip)) (.region false [⟨some 16, .mv, [.t 0], none, []⟩, ⟨some 17, .mv, [.t 0], none, []⟩, ⟨some 18, .call 9 false,
  [.t 16, .t 17], none, []⟩, ⟨some 0, .mv, [.t 18], none, []⟩] [0, 1, 5]))) (.region false [⟨some 8, .mv, [.t 1], none, []⟩, ⟨some 9, .bin .shr, [.t 8, .k (.d (.int .u64 1))],
  none, []⟩, ⟨some 1, .mv, [.t 9], none, []⟩] [0, 1, 5]))))) (.seq (.region false [⟨some 19, .mv, [.t 5], none, []⟩, ⟨some 4, .mv, [.t 19], none, []⟩] [4]) .ret)))
def exchangePowerRr : List RR := [.t 4]
theorem exchangePowerC : compFn Try.prog 12 exchangePowerH = some (exchangePowerRc, exchangePowerRr, 20) := by kernel_rfl
theorem exchangePowerOK (a0 : BitVec 64) (a1 : BitVec 64) (res : BitVec 64) (h : exchangePower a0 a1 = some res) : CallOK Try.prog 12 [.d (eU64 a0), .d (eU64 a1)] [] (.d (eU64 res)) [] := by
  unfold exchangePower at h
  refine callOK exchangePowerC fm rfl ?_
  simp only [initE, initM, nbor, List.map_cons, List.map_nil, Nat.reduceAdd]
  unfold exchangePowerRc
  refine rwp_seq fun K1 hK1 => ?_
  refine rwp_region fun K2 hK2 => ?_
  refine st0 128 rfl (ok (mv (.d (eU64 (0#64))))) ?_
  refine hK2 _ _ ?_
  simp only [thenK, blockK, keepE, updM, List.filter_cons, List.filter_nil, List.nil_append, List.cons_append, List.map_cons, List.map_nil, envE, Mem.get, Nat.reduceEqDiff, reduceIte, Option.isNone_none, Option.isNone_some, Bool.false_eq_true, List.length_cons, List.length_nil, Nat.reduceAdd, Nat.reduceMul]
  refine hK1 _ _ _ ?_
  refine rwp_seq fun K3 hK3 => ?_
  refine rwp_region fun K4 hK4 => ?_
  refine st0 192 rfl (ok (mv (.d (eU64 (1#64))))) ?_
  refine hK4 _ _ ?_
  simp only [thenK, blockK, keepE, updM, List.filter_cons, List.filter_nil, List.nil_append, List.cons_append, List.map_cons, List.map_nil, envE, Mem.get, Nat.reduceEqDiff, reduceIte, Option.isNone_none, Option.isNone_some, Bool.false_eq_true, List.length_cons, List.length_nil, Nat.reduceAdd, Nat.reduceMul]
  refine hK3 _ _ _ ?_
  refine rwp_join ([], []) 1600 (fun env mem => ∃ (v5 : BitVec 64), exchangePowerJ1 v5 = some res ∧ env = [(5, .d (eU64 v5))] ∧ mem = []) (fun _ _ hI => ?_) (fun K6 hK6 => ?_)
  · obtain ⟨v5, h, rfl, rfl⟩ := hI
    unfold exchangePowerJ1 at h
    refine rwp_seq fun K7 hK7 => ?_
    refine rwp_region fun K8 hK8 => ?_
    refine st0 1664 rfl (ok (mv (.d (eU64 v5)))) ?_
    refine st0 1728 rfl (ok (mv (.d (eU64 v5)))) ?_
    refine hK8 _ _ ?_
    simp only [thenK, blockK, keepE, updM, List.filter_cons, List.filter_nil, List.nil_append, List.cons_append, List.map_cons, List.map_nil, envE, Mem.get, Nat.reduceEqDiff, reduceIte, Option.isNone_none, Option.isNone_some, Bool.false_eq_true, List.length_cons, List.length_nil, Nat.reduceAdd, Nat.reduceMul]
    refine hK7 _ _ _ ?_
    refine rwp_ret ?_
    obtain rfl := Option.some.inj h
    try simp only [thenK, blockK, reduceIte]
    exact end_ok trivial (rs_t (v := .d (eU64 v5)) rfl rs_nil) (en_d (to_d _) en_nil) ou_nil (by first | exact eok rfl rfl rfl rfl trivial | (refine eok ?_ ?_ ?_ ?_ ?_ <;> first | rfl | exact trivial | simp [retM, Mem.get, PV.renL, PV.ren, Blk.ren, comps, rhoR, rhoM, appN, PV.refsL, PV.refs, keys, nodupB, Blk.refs, allIn, Blk.bor]))
  · refine rwp_block fun K9 hK9 => ?_
    refine rwp_loop ([], []) 1408 (fun k env mem => ∃ (v10 : BitVec 64) (v11 : BitVec 64) (v12 : BitVec 64), exchangePowerL2 k v10 v11 v12 = some res ∧ env = [(0, .d (eU64 v10)), (1, .d (eU64 v11)), (5, .d (eU64 v12))] ∧ mem = []) FUEL ⟨_, _, Settled.refl, _, _, ⟨_, _, _, h, rfl, rfl⟩, ⟨rfl, ⟨⟨rfl, rfl⟩, ⟨⟨rfl, rfl⟩, ⟨⟨rfl, rfl⟩, trivial⟩⟩⟩, trivial⟩, rfl⟩ (fun k2 env1 mem1 hI K13 hK13 => ?_)
    obtain ⟨v10, v11, v12, h, rfl, rfl⟩ := hI
    cases k2 with
    | zero => simp [exchangePowerL2] at h
    | succ k2 =>
      rw [exchangePowerL2] at h
      refine rwp_seq fun K14 hK14 => ?_
      refine rwp_seq fun K15 hK15 => ?_
      refine rwp_region fun K16 hK16 => ?_
      refine st0 1472 rfl (ok (mv (.d (eU64 v11)))) ?_
      refine st0 1536 rfl (ok (gtr64 _ (0#64))) ?_
      refine hK16 _ _ ?_
      simp only [thenK, blockK, keepE, updM, List.filter_cons, List.filter_nil, List.nil_append, List.cons_append, List.map_cons, List.map_nil, envE, Mem.get, Nat.reduceEqDiff, reduceIte, Option.isNone_none, Option.isNone_some, Bool.false_eq_true, List.length_cons, List.length_nil, Nat.reduceAdd, Nat.reduceMul]
      refine hK15 _ _ _ ?_
      rcases Bool.eq_false_or_eq_true ((decide ((0#64).toNat < v11.toNat))) with h17 | h17
      · replace h := ite_t h h17
        refine rwp_t (isT h17) ?_
        refine rwp_skip ?_
        refine hK14 _ _ _ ?_
        refine rwp_seq fun K18 hK18 => ?_
        refine rwp_block fun K19 hK19 => ?_
        refine rwp_join ([], []) 2048 (fun env mem => ∃ (v20 : BitVec 64), exchangePowerJ3 (exchangePowerL2 k2) v10 v11 v20 = some res ∧ env = [(0, .d (eU64 v10)), (1, .d (eU64 v11)), (5, .d (eU64 v20))] ∧ mem = []) (fun _ _ hI => ?_) (fun K21 hK21 => ?_)
        · obtain ⟨v20, h, rfl, rfl⟩ := hI
          unfold exchangePowerJ3 at h
          refine rwp_region fun K22 hK22 => ?_
          refine st0 2112 rfl (ok (mv (.d (eU64 v10)))) ?_
          refine st0 2176 rfl (ok (mv (.d (eU64 v10)))) ?_
          obtain ⟨y23, h24, h⟩ := bind_inv h
          refine st0 2240 rfl (call_ok (v := .d (eU64 y23)) (u := []) (ar_d (eU64 v10) (ar_d (eU64 v10) ar_nil)) rfl (exchangeMulOK v10 v10 y23 h24) rfl) ?_
          refine st0 2304 rfl (ok (mv (.d (eU64 y23)))) ?_
          refine hK22 _ _ ?_
          simp only [thenK, blockK, keepE, updM, List.filter_cons, List.filter_nil, List.nil_append, List.cons_append, List.map_cons, List.map_nil, envE, Mem.get, Nat.reduceEqDiff, reduceIte, Option.isNone_none, Option.isNone_some, Bool.false_eq_true, List.length_cons, List.length_nil, Nat.reduceAdd, Nat.reduceMul]
          refine hK19 _ _ _ ?_
          refine hK18 _ _ _ ?_
          refine rwp_region fun K25 hK25 => ?_
          refine st0 2368 rfl (ok (mv (.d (eU64 v11)))) ?_
          refine st0 2432 rfl (ok (shrL64 _ 1 rfl)) ?_
          refine st0 2496 rfl (ok (mv (.d (eU64 (v11 >>> 1))))) ?_
          refine hK25 _ _ ?_
          simp only [thenK, blockK, keepE, updM, List.filter_cons, List.filter_nil, List.nil_append, List.cons_append, List.map_cons, List.map_nil, envE, Mem.get, Nat.reduceEqDiff, reduceIte, Option.isNone_none, Option.isNone_some, Bool.false_eq_true, List.length_cons, List.length_nil, Nat.reduceAdd, Nat.reduceMul]
          exact hK13.out _ _ _ k2 (Nat.lt_succ_self k2) ⟨_, _, Settled.refl, _, _, ⟨_, _, _, h, rfl, rfl⟩, ⟨rfl, ⟨⟨rfl, rfl⟩, ⟨⟨rfl, rfl⟩, ⟨⟨rfl, rfl⟩, trivial⟩⟩⟩, trivial⟩, rfl⟩
        · refine rwp_seq fun K26 hK26 => ?_
          refine rwp_region fun K27 hK27 => ?_
          refine st0 1600 rfl (ok (mv (.d (eU64 v11)))) ?_
          refine st0 1664 rfl (ok (and64 _ (1#64))) ?_
          refine st0 1728 rfl (ok (eql64 _ (1#64))) ?_
          refine hK27 _ _ ?_
          simp only [thenK, blockK, keepE, updM, List.filter_cons, List.filter_nil, List.nil_append, List.cons_append, List.map_cons, List.map_nil, envE, Mem.get, Nat.reduceEqDiff, reduceIte, Option.isNone_none, Option.isNone_some, Bool.false_eq_true, List.length_cons, List.length_nil, Nat.reduceAdd, Nat.reduceMul]
          refine hK26 _ _ _ ?_
          rcases Bool.eq_false_or_eq_true (((v11 &&& (1#64)) == (1#64))) with h28 | h28
          · replace h := ite_t h h28
            refine rwp_t (isT h28) ?_
            refine rwp_region fun K29 hK29 => ?_
            refine st0 1792 rfl (ok (mv (.d (eU64 v12)))) ?_
            refine st0 1856 rfl (ok (mv (.d (eU64 v10)))) ?_
            obtain ⟨y30, h31, h⟩ := bind_inv h
            refine st0 1920 rfl (call_ok (v := .d (eU64 y30)) (u := []) (ar_d (eU64 v12) (ar_d (eU64 v10) ar_nil)) rfl (exchangeMulOK v12 v10 y30 h31) rfl) ?_
            refine st0 1984 rfl (ok (mv (.d (eU64 y30)))) ?_
            refine hK29 _ _ ?_
            simp only [thenK, blockK, keepE, updM, List.filter_cons, List.filter_nil, List.nil_append, List.cons_append, List.map_cons, List.map_nil, envE, Mem.get, Nat.reduceEqDiff, reduceIte, Option.isNone_none, Option.isNone_some, Bool.false_eq_true, List.length_cons, List.length_nil, Nat.reduceAdd, Nat.reduceMul]
            exact hK21 _ _ _ ⟨_, _, Settled.refl, _, _, ⟨_, h, rfl, rfl⟩, ⟨rfl, ⟨⟨rfl, rfl⟩, ⟨⟨rfl, rfl⟩, ⟨⟨rfl, rfl⟩, trivial⟩⟩⟩, trivial⟩, rfl⟩
          · replace h := ite_f h h28
            refine rwp_f (isF h28) ?_
            refine rwp_skip ?_
            exact hK21 _ _ _ ⟨_, _, Settled.refl, _, _, ⟨_, h, rfl, rfl⟩, ⟨rfl, ⟨⟨rfl, rfl⟩, ⟨⟨rfl, rfl⟩, ⟨⟨rfl, rfl⟩, trivial⟩⟩⟩, trivial⟩, rfl⟩
      · replace h := ite_f h h17
        refine rwp_f (isF h17) ?_
        refine rwp_exit ?_
        refine hK9 _ _ _ ?_
        exact hK6 _ _ _ ⟨_, _, Settled.refl, _, _, ⟨_, h, rfl, rfl⟩, ⟨rfl, ⟨⟨rfl, rfl⟩, trivial⟩, trivial⟩, rfl⟩

/-- passkey/digest.Words -/
def digestWordsH : Hints := ⟨[(0, [0]), (1, [0, 3]), (2, [3, 7, 8, 9]), (3, [3, 7, 8, 9, 10]), (4, [3, 5, 7, 8, 9]), (5, [3, 5, 7, 8, 9, 13]), (6, [3, 5, 7, 8, 9, 13, 14]), (7, [3, 5, 6, 7, 8, 9, 13]), (8, [3, 5, 7, 8, 9, 13]), (9, [3, 5, 7, 8, 9, 13]), (10, [3, 7, 8, 9]), (11, [2])], []⟩
def digestWordsRc : RCode :=
  .seq (.region false [⟨some 2, .mv, [.k (.nil 1)], none, []⟩] [0]) (.seq (.region false [⟨some 3, .mv, [.k (.nil 1)], none, []⟩] [0, 3]) (.seq (.seq (.region false [⟨some 7, .mv,
  [.t 0], none, []⟩, ⟨some 8, .len, [.t 7], none, []⟩, ⟨some 9, .mv, [.k (.d (.int .i64 0))], none, []⟩] [3, 7, 8, 9]) (.block 0 (.loop [] (.seq (.region false [⟨some 10, .bin
  .lss, [.t 9, .t 8], none, []⟩] [3, 7, 8, 9, 10]) (.seq (.cond (.t 10) .skip (.exit 0)) (.seq (.block 1 (.seq (.region false [⟨some 11, .ia 1, [.t 7, .t 9], none, []⟩, ⟨some 12,
  .load 1 false, [.t 11], none, []⟩, ⟨some 5, .mv, [.t 12], none, []⟩] [3, 5, 7, 8, 9]) (.seq (.region false [⟨some 13, .mv, [.k (.d (.int .i64 0))], none, []⟩] [3, 5, 7, 8, 9,
  13]) (.block 2 (.loop [] (.seq (.region false [⟨some 14, .bin .lss, [.t 13, .k (.d (.int .i64 8))], none, []⟩] [3, 5, 7, 8, 9, 13, 14]) (.seq (.cond (.t 14) .skip (.exit 2))
  (.seq (.block 3 (.seq (.region false [⟨some 15, .mv, [.t 13], none, []⟩, ⟨some 6, .mv, [.t 15], none, []⟩] [3, 5, 6, 7, 8, 9, 13]) (.region false [⟨some 16, .mv, [.t 3], none,
  []⟩, ⟨some 17, .mv, [.t 5], none, []⟩, ⟨some 18, .mv, [.t 6], none, []⟩, ⟨some 19, .bin .mul, [.k (.d (.int .i64 8)), .t 18], none, []⟩, ⟨some 20, .bin .sub, [.k (.d (.int .i64
  56)), .t 19], none, []⟩, ⟨some 21, .bin .shr, [.t 17, .t 20], none, []⟩, ⟨some 22, .cvt .u8, [.t 21], none, []⟩, ⟨some 23, .bslice 1 false 1 [.d (.int .u8 0)] [0], [.t 22], none,
  []⟩, ⟨some 24, .app 1 140737488355328, [.t 16, .t 23], none, []⟩, ⟨some 3, .mv, [.t 24], none, []⟩] [3, 5, 7, 8, 9, 13]))) (.region false [⟨some 25, .bin .add, [.t 13, .k (.d
  (.int .i64 1))], none, []⟩, ⟨some 13, .mv, [.t 25], none, []⟩] [3, 5, 7, 8, 9, 13]))))))))) (.region false [⟨some 26, .bin .add, [.t 9, .k (.d (.int .i64 1))], none, []⟩, ⟨some
  9, .mv, [.t 26], none, []⟩] [3, 7, 8, 9]))))))) (.seq (.region false [⟨some 27, .mv, [.t 3], none, []⟩, ⟨some 2, .mv, [.t 27], none, []⟩] [2]) .ret)))
def digestWordsRr : List RR := [.t 2]
theorem digestWordsC : compFn Try.prog 21 digestWordsH = some (digestWordsRc, digestWordsRr, 28) := by kernel_rfl
theorem digestWordsOK (a0 : List (BitVec 64)) (res : List (BitVec 8)) (h : digestWords a0 = some res) : CallOK Try.prog 21 [.d ((eL 1 eU64) a0)] [] (.ref 0 res.length 0 res.length) [(0, .row true 1 (res.map eU8))] := by
  unfold digestWords at h
  refine callOK digestWordsC fm rfl ?_
  simp only [initE, initM, nbor, List.map_cons, List.map_nil, Nat.reduceAdd]
  unfold digestWordsRc
  refine rwp_seq fun K1 hK1 => ?_
  refine rwp_region fun K2 hK2 => ?_
  refine st0 128 rfl (ok (mv (.nil 1))) ?_
  refine hK2 _ _ ?_
  simp only [thenK, blockK, keepE, updM, List.filter_cons, List.filter_nil, List.nil_append, List.cons_append, List.map_cons, List.map_nil, envE, Mem.get, Nat.reduceEqDiff, reduceIte, Option.isNone_none, Option.isNone_some, Bool.false_eq_true, List.length_cons, List.length_nil, Nat.reduceAdd, Nat.reduceMul]
  refine hK1 _ _ _ ?_
  refine rwp_seq fun K3 hK3 => ?_
  refine rwp_region fun K4 hK4 => ?_
  refine st0 192 rfl (ok (mv (.nil 1))) ?_
  refine hK4 _ _ ?_
  simp only [thenK, blockK, keepE, updM, List.filter_cons, List.filter_nil, List.nil_append, List.cons_append, List.map_cons, List.map_nil, envE, Mem.get, Nat.reduceEqDiff, reduceIte, Option.isNone_none, Option.isNone_some, Bool.false_eq_true, List.length_cons, List.length_nil, Nat.reduceAdd, Nat.reduceMul]
  refine hK3 _ _ _ ?_
  refine rwp_join ([], []) 2432 (fun env mem => ∃ (v5 : List (BitVec 8)), digestWordsJ1 v5 = some res ∧ env = [(3, .ref 2241 v5.length 0 v5.length)] ∧ mem = [(2241, .row true 1 (v5.map eU8))]) (fun _ _ hI => ?_) (fun K6 hK6 => ?_)
  · obtain ⟨v5, h, rfl, rfl⟩ := hI
    unfold digestWordsJ1 at h
    refine rwp_seq fun K7 hK7 => ?_
    refine rwp_region fun K8 hK8 => ?_
    refine st0 2496 rfl (ok (mv (.ref 2241 v5.length 0 v5.length))) ?_
    refine st0 2560 rfl (ok (mv (.ref 2241 v5.length 0 v5.length))) ?_
    refine hK8 _ _ ?_
    simp only [thenK, blockK, keepE, updM, List.filter_cons, List.filter_nil, List.nil_append, List.cons_append, List.map_cons, List.map_nil, envE, Mem.get, Nat.reduceEqDiff, reduceIte, Option.isNone_none, Option.isNone_some, Bool.false_eq_true, List.length_cons, List.length_nil, Nat.reduceAdd, Nat.reduceMul]
    refine hK7 _ _ _ ?_
    refine rwp_ret ?_
    obtain rfl := Option.some.inj h
    try simp only [thenK, blockK, reduceIte]
    exact end_ok trivial (rs_t (v := .ref 2241 v5.length 0 v5.length) rfl rs_nil) (en_ref en_nil) ou_nil (by first | exact eok rfl rfl rfl rfl (And.intro (And.intro rfl rfl) trivial) | (refine eok ?_ ?_ ?_ ?_ ?_ <;> first | rfl | exact (And.intro (And.intro rfl rfl) trivial) | simp [retM, Mem.get, PV.renL, PV.ren, Blk.ren, comps, rhoR, rhoM, appN, PV.refsL, PV.refs, keys, nodupB, Blk.refs, allIn, Blk.bor]))
  · refine rwp_seq fun K9 hK9 => ?_
    refine rwp_region fun K10 hK10 => ?_
    refine st0 256 rfl (ok (mv (.d ((eL 1 eU64) a0)))) ?_
    refine st0 320 rfl (ok (lenL _ _)) ?_
    refine st0 384 rfl (ok (mv (.d (eI (0 : Int))))) ?_
    refine hK10 _ _ ?_
    simp only [thenK, blockK, keepE, updM, List.filter_cons, List.filter_nil, List.nil_append, List.cons_append, List.map_cons, List.map_nil, envE, Mem.get, Nat.reduceEqDiff, reduceIte, Option.isNone_none, Option.isNone_some, Bool.false_eq_true, List.length_cons, List.length_nil, Nat.reduceAdd, Nat.reduceMul]
    refine hK9 _ _ _ ?_
    refine rwp_block fun K11 hK11 => ?_
    refine rwp_loop ([(3, 2241)], []) 2304 (fun k env mem => ∃ (v12 : List (BitVec 8)) (v13 : Int), digestWordsL2 a0 k v12 v13 = some res ∧ env = [(3, .ref 2241 v12.length 0 v12.length), (7, .d ((eL 1 eU64) a0)), (8, .d (eI (a0.length : Int))), (9, .d (eI v13))] ∧ mem = [(2241, .row true 1 (v12.map eU8))]) FUEL ⟨_, _, Settled.refl, _, _, ⟨_, _, h, rfl, rfl⟩, ⟨rfl, ⟨⟨rfl, rfl⟩, ⟨⟨rfl, rfl⟩, ⟨⟨rfl, rfl⟩, ⟨⟨rfl, rfl⟩, trivial⟩⟩⟩⟩, ⟨⟨rfl, rfl⟩, trivial⟩⟩, rfl⟩ (fun k2 env1 mem1 hI K14 hK14 => ?_)
    obtain ⟨v12, v13, h, rfl, rfl⟩ := hI
    cases k2 with
    | zero => simp [digestWordsL2] at h
    | succ k2 =>
      rw [digestWordsL2] at h
      refine rwp_seq fun K15 hK15 => ?_
      refine rwp_region fun K16 hK16 => ?_
      refine st0 2368 rfl (ok (lssI _ _)) ?_
      refine hK16 _ _ ?_
      simp only [thenK, blockK, keepE, updM, List.filter_cons, List.filter_nil, List.nil_append, List.cons_append, List.map_cons, List.map_nil, envE, Mem.get, Nat.reduceEqDiff, reduceIte, Option.isNone_none, Option.isNone_some, Bool.false_eq_true, List.length_cons, List.length_nil, Nat.reduceAdd, Nat.reduceMul]
      refine hK15 _ _ _ ?_
      refine rwp_seq fun K17 hK17 => ?_
      rcases Bool.eq_false_or_eq_true ((decide (v13 < (a0.length : Int)))) with h18 | h18
      · replace h := ite_t h h18
        refine rwp_t (isT h18) ?_
        refine rwp_skip ?_
        refine hK17 _ _ _ ?_
        refine rwp_join ([], []) 3840 (fun env mem => ∃ (v19 : List (BitVec 8)), digestWordsJ3 (digestWordsL2 a0 k2) v13 v19 = some res ∧ env = [(3, .ref 2241 v19.length 0 v19.length), (7, .d ((eL 1 eU64) a0)), (8, .d (eI (a0.length : Int))), (9, .d (eI v13))] ∧ mem = [(2241, .row true 1 (v19.map eU8))]) (fun _ _ hI => ?_) (fun K20 hK20 => ?_)
        · obtain ⟨v19, h, rfl, rfl⟩ := hI
          unfold digestWordsJ3 at h
          refine rwp_region fun K21 hK21 => ?_
          refine st0 3904 rfl (ok (addI _ (1 : Int))) ?_
          refine st0 3968 rfl (ok (mv (.d (eI (w64 (v13 + (1 : Int))))))) ?_
          refine hK21 _ _ ?_
          simp only [thenK, blockK, keepE, updM, List.filter_cons, List.filter_nil, List.nil_append, List.cons_append, List.map_cons, List.map_nil, envE, Mem.get, Nat.reduceEqDiff, reduceIte, Option.isNone_none, Option.isNone_some, Bool.false_eq_true, List.length_cons, List.length_nil, Nat.reduceAdd, Nat.reduceMul]
          exact hK14.out _ _ _ k2 (Nat.lt_succ_self k2) ⟨_, _, Settled.refl, _, _, ⟨_, _, h, rfl, rfl⟩, ⟨rfl, ⟨⟨rfl, rfl⟩, ⟨⟨rfl, rfl⟩, ⟨⟨rfl, rfl⟩, ⟨⟨rfl, rfl⟩, trivial⟩⟩⟩⟩, ⟨⟨rfl, rfl⟩, trivial⟩⟩, rfl⟩
        · refine rwp_block fun K22 hK22 => ?_
          refine rwp_seq fun K23 hK23 => ?_
          refine rwp_region fun K24 hK24 => ?_
          obtain ⟨h25, h⟩ := asq_inv h
          refine st0 2432 rfl (ok (iaL (e := eU64) (xs := a0) 0#64 h25)) ?_
          refine st0 2496 rfl (ok (ld_i (v := eU64 (a0.getD v13.toNat 0#64)) rfl rfl)) ?_
          refine st0 2560 rfl (ok (mv (.d (eU64 (a0.getD v13.toNat 0#64))))) ?_
          refine hK24 _ _ ?_
          simp only [thenK, blockK, keepE, updM, List.filter_cons, List.filter_nil, List.nil_append, List.cons_append, List.map_cons, List.map_nil, envE, Mem.get, Nat.reduceEqDiff, reduceIte, Option.isNone_none, Option.isNone_some, Bool.false_eq_true, List.length_cons, List.length_nil, Nat.reduceAdd, Nat.reduceMul]
          refine hK23 _ _ _ ?_
          refine rwp_seq fun K26 hK26 => ?_
          refine rwp_region fun K27 hK27 => ?_
          refine st0 2624 rfl (ok (mv (.d (eI (0 : Int))))) ?_
          refine hK27 _ _ ?_
          simp only [thenK, blockK, keepE, updM, List.filter_cons, List.filter_nil, List.nil_append, List.cons_append, List.map_cons, List.map_nil, envE, Mem.get, Nat.reduceEqDiff, reduceIte, Option.isNone_none, Option.isNone_some, Bool.false_eq_true, List.length_cons, List.length_nil, Nat.reduceAdd, Nat.reduceMul]
          refine hK26 _ _ _ ?_
          refine rwp_block fun K28 hK28 => ?_
          refine rwp_loop ([], []) 3712 (fun k env mem => ∃ (v29 : List (BitVec 8)) (v30 : Int), digestWordsL4 (digestWordsL2 a0 k2) a0 v13 k v29 v30 = some res ∧ env = [(3, .ref 2241 v29.length 0 v29.length), (5, .d (eU64 (a0.getD v13.toNat 0#64))), (7, .d ((eL 1 eU64) a0)), (8, .d (eI (a0.length : Int))), (9, .d (eI v13)), (13, .d (eI v30))] ∧ mem = [(2241, .row true 1 (v29.map eU8))]) FUEL ⟨_, _, Settled.refl, _, _, ⟨_, _, h, rfl, rfl⟩, ⟨rfl, ⟨⟨rfl, rfl⟩, ⟨⟨rfl, rfl⟩, ⟨⟨rfl, rfl⟩, ⟨⟨rfl, rfl⟩, ⟨⟨rfl, rfl⟩, ⟨⟨rfl, rfl⟩, trivial⟩⟩⟩⟩⟩⟩, ⟨⟨rfl, rfl⟩, trivial⟩⟩, rfl⟩ (fun k4 env1 mem1 hI K31 hK31 => ?_)
          obtain ⟨v29, v30, h, rfl, rfl⟩ := hI
          cases k4 with
          | zero => simp [digestWordsL4] at h
          | succ k4 =>
            rw [digestWordsL4] at h
            refine rwp_seq fun K32 hK32 => ?_
            refine rwp_region fun K33 hK33 => ?_
            refine st0 3776 rfl (ok (lssI _ (8 : Int))) ?_
            refine hK33 _ _ ?_
            simp only [thenK, blockK, keepE, updM, List.filter_cons, List.filter_nil, List.nil_append, List.cons_append, List.map_cons, List.map_nil, envE, Mem.get, Nat.reduceEqDiff, reduceIte, Option.isNone_none, Option.isNone_some, Bool.false_eq_true, List.length_cons, List.length_nil, Nat.reduceAdd, Nat.reduceMul]
            refine hK32 _ _ _ ?_
            refine rwp_seq fun K34 hK34 => ?_
            rcases Bool.eq_false_or_eq_true ((decide (v30 < (8 : Int)))) with h35 | h35
            · replace h := ite_t h h35
              refine rwp_t (isT h35) ?_
              refine rwp_skip ?_
              refine hK34 _ _ _ ?_
              refine rwp_seq fun K36 hK36 => ?_
              refine rwp_block fun K37 hK37 => ?_
              refine rwp_seq fun K38 hK38 => ?_
              refine rwp_region fun K39 hK39 => ?_
              refine st0 3840 rfl (ok (mv (.d (eI v30)))) ?_
              refine st0 3904 rfl (ok (mv (.d (eI v30)))) ?_
              refine hK39 _ _ ?_
              simp only [thenK, blockK, keepE, updM, List.filter_cons, List.filter_nil, List.nil_append, List.cons_append, List.map_cons, List.map_nil, envE, Mem.get, Nat.reduceEqDiff, reduceIte, Option.isNone_none, Option.isNone_some, Bool.false_eq_true, List.length_cons, List.length_nil, Nat.reduceAdd, Nat.reduceMul]
              refine hK38 _ _ _ ?_
              refine rwp_region fun K40 hK40 => ?_
              refine st0 3968 rfl (ok (mv (.ref 2241 v29.length 0 v29.length))) ?_
              refine st0 4032 rfl (ok (mv (.d (eU64 (a0.getD v13.toNat 0#64))))) ?_
              refine st0 4096 rfl (ok (mv (.d (eI v30)))) ?_
              refine st0 4160 rfl (ok (mulI (8 : Int) _)) ?_
              refine st0 4224 rfl (ok (subI (56 : Int) _)) ?_
              obtain ⟨h41, h⟩ := asq_inv h
              obtain ⟨v42, h43, h⟩ := lett_inv h
              refine st0e 4288 rfl (ok (shrI64 _ h41)) (congrArg (fun z => PV.d (eU64 z)) h43) ?_
              refine st0 4352 rfl (ok (cvt64_8 _)) ?_
              refine st1 4416 rfl (mem' := [(4352, .row true 1 (([(v42.setWidth 8)] : List (BitVec 8)).map eU8)), (2241, .row true 1 (v29.map eU8))]) (ok (bsl (e := eU8) (ys := ([(v42.setWidth 8)] : List (BitVec 8))) rfl rfl rfl)) rfl ?_
              obtain ⟨h44, h⟩ := asq_inv h
              refine st1 4480 rfl (mem' := [(2241, .row true 1 ((v29 ++ ([(v42.setWidth 8)] : List (BitVec 8))).map eU8)), (4352, .row true 1 (([(v42.setWidth 8)] : List (BitVec 8)).map eU8))]) (ok (appR (e := eU8) (xs := v29) (ys := ([(v42.setWidth 8)] : List (BitVec 8))) (contR (xs := ([(v42.setWidth 8)] : List (BitVec 8))) rfl rfl rfl) rfl rfl rfl h44)) rfl ?_
              refine st0 4544 rfl (ok (mv (.ref 2241 (((v29 ++ ([(v42.setWidth 8)] : List (BitVec 8)))).length) 0 (((v29 ++ ([(v42.setWidth 8)] : List (BitVec 8)))).length)))) ?_
              refine hK40 _ _ ?_
              simp only [thenK, blockK, keepE, updM, List.filter_cons, List.filter_nil, List.nil_append, List.cons_append, List.map_cons, List.map_nil, envE, Mem.get, Nat.reduceEqDiff, reduceIte, Option.isNone_none, Option.isNone_some, Bool.false_eq_true, List.length_cons, List.length_nil, Nat.reduceAdd, Nat.reduceMul]
              refine hK37 _ _ _ ?_
              refine hK36 _ _ _ ?_
              refine rwp_region fun K45 hK45 => ?_
              refine st0 4608 rfl (ok (addI _ (1 : Int))) ?_
              refine st0 4672 rfl (ok (mv (.d (eI (w64 (v30 + (1 : Int))))))) ?_
              refine hK45 _ _ ?_
              simp only [thenK, blockK, keepE, updM, List.filter_cons, List.filter_nil, List.nil_append, List.cons_append, List.map_cons, List.map_nil, envE, Mem.get, Nat.reduceEqDiff, reduceIte, Option.isNone_none, Option.isNone_some, Bool.false_eq_true, List.length_cons, List.length_nil, Nat.reduceAdd, Nat.reduceMul]
              exact hK31.out _ _ _ k4 (Nat.lt_succ_self k4) ⟨_, _, Settled.refl, _, _, ⟨_, _, h, rfl, rfl⟩, ⟨rfl, ⟨⟨rfl, rfl⟩, ⟨⟨rfl, rfl⟩, ⟨⟨rfl, rfl⟩, ⟨⟨rfl, rfl⟩, ⟨⟨rfl, rfl⟩, ⟨⟨rfl, rfl⟩, trivial⟩⟩⟩⟩⟩⟩, ⟨⟨rfl, rfl⟩, trivial⟩⟩, rfl⟩
            · replace h := ite_f h h35
              refine rwp_f (isF h35) ?_
              refine rwp_exit ?_
              refine hK28 _ _ _ ?_
              refine hK22 _ _ _ ?_
              exact hK20 _ _ _ ⟨_, _, Settled.refl, _, _, ⟨_, h, rfl, rfl⟩, ⟨rfl, ⟨⟨rfl, rfl⟩, ⟨⟨rfl, rfl⟩, ⟨⟨rfl, rfl⟩, ⟨⟨rfl, rfl⟩, trivial⟩⟩⟩⟩, ⟨⟨rfl, rfl⟩, trivial⟩⟩, rfl⟩
      · replace h := ite_f h h18
        refine rwp_f (isF h18) ?_
        refine rwp_exit ?_
        refine hK11 _ _ _ ?_
        exact hK6 _ _ _ ⟨_, _, Settled.refl, _, _, ⟨_, h, rfl, rfl⟩, ⟨rfl, ⟨⟨rfl, rfl⟩, trivial⟩, ⟨⟨rfl, rfl⟩, trivial⟩⟩, rfl⟩

/-- passkey/digest.little -/
def digestlittleH : Hints := ⟨[(0, [0]), (1, [0, 3]), (2, [3, 6, 7, 8]), (3, [3, 6, 7, 8, 9]), (4, [3, 4, 5, 6, 7, 8]), (5, [3, 6, 7, 8]), (6, [3, 6, 7, 8]), (7, [2])], []⟩
def digestlittleRc : RCode :=
  .seq (.region false [⟨some 2, .mv, [.k (.d (.int .u64 0))], none, []⟩] [0]) (.seq (.region false [⟨some 3, .mv, [.k (.d (.int .u64 0))], none, []⟩] [0, 3]) (.seq (.seq (.region
  false [⟨some 6, .mv, [.t 0], none, []⟩, ⟨some 7, .len, [.t 6], none, []⟩, ⟨some 8, .mv, [.k (.d (.int .i64 0))], none, []⟩] [3, 6, 7, 8]) (.block 0 (.loop [] (.seq (.region false
  [⟨some 9, .bin .lss, [.t 8, .t 7], none, []⟩] [3, 6, 7, 8, 9]) (.seq (.cond (.t 9) .skip (.exit 0)) (.seq (.block 1 (.seq (.region false [⟨some 10, .mv, [.t 8], none, []⟩, ⟨some
  11, .ia 1, [.t 6, .t 8], none, []⟩, ⟨some 12, .load 1 false, [.t 11], none, []⟩, ⟨some 4, .mv, [.t 10], none, []⟩, ⟨some 5, .mv, [.t 12], none, []⟩] [3, 4, 5, 6, 7, 8]) (.region
  false [⟨some 13, .mv, [.t 3], none, []⟩, ⟨some 14, .mv, [.t 5], none, []⟩, ⟨some 15, .cvt .u64, [.t 14], none, []⟩, ⟨some 16, .mv, [.t 4], none, []⟩, ⟨some 17, .bin .mul, [.k (.d
  (.int .i64 8)), .t 16], none, []⟩, ⟨some 18, .bin .shl, [.t 15, .t 17], none, []⟩, ⟨some 19, .bin .or, [.t 13, .t 18], none, []⟩, ⟨some 3, .mv, [.t 19], none, []⟩] [3, 6, 7,
  8]))) (.region false [⟨some 20, .bin .add, [.t 8, .k (.d (.int .i64 1))], none, []⟩, ⟨some 8, .mv, [.t 20], none, []⟩] [3, 6, 7, 8]))))))) (.seq (.region false [⟨some 21, .mv,
  [.t 3], none, []⟩, ⟨some 2, .mv, [.t 21], none, []⟩] [2]) .ret)))
def digestlittleRr : List RR := [.t 2]
theorem digestlittleC : compFn Try.prog 31 digestlittleH = some (digestlittleRc, digestlittleRr, 22) := by kernel_rfl
theorem digestlittleOK (a0 : List (BitVec 8)) (res : BitVec 64) (h : digestlittle a0 = some res) : CallOK Try.prog 31 [.d ((eL 1 eU8) a0)] [] (.d (eU64 res)) [] := by
  unfold digestlittle at h
  refine callOK digestlittleC fm rfl ?_
  simp only [initE, initM, nbor, List.map_cons, List.map_nil, Nat.reduceAdd]
  unfold digestlittleRc
  refine rwp_seq fun K1 hK1 => ?_
  refine rwp_region fun K2 hK2 => ?_
  refine st0 128 rfl (ok (mv (.d (eU64 (0#64))))) ?_
  refine hK2 _ _ ?_
  simp only [thenK, blockK, keepE, updM, List.filter_cons, List.filter_nil, List.nil_append, List.cons_append, List.map_cons, List.map_nil, envE, Mem.get, Nat.reduceEqDiff, reduceIte, Option.isNone_none, Option.isNone_some, Bool.false_eq_true, List.length_cons, List.length_nil, Nat.reduceAdd, Nat.reduceMul]
  refine hK1 _ _ _ ?_
  refine rwp_seq fun K3 hK3 => ?_
  refine rwp_region fun K4 hK4 => ?_
  refine st0 192 rfl (ok (mv (.d (eU64 (0#64))))) ?_
  refine hK4 _ _ ?_
  simp only [thenK, blockK, keepE, updM, List.filter_cons, List.filter_nil, List.nil_append, List.cons_append, List.map_cons, List.map_nil, envE, Mem.get, Nat.reduceEqDiff, reduceIte, Option.isNone_none, Option.isNone_some, Bool.false_eq_true, List.length_cons, List.length_nil, Nat.reduceAdd, Nat.reduceMul]
  refine hK3 _ _ _ ?_
  refine rwp_join ([], []) 1664 (fun env mem => ∃ (v5 : BitVec 64), digestlittleJ1 v5 = some res ∧ env = [(3, .d (eU64 v5))] ∧ mem = []) (fun _ _ hI => ?_) (fun K6 hK6 => ?_)
  · obtain ⟨v5, h, rfl, rfl⟩ := hI
    unfold digestlittleJ1 at h
    refine rwp_seq fun K7 hK7 => ?_
    refine rwp_region fun K8 hK8 => ?_
    refine st0 1728 rfl (ok (mv (.d (eU64 v5)))) ?_
    refine st0 1792 rfl (ok (mv (.d (eU64 v5)))) ?_
    refine hK8 _ _ ?_
    simp only [thenK, blockK, keepE, updM, List.filter_cons, List.filter_nil, List.nil_append, List.cons_append, List.map_cons, List.map_nil, envE, Mem.get, Nat.reduceEqDiff, reduceIte, Option.isNone_none, Option.isNone_some, Bool.false_eq_true, List.length_cons, List.length_nil, Nat.reduceAdd, Nat.reduceMul]
    refine hK7 _ _ _ ?_
    refine rwp_ret ?_
    obtain rfl := Option.some.inj h
    try simp only [thenK, blockK, reduceIte]
    exact end_ok trivial (rs_t (v := .d (eU64 v5)) rfl rs_nil) (en_d (to_d _) en_nil) ou_nil (by first | exact eok rfl rfl rfl rfl trivial | (refine eok ?_ ?_ ?_ ?_ ?_ <;> first | rfl | exact trivial | simp [retM, Mem.get, PV.renL, PV.ren, Blk.ren, comps, rhoR, rhoM, appN, PV.refsL, PV.refs, keys, nodupB, Blk.refs, allIn, Blk.bor]))
  · refine rwp_seq fun K9 hK9 => ?_
    refine rwp_region fun K10 hK10 => ?_
    refine st0 256 rfl (ok (mv (.d ((eL 1 eU8) a0)))) ?_
    refine st0 320 rfl (ok (lenL _ _)) ?_
    refine st0 384 rfl (ok (mv (.d (eI (0 : Int))))) ?_
    refine hK10 _ _ ?_
    simp only [thenK, blockK, keepE, updM, List.filter_cons, List.filter_nil, List.nil_append, List.cons_append, List.map_cons, List.map_nil, envE, Mem.get, Nat.reduceEqDiff, reduceIte, Option.isNone_none, Option.isNone_some, Bool.false_eq_true, List.length_cons, List.length_nil, Nat.reduceAdd, Nat.reduceMul]
    refine hK9 _ _ _ ?_
    refine rwp_block fun K11 hK11 => ?_
    refine rwp_loop ([], []) 1536 (fun k env mem => ∃ (v12 : BitVec 64) (v13 : Int), digestlittleL2 a0 k v12 v13 = some res ∧ env = [(3, .d (eU64 v12)), (6, .d ((eL 1 eU8) a0)), (7, .d (eI (a0.length : Int))), (8, .d (eI v13))] ∧ mem = []) FUEL ⟨_, _, Settled.refl, _, _, ⟨_, _, h, rfl, rfl⟩, ⟨rfl, ⟨⟨rfl, rfl⟩, ⟨⟨rfl, rfl⟩, ⟨⟨rfl, rfl⟩, ⟨⟨rfl, rfl⟩, trivial⟩⟩⟩⟩, trivial⟩, rfl⟩ (fun k2 env1 mem1 hI K14 hK14 => ?_)
    obtain ⟨v12, v13, h, rfl, rfl⟩ := hI
    cases k2 with
    | zero => simp [digestlittleL2] at h
    | succ k2 =>
      rw [digestlittleL2] at h
      refine rwp_seq fun K15 hK15 => ?_
      refine rwp_region fun K16 hK16 => ?_
      refine st0 1600 rfl (ok (lssI _ _)) ?_
      refine hK16 _ _ ?_
      simp only [thenK, blockK, keepE, updM, List.filter_cons, List.filter_nil, List.nil_append, List.cons_append, List.map_cons, List.map_nil, envE, Mem.get, Nat.reduceEqDiff, reduceIte, Option.isNone_none, Option.isNone_some, Bool.false_eq_true, List.length_cons, List.length_nil, Nat.reduceAdd, Nat.reduceMul]
      refine hK15 _ _ _ ?_
      refine rwp_seq fun K17 hK17 => ?_
      rcases Bool.eq_false_or_eq_true ((decide (v13 < (a0.length : Int)))) with h18 | h18
      · replace h := ite_t h h18
        refine rwp_t (isT h18) ?_
        refine rwp_skip ?_
        refine hK17 _ _ _ ?_
        refine rwp_seq fun K19 hK19 => ?_
        refine rwp_block fun K20 hK20 => ?_
        refine rwp_seq fun K21 hK21 => ?_
        refine rwp_region fun K22 hK22 => ?_
        refine st0 1664 rfl (ok (mv (.d (eI v13)))) ?_
        obtain ⟨h23, h⟩ := asq_inv h
        refine st0 1728 rfl (ok (iaL (e := eU8) (xs := a0) 0#8 h23)) ?_
        refine st0 1792 rfl (ok (ld_i (v := eU8 (a0.getD v13.toNat 0#8)) rfl rfl)) ?_
        refine st0 1856 rfl (ok (mv (.d (eI v13)))) ?_
        refine st0 1920 rfl (ok (mv (.d (eU8 (a0.getD v13.toNat 0#8))))) ?_
        refine hK22 _ _ ?_
        simp only [thenK, blockK, keepE, updM, List.filter_cons, List.filter_nil, List.nil_append, List.cons_append, List.map_cons, List.map_nil, envE, Mem.get, Nat.reduceEqDiff, reduceIte, Option.isNone_none, Option.isNone_some, Bool.false_eq_true, List.length_cons, List.length_nil, Nat.reduceAdd, Nat.reduceMul]
        refine hK21 _ _ _ ?_
        refine rwp_region fun K24 hK24 => ?_
        refine st0 1984 rfl (ok (mv (.d (eU64 v12)))) ?_
        refine st0 2048 rfl (ok (mv (.d (eU8 (a0.getD v13.toNat 0#8))))) ?_
        refine st0 2112 rfl (ok (cvt8_64 _)) ?_
        refine st0 2176 rfl (ok (mv (.d (eI v13)))) ?_
        refine st0 2240 rfl (ok (mulI (8 : Int) _)) ?_
        obtain ⟨h25, h⟩ := asq_inv h
        obtain ⟨v26, h27, h⟩ := lett_inv h
        refine st0e 2304 rfl (ok (shlI64 _ h25)) (congrArg (fun z => PV.d (eU64 z)) h27) ?_
        refine st0 2368 rfl (ok (or64 _ _)) ?_
        refine st0 2432 rfl (ok (mv (.d (eU64 (v12 ||| v26))))) ?_
        refine hK24 _ _ ?_
        simp only [thenK, blockK, keepE, updM, List.filter_cons, List.filter_nil, List.nil_append, List.cons_append, List.map_cons, List.map_nil, envE, Mem.get, Nat.reduceEqDiff, reduceIte, Option.isNone_none, Option.isNone_some, Bool.false_eq_true, List.length_cons, List.length_nil, Nat.reduceAdd, Nat.reduceMul]
        refine hK20 _ _ _ ?_
        refine hK19 _ _ _ ?_
        refine rwp_region fun K28 hK28 => ?_
        refine st0 2496 rfl (ok (addI _ (1 : Int))) ?_
        refine st0 2560 rfl (ok (mv (.d (eI (w64 (v13 + (1 : Int))))))) ?_
        refine hK28 _ _ ?_
        simp only [thenK, blockK, keepE, updM, List.filter_cons, List.filter_nil, List.nil_append, List.cons_append, List.map_cons, List.map_nil, envE, Mem.get, Nat.reduceEqDiff, reduceIte, Option.isNone_none, Option.isNone_some, Bool.false_eq_true, List.length_cons, List.length_nil, Nat.reduceAdd, Nat.reduceMul]
        exact hK14.out _ _ _ k2 (Nat.lt_succ_self k2) ⟨_, _, Settled.refl, _, _, ⟨_, _, h, rfl, rfl⟩, ⟨rfl, ⟨⟨rfl, rfl⟩, ⟨⟨rfl, rfl⟩, ⟨⟨rfl, rfl⟩, ⟨⟨rfl, rfl⟩, trivial⟩⟩⟩⟩, trivial⟩, rfl⟩
      · replace h := ite_f h h18
        refine rwp_f (isF h18) ?_
        refine rwp_exit ?_
        refine hK11 _ _ _ ?_
        exact hK6 _ _ _ ⟨_, _, Settled.refl, _, _, ⟨_, h, rfl, rfl⟩, ⟨rfl, ⟨⟨rfl, rfl⟩, trivial⟩, trivial⟩, rfl⟩

/-- math/bits.RotateLeft64 -/
def bitsRotateLeft64H : Hints := ⟨[(0, [0, 1]), (1, [0, 5]), (2, [4])], []⟩
def bitsRotateLeft64Rc : RCode :=
  .seq (.region false [⟨some 4, .mv, [.k (.d (.int .u64 0))], none, []⟩] [0, 1]) (.seq (.region false [⟨some 6, .mv, [.t 1], none, []⟩, ⟨some 7, .cvt .u64, [.t 6], none, []⟩, ⟨some
  8, .bin .and, [.t 7, .k (.d (.int .u64 63))], none, []⟩, ⟨some 5, .mv, [.t 8], none, []⟩] [0, 5]) (.seq (.region false [⟨some 9, .mv, [.t 0], none, []⟩, ⟨some 10, .mv, [.t 5],
  none, []⟩, ⟨some 11, .bin .shl, [.t 9, .t 10], none, []⟩, ⟨some 12, .mv, [.t 0], none, []⟩, ⟨some 13, .mv, [.t 5], none, []⟩, ⟨some 14, .bin .sub, [.k (.d (.int .u64 64)), .t
  13], none, []⟩, ⟨some 15, .bin .shr, [.t 12, .t 14], none, []⟩, ⟨some 16, .bin .or, [.t 11, .t 15], none, []⟩, ⟨some 4, .mv, [.t 16], none, []⟩] [4]) .ret))
def bitsRotateLeft64Rr : List RR := [.t 4]
theorem bitsRotateLeft64C : compFn Try.prog 35 bitsRotateLeft64H = some (bitsRotateLeft64Rc, bitsRotateLeft64Rr, 17) := by kernel_rfl
theorem bitsRotateLeft64OK (a0 : BitVec 64) (a1 : Int) (res : BitVec 64) (h : bitsRotateLeft64 a0 a1 = some res) : CallOK Try.prog 35 [.d (eU64 a0), .d (eI a1)] [] (.d (eU64 res)) [] := by
  unfold bitsRotateLeft64 at h
  refine callOK bitsRotateLeft64C fm rfl ?_
  simp only [initE, initM, nbor, List.map_cons, List.map_nil, Nat.reduceAdd]
  unfold bitsRotateLeft64Rc
  refine rwp_seq fun K1 hK1 => ?_
  refine rwp_region fun K2 hK2 => ?_
  refine st0 128 rfl (ok (mv (.d (eU64 (0#64))))) ?_
  refine hK2 _ _ ?_
  simp only [thenK, blockK, keepE, updM, List.filter_cons, List.filter_nil, List.nil_append, List.cons_append, List.map_cons, List.map_nil, envE, Mem.get, Nat.reduceEqDiff, reduceIte, Option.isNone_none, Option.isNone_some, Bool.false_eq_true, List.length_cons, List.length_nil, Nat.reduceAdd, Nat.reduceMul]
  refine hK1 _ _ _ ?_
  refine rwp_seq fun K3 hK3 => ?_
  refine rwp_region fun K4 hK4 => ?_
  refine st0 192 rfl (ok (mv (.d (eI a1)))) ?_
  refine st0 256 rfl (ok (ofI64 _ a1)) ?_
  refine st0 320 rfl (ok (and64 _ (63#64))) ?_
  refine st0 384 rfl (ok (mv (.d (eU64 ((BitVec.ofInt 64 a1) &&& (63#64)))))) ?_
  refine hK4 _ _ ?_
  simp only [thenK, blockK, keepE, updM, List.filter_cons, List.filter_nil, List.nil_append, List.cons_append, List.map_cons, List.map_nil, envE, Mem.get, Nat.reduceEqDiff, reduceIte, Option.isNone_none, Option.isNone_some, Bool.false_eq_true, List.length_cons, List.length_nil, Nat.reduceAdd, Nat.reduceMul]
  refine hK3 _ _ _ ?_
  refine rwp_seq fun K5 hK5 => ?_
  refine rwp_region fun K6 hK6 => ?_
  refine st0 448 rfl (ok (mv (.d (eU64 a0)))) ?_
  refine st0 512 rfl (ok (mv (.d (eU64 ((BitVec.ofInt 64 a1) &&& (63#64)))))) ?_
  refine st0 576 rfl (ok (shl64_64 _ _)) ?_
  refine st0 640 rfl (ok (mv (.d (eU64 a0)))) ?_
  refine st0 704 rfl (ok (mv (.d (eU64 ((BitVec.ofInt 64 a1) &&& (63#64)))))) ?_
  refine st0 768 rfl (ok (sub64 (64#64) _)) ?_
  obtain ⟨v7, h8, h⟩ := lett_inv h
  refine st0e 832 rfl (ok (shr64_64 _ _)) (congrArg (fun z => PV.d (eU64 z)) h8) ?_
  refine st0 896 rfl (ok (or64 _ _)) ?_
  refine st0 960 rfl (ok (mv (.d (eU64 ((a0 <<< ((BitVec.ofInt 64 a1) &&& (63#64)).toNat) ||| v7))))) ?_
  refine hK6 _ _ ?_
  simp only [thenK, blockK, keepE, updM, List.filter_cons, List.filter_nil, List.nil_append, List.cons_append, List.map_cons, List.map_nil, envE, Mem.get, Nat.reduceEqDiff, reduceIte, Option.isNone_none, Option.isNone_some, Bool.false_eq_true, List.length_cons, List.length_nil, Nat.reduceAdd, Nat.reduceMul]
  refine hK5 _ _ _ ?_
  refine rwp_ret ?_
  obtain rfl := Option.some.inj h
  try simp only [thenK, blockK, reduceIte]
  exact end_ok trivial (rs_t (v := .d (eU64 ((a0 <<< ((BitVec.ofInt 64 a1) &&& (63#64)).toNat) ||| v7))) rfl rs_nil) (en_d (to_d _) en_nil) ou_nil (by first | exact eok rfl rfl rfl rfl trivial | (refine eok ?_ ?_ ?_ ?_ ?_ <;> first | rfl | exact trivial | simp [retM, Mem.get, PV.renL, PV.ren, Blk.ren, comps, rhoR, rhoM, appN, PV.refsL, PV.refs, keys, nodupB, Blk.refs, allIn, Blk.bor]))

end Go.Proofs.Ty
