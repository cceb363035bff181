/- Each Go function comes to what its plain function says. PRINTED by a program of this session (ty.py). -/
import Derived.Test.YtkiffaadahpbkaaS6
set_option linter.unusedVariables false
set_option linter.unusedSimpArgs false
set_option maxHeartbeats 4000000
set_option maxRecDepth 10000
namespace Go.Proofs.Ty
open Go Go.RW Go.Proofs
/-- passkey/passkeyref37.SameShares -/
def passkeyref37SameSharesH : Hints := ⟨[(0, [0, 1]), (1, [0, 1, 10]), (2, [4]), (3, [0, 1, 5]), (4, [0, 1, 5, 14]), (6, [0, 1, 5, 42]), (7, [4]), (5, [0, 1, 5]), (8, [4])], []⟩
def passkeyref37SameSharesRc : RCode :=
  .seq (.region false [⟨some 4, .mv, [.k (.d (.bool false))], none, []⟩] [0, 1]) (.seq (.seq (.region false [⟨some 6, .mv, [.t 0], none, []⟩, ⟨some 7, .len, [.t 6], none, []⟩, ⟨some
  8, .mv, [.t 1], none, []⟩, ⟨some 9, .len, [.t 8], none, []⟩, ⟨some 10, .bin .neq, [.t 7, .t 9], none, []⟩] [0, 1, 10]) (.cond (.t 10) (.seq (.region false [⟨some 4, .mv, [.k (.d
  (.bool false))], none, []⟩] [4]) .ret) .skip)) (.seq (.seq (.region false [⟨some 5, .mv, [.k (.d (.int .i64 0))], none, []⟩] [0, 1, 5]) (.block 0 (.loop [] (.seq (.seq (.region
  false [⟨some 11, .mv, [.t 5], none, []⟩, ⟨some 12, .mv, [.t 0], none, []⟩, ⟨some 13, .len, [.t 12], none, []⟩, ⟨some 14, .bin .lss, [.t 11, .t 13], none, []⟩] [0, 1, 5, 14])
  (.cond (.t 14) .skip (.exit 0))) (.seq (.block 1 (.seq (.region true [⟨some 17, .mv, [.t 0], none, []⟩, ⟨some 18, .mv, [.t 5], none, []⟩, ⟨some 19, .ia 2, [.t 17, .t 18], none,
  [0, 1]⟩, ⟨some 20, .fa 0, [.t 19], none, [0, 1, 2]⟩, ⟨some 21, .load 1 false, [.t 20], none, [0, 1, 2, 3]⟩, ⟨some 22, .mv, [.t 1], none, []⟩, ⟨some 23, .mv, [.t 5], none, []⟩,
  ⟨some 24, .ia 2, [.t 22, .t 23], none, [5, 6]⟩, ⟨some 25, .fa 0, [.t 24], none, [5, 6, 7]⟩, ⟨some 26, .load 1 false, [.t 25], none, [5, 6, 7, 8]⟩, ⟨some 27, .bin .neq, [.t 21, .t
  26], none, [0, 1, 2, 3, 4, 5, 6, 7, 8, 9]⟩, ⟨some 28, .mv, [.t 27], none, [0, 1, 2, 3, 4, 5, 6, 7, 8, 9, 10]⟩, ⟨some 29, .mv, [.t 0], some (28, false), [0, 1, 2, 3, 4, 5, 6, 7,
  8, 9, 10, 11]⟩, ⟨some 30, .mv, [.t 5], some (28, false), [0, 1, 2, 3, 4, 5, 6, 7, 8, 9, 10, 11]⟩, ⟨some 31, .ia 2, [.t 29, .t 30], some (28, false), [0, 1, 2, 3, 4, 5, 6, 7, 8,
  9, 10, 11, 12, 13]⟩, ⟨some 32, .fa 1, [.t 31], some (28, false), [0, 1, 2, 3, 4, 5, 6, 7, 8, 9, 10, 11, 12, 13, 14]⟩, ⟨some 33, .load 1 false, [.t 32], some (28, false), [0, 1,
  2, 3, 4, 5, 6, 7, 8, 9, 10, 11, 12, 13, 14, 15]⟩, ⟨some 34, .b2s, [.t 33], some (28, false), [0, 1, 2, 3, 4, 5, 6, 7, 8, 9, 10, 11, 12, 13, 14, 15, 16]⟩, ⟨some 35, .mv, [.t 1],
  some (28, false), [0, 1, 2, 3, 4, 5, 6, 7, 8, 9, 10, 11]⟩, ⟨some 36, .mv, [.t 5], some (28, false), [0, 1, 2, 3, 4, 5, 6, 7, 8, 9, 10, 11]⟩, ⟨some 37, .ia 2, [.t 35, .t 36], some
  (28, false), [0, 1, 2, 3, 4, 5, 6, 7, 8, 9, 10, 11, 18, 19]⟩, ⟨some 38, .fa 1, [.t 37], some (28, false), [0, 1, 2, 3, 4, 5, 6, 7, 8, 9, 10, 11, 18, 19, 20]⟩, ⟨some 39, .load 1
  false, [.t 38], some (28, false), [0, 1, 2, 3, 4, 5, 6, 7, 8, 9, 10, 11, 18, 19, 20, 21]⟩, ⟨some 40, .b2s, [.t 39], some (28, false), [0, 1, 2, 3, 4, 5, 6, 7, 8, 9, 10, 11, 18,
  19, 20, 21, 22]⟩, ⟨some 41, .bin .neq, [.t 34, .t 40], some (28, false), [0, 1, 2, 3, 4, 5, 6, 7, 8, 9, 10, 11, 12, 13, 14, 15, 16, 17, 18, 19, 20, 21, 22, 23]⟩, ⟨some 42, .pick,
  [.t 28, .k (.d (.bool true)), .t 41], none, [0, 1, 2, 3, 4, 5, 6, 7, 8, 9, 10, 11, 12, 13, 14, 15, 16, 17, 18, 19, 20, 21, 22, 23, 24]⟩] [0, 1, 5, 42]) (.cond (.t 42) (.seq
  (.region false [⟨some 4, .mv, [.k (.d (.bool false))], none, []⟩] [4]) .ret) .skip))) (.region false [⟨some 15, .mv, [.t 5], none, []⟩, ⟨some 16, .bin .add, [.t 15, .k (.d (.int
  .i64 1))], none, []⟩, ⟨some 5, .mv, [.t 16], none, []⟩] [0, 1, 5])))))) (.seq (.region false [⟨some 4, .mv, [.k (.d (.bool true))], none, []⟩] [4]) .ret)))
def passkeyref37SameSharesRr : List RR := [.t 4]
theorem passkeyref37SameSharesC : compFn Try.prog 18 passkeyref37SameSharesH = some (passkeyref37SameSharesRc, passkeyref37SameSharesRr, 43) := by kernel_rfl
theorem passkeyref37SameSharesOK (a0 : List (TApiShare)) (a1 : List (TApiShare)) (res : Bool) (h : passkeyref37SameShares a0 a1 = some res) : CallOK Try.prog 18 [.d ((eL 2 eTApiShare) a0), .d ((eL 2 eTApiShare) a1)] [] (.d (eB res)) [] := by
  unfold passkeyref37SameShares at h
  refine callOK passkeyref37SameSharesC fm rfl ?_
  simp only [initE, initM, nbor, List.map_cons, List.map_nil, Nat.reduceAdd]
  unfold passkeyref37SameSharesRc
  refine rwp_seq fun K1 hK1 => ?_
  refine rwp_region fun K2 hK2 => ?_
  refine st0 128 rfl (ok (mv (.d (eB false)))) ?_
  refine hK2 _ _ ?_
  simp only [thenK, blockK, keepE, updM, List.filter_cons, List.filter_nil, List.nil_append, List.cons_append, List.map_cons, List.map_nil, envE, Mem.get, Nat.reduceEqDiff, reduceIte, Option.isNone_none, Option.isNone_some, Bool.false_eq_true, List.length_cons, List.length_nil, Nat.reduceAdd, Nat.reduceMul]
  refine hK1 _ _ _ ?_
  refine rwp_seq fun K3 hK3 => ?_
  refine rwp_seq fun K4 hK4 => ?_
  refine rwp_region fun K5 hK5 => ?_
  refine st0 192 rfl (ok (mv (.d ((eL 2 eTApiShare) a0)))) ?_
  refine st0 256 rfl (ok (lenL _ _)) ?_
  refine st0 320 rfl (ok (mv (.d ((eL 2 eTApiShare) a1)))) ?_
  refine st0 384 rfl (ok (lenL _ _)) ?_
  refine st0 448 rfl (ok (neqI _ _)) ?_
  refine hK5 _ _ ?_
  simp only [thenK, blockK, keepE, updM, List.filter_cons, List.filter_nil, List.nil_append, List.cons_append, List.map_cons, List.map_nil, envE, Mem.get, Nat.reduceEqDiff, reduceIte, Option.isNone_none, Option.isNone_some, Bool.false_eq_true, List.length_cons, List.length_nil, Nat.reduceAdd, Nat.reduceMul]
  refine hK4 _ _ _ ?_
  rcases Bool.eq_false_or_eq_true (((a0.length : Int) != (a1.length : Int))) with h6 | h6
  · replace h := ite_t h h6
    refine rwp_t (isT h6) ?_
    refine rwp_seq fun K7 hK7 => ?_
    refine rwp_region fun K8 hK8 => ?_
    refine st0 512 rfl (ok (mv (.d (eB false)))) ?_
    refine hK8 _ _ ?_
    simp only [thenK, blockK, keepE, updM, List.filter_cons, List.filter_nil, List.nil_append, List.cons_append, List.map_cons, List.map_nil, envE, Mem.get, Nat.reduceEqDiff, reduceIte, Option.isNone_none, Option.isNone_some, Bool.false_eq_true, List.length_cons, List.length_nil, Nat.reduceAdd, Nat.reduceMul]
    refine hK7 _ _ _ ?_
    refine rwp_ret ?_
    obtain rfl := Option.some.inj h
    try simp only [thenK, blockK, reduceIte]
    exact Or.inl (end_ok trivial (rs_t (v := .d (eB false)) rfl rs_nil) (en_d (to_d _) en_nil) ou_nil (by first | exact eok rfl rfl rfl rfl trivial | (refine eok ?_ ?_ ?_ ?_ ?_ <;> first | rfl | exact trivial | simp [retM, Mem.get, PV.renL, PV.ren, Blk.ren, comps, rhoR, rhoM, appN, PV.refsL, PV.refs, keys, nodupB, Blk.refs, allIn, Blk.bor])))
  · replace h := ite_f h h6
    refine rwp_f (isF h6) ?_
    refine rwp_skip ?_
    refine hK3 _ _ _ ?_
    refine rwp_join ([], []) 3136 (fun env mem => passkeyref37SameSharesJ1 = some res ∧ env = [] ∧ mem = []) (fun _ _ hI => ?_) (fun K9 hK9 => ?_)
    · obtain ⟨h, rfl, rfl⟩ := hI
      unfold passkeyref37SameSharesJ1 at h
      refine rwp_seq fun K10 hK10 => ?_
      refine rwp_region fun K11 hK11 => ?_
      refine st0 3200 rfl (ok (mv (.d (eB true)))) ?_
      refine hK11 _ _ ?_
      simp only [thenK, blockK, keepE, updM, List.filter_cons, List.filter_nil, List.nil_append, List.cons_append, List.map_cons, List.map_nil, envE, Mem.get, Nat.reduceEqDiff, reduceIte, Option.isNone_none, Option.isNone_some, Bool.false_eq_true, List.length_cons, List.length_nil, Nat.reduceAdd, Nat.reduceMul]
      refine hK10 _ _ _ ?_
      refine rwp_ret ?_
      obtain rfl := Option.some.inj h
      try simp only [thenK, blockK, reduceIte]
      exact Or.inl (end_ok trivial (rs_t (v := .d (eB true)) rfl rs_nil) (en_d (to_d _) en_nil) ou_nil (by first | exact eok rfl rfl rfl rfl trivial | (refine eok ?_ ?_ ?_ ?_ ?_ <;> first | rfl | exact trivial | simp [retM, Mem.get, PV.renL, PV.ren, Blk.ren, comps, rhoR, rhoM, appN, PV.refsL, PV.refs, keys, nodupB, Blk.refs, allIn, Blk.bor])))
    · refine rwp_seq fun K12 hK12 => ?_
      refine rwp_region fun K13 hK13 => ?_
      refine st0 512 rfl (ok (mv (.d (eI (0 : Int))))) ?_
      refine hK13 _ _ ?_
      simp only [thenK, blockK, keepE, updM, List.filter_cons, List.filter_nil, List.nil_append, List.cons_append, List.map_cons, List.map_nil, envE, Mem.get, Nat.reduceEqDiff, reduceIte, Option.isNone_none, Option.isNone_some, Bool.false_eq_true, List.length_cons, List.length_nil, Nat.reduceAdd, Nat.reduceMul]
      refine hK12 _ _ _ ?_
      refine rwp_block fun K14 hK14 => ?_
      refine rwp_loop ([], []) 2816 (fun k env mem => ∃ (v15 : Int), passkeyref37SameSharesL2 a0 a1 k v15 = some res ∧ env = [(0, .d ((eL 2 eTApiShare) a0)), (1, .d ((eL 2 eTApiShare) a1)), (5, .d (eI v15))] ∧ mem = []) FUEL ⟨_, _, Settled.refl, _, _, ⟨_, h, rfl, rfl⟩, ⟨rfl, ⟨⟨rfl, rfl⟩, ⟨⟨rfl, rfl⟩, ⟨⟨rfl, rfl⟩, trivial⟩⟩⟩, trivial⟩, rfl⟩ (fun k2 env1 mem1 hI K16 hK16 => ?_)
      obtain ⟨v15, h, rfl, rfl⟩ := hI
      cases k2 with
      | zero => simp [passkeyref37SameSharesL2] at h
      | succ k2 =>
        rw [passkeyref37SameSharesL2] at h
        refine rwp_seq fun K17 hK17 => ?_
        refine rwp_seq fun K18 hK18 => ?_
        refine rwp_region fun K19 hK19 => ?_
        refine st0 2880 rfl (ok (mv (.d (eI v15)))) ?_
        refine st0 2944 rfl (ok (mv (.d ((eL 2 eTApiShare) a0)))) ?_
        refine st0 3008 rfl (ok (lenL _ _)) ?_
        refine st0 3072 rfl (ok (lssI _ _)) ?_
        refine hK19 _ _ ?_
        simp only [thenK, blockK, keepE, updM, List.filter_cons, List.filter_nil, List.nil_append, List.cons_append, List.map_cons, List.map_nil, envE, Mem.get, Nat.reduceEqDiff, reduceIte, Option.isNone_none, Option.isNone_some, Bool.false_eq_true, List.length_cons, List.length_nil, Nat.reduceAdd, Nat.reduceMul]
        refine hK18 _ _ _ ?_
        rcases Bool.eq_false_or_eq_true ((decide (v15 < (a0.length : Int)))) with h20 | h20
        · replace h := ite_t h h20
          refine rwp_t (isT h20) ?_
          refine rwp_skip ?_
          refine hK17 _ _ _ ?_
          refine rwp_seq fun K21 hK21 => ?_
          refine rwp_block fun K22 hK22 => ?_
          refine rwp_join ([], []) 4800 (fun env mem => ∃ (v23 : Bool), passkeyref37SameSharesJ3 (passkeyref37SameSharesL2 a0 a1 k2) v15 v23 = some res ∧ env = [(0, .d ((eL 2 eTApiShare) a0)), (1, .d ((eL 2 eTApiShare) a1)), (5, .d (eI v15)), (42, .d (eB v23))] ∧ mem = []) (fun _ _ hI => ?_) (fun K24 hK24 => ?_)
          · obtain ⟨v23, h, rfl, rfl⟩ := hI
            unfold passkeyref37SameSharesJ3 at h
            rcases Bool.eq_false_or_eq_true (v23) with h25 | h25
            · replace h := ite_t h h25
              refine rwp_t (isT h25) ?_
              refine rwp_seq fun K26 hK26 => ?_
              refine rwp_region fun K27 hK27 => ?_
              refine st0 4864 rfl (ok (mv (.d (eB false)))) ?_
              refine hK27 _ _ ?_
              simp only [thenK, blockK, keepE, updM, List.filter_cons, List.filter_nil, List.nil_append, List.cons_append, List.map_cons, List.map_nil, envE, Mem.get, Nat.reduceEqDiff, reduceIte, Option.isNone_none, Option.isNone_some, Bool.false_eq_true, List.length_cons, List.length_nil, Nat.reduceAdd, Nat.reduceMul]
              refine hK26 _ _ _ ?_
              refine rwp_ret ?_
              obtain rfl := Option.some.inj h
              try simp only [thenK, blockK, reduceIte]
              exact Or.inl (end_ok trivial (rs_t (v := .d (eB false)) rfl rs_nil) (en_d (to_d _) en_nil) ou_nil (by first | exact eok rfl rfl rfl rfl trivial | (refine eok ?_ ?_ ?_ ?_ ?_ <;> first | rfl | exact trivial | simp [retM, Mem.get, PV.renL, PV.ren, Blk.ren, comps, rhoR, rhoM, appN, PV.refsL, PV.refs, keys, nodupB, Blk.refs, allIn, Blk.bor])))
            · replace h := ite_f h h25
              refine rwp_f (isF h25) ?_
              refine rwp_skip ?_
              refine hK22 _ _ _ ?_
              refine hK21 _ _ _ ?_
              refine rwp_region fun K28 hK28 => ?_
              refine st0 4864 rfl (ok (mv (.d (eI v15)))) ?_
              refine st0 4928 rfl (ok (addI _ (1 : Int))) ?_
              refine st0 4992 rfl (ok (mv (.d (eI (w64 (v15 + (1 : Int))))))) ?_
              refine hK28 _ _ ?_
              simp only [thenK, blockK, keepE, updM, List.filter_cons, List.filter_nil, List.nil_append, List.cons_append, List.map_cons, List.map_nil, envE, Mem.get, Nat.reduceEqDiff, reduceIte, Option.isNone_none, Option.isNone_some, Bool.false_eq_true, List.length_cons, List.length_nil, Nat.reduceAdd, Nat.reduceMul]
              exact hK16.out _ _ _ k2 (Nat.lt_succ_self k2) ⟨_, _, Settled.refl, _, _, ⟨_, h, rfl, rfl⟩, ⟨rfl, ⟨⟨rfl, rfl⟩, ⟨⟨rfl, rfl⟩, ⟨⟨rfl, rfl⟩, trivial⟩⟩⟩, trivial⟩, rfl⟩
          · refine rwp_draw fun K29 hK29 => ?_
            refine dr0 3136 rfl (ok (mv (.d ((eL 2 eTApiShare) a0)))) (by kernel_rfl) ?_
            refine dr0 3200 rfl (ok (mv (.d (eI v15)))) (by kernel_rfl) ?_
            obtain ⟨h30, h⟩ := asq_inv h
            refine dr0 3264 rfl (ok (iaL (e := eTApiShare) (xs := a0) (TApiShare.mk (0 : Int) ([] : List (BitVec 8))) h30)) (by kernel_rfl) ?_
            refine dr0 3328 rfl (ok fa_iptr) (by kernel_rfl) ?_
            refine dr0 3392 rfl (ok (ld_i (v := eI ((a0.getD v15.toNat (TApiShare.mk (0 : Int) ([] : List (BitVec 8)))).X)) rfl rfl)) (by kernel_rfl) ?_
            refine dr0 3456 rfl (ok (mv (.d ((eL 2 eTApiShare) a1)))) (by kernel_rfl) ?_
            refine dr0 3520 rfl (ok (mv (.d (eI v15)))) (by kernel_rfl) ?_
            obtain ⟨h31, h⟩ := asq_inv h
            refine dr0 3584 rfl (ok (iaL (e := eTApiShare) (xs := a1) (TApiShare.mk (0 : Int) ([] : List (BitVec 8))) h31)) (by kernel_rfl) ?_
            refine dr0 3648 rfl (ok fa_iptr) (by kernel_rfl) ?_
            refine dr0 3712 rfl (ok (ld_i (v := eI ((a1.getD v15.toNat (TApiShare.mk (0 : Int) ([] : List (BitVec 8)))).X)) rfl rfl)) (by kernel_rfl) ?_
            refine dr0 3776 rfl (ok (neqI _ _)) (by kernel_rfl) ?_
            refine dr0 3840 rfl (ok (mv (.d (eB (((a0.getD v15.toNat (TApiShare.mk (0 : Int) ([] : List (BitVec 8)))).X) != ((a1.getD v15.toNat (TApiShare.mk (0 : Int) ([] : List (BitVec 8)))).X)))))) (by kernel_rfl) ?_
            rcases Bool.eq_false_or_eq_true ((((a0.getD v15.toNat (TApiShare.mk (0 : Int) ([] : List (BitVec 8)))).X) != ((a1.getD v15.toNat (TApiShare.mk (0 : Int) ([] : List (BitVec 8)))).X))) with h32 | h32
            · replace h := ite_t h h32
              refine drGN 3904 rfl rfl h32 ?_
              refine drGN 3968 rfl rfl h32 ?_
              refine drGN 4032 rfl rfl h32 ?_
              refine drGN 4096 rfl rfl h32 ?_
              refine drGN 4160 rfl rfl h32 ?_
              refine drGN 4224 rfl rfl h32 ?_
              refine drGN 4288 rfl rfl h32 ?_
              refine drGN 4352 rfl rfl h32 ?_
              refine drGN 4416 rfl rfl h32 ?_
              refine drGN 4480 rfl rfl h32 ?_
              refine drGN 4544 rfl rfl h32 ?_
              refine drGN 4608 rfl rfl h32 ?_
              refine drGN 4672 rfl rfl h32 ?_
              refine dr0 4736 rfl (ok (pick_t h32 (.d (eB true)) _)) (by kernel_rfl) ?_
              refine hK29 _ _ ?_
              simp only [thenK, blockK, keepE, updM, List.filter_cons, List.filter_nil, List.nil_append, List.cons_append, List.map_cons, List.map_nil, envE, Mem.get, Nat.reduceEqDiff, reduceIte, Option.isNone_none, Option.isNone_some, Bool.false_eq_true, List.length_cons, List.length_nil, Nat.reduceAdd, Nat.reduceMul]
              exact hK24 _ _ _ ⟨_, _, Settled.refl, _, _, ⟨_, h, rfl, rfl⟩, ⟨rfl, ⟨⟨rfl, rfl⟩, ⟨⟨rfl, rfl⟩, ⟨⟨rfl, rfl⟩, ⟨⟨rfl, rfl⟩, trivial⟩⟩⟩⟩, trivial⟩, rfl⟩
            · replace h := ite_f h h32
              refine drG (isF h32) ?_
              refine dr0 3904 rfl (ok (mv (.d ((eL 2 eTApiShare) a0)))) (by kernel_rfl) ?_
              refine drG (isF h32) ?_
              refine dr0 3968 rfl (ok (mv (.d (eI v15)))) (by kernel_rfl) ?_
              refine drG (isF h32) ?_
              obtain ⟨h33, h⟩ := asq_inv h
              refine dr0 4032 rfl (ok (iaL (e := eTApiShare) (xs := a0) (TApiShare.mk (0 : Int) ([] : List (BitVec 8))) h33)) (by kernel_rfl) ?_
              refine drG (isF h32) ?_
              refine dr0 4096 rfl (ok fa_iptr) (by kernel_rfl) ?_
              refine drG (isF h32) ?_
              refine dr0 4160 rfl (ok (ld_i (v := (eL 1 eU8) ((a0.getD v15.toNat (TApiShare.mk (0 : Int) ([] : List (BitVec 8)))).Data)) rfl rfl)) (by kernel_rfl) ?_
              refine drG (isF h32) ?_
              refine dr0 4224 rfl (ok (b2s contL)) (by kernel_rfl) ?_
              refine drG (isF h32) ?_
              refine dr0 4288 rfl (ok (mv (.d ((eL 2 eTApiShare) a1)))) (by kernel_rfl) ?_
              refine drG (isF h32) ?_
              refine dr0 4352 rfl (ok (mv (.d (eI v15)))) (by kernel_rfl) ?_
              refine drG (isF h32) ?_
              obtain ⟨h34, h⟩ := asq_inv h
              refine dr0 4416 rfl (ok (iaL (e := eTApiShare) (xs := a1) (TApiShare.mk (0 : Int) ([] : List (BitVec 8))) h34)) (by kernel_rfl) ?_
              refine drG (isF h32) ?_
              refine dr0 4480 rfl (ok fa_iptr) (by kernel_rfl) ?_
              refine drG (isF h32) ?_
              refine dr0 4544 rfl (ok (ld_i (v := (eL 1 eU8) ((a1.getD v15.toNat (TApiShare.mk (0 : Int) ([] : List (BitVec 8)))).Data)) rfl rfl)) (by kernel_rfl) ?_
              refine drG (isF h32) ?_
              refine dr0 4608 rfl (ok (b2s contL)) (by kernel_rfl) ?_
              refine drG (isF h32) ?_
              refine dr0 4672 rfl (ok (neqS ((a0.getD v15.toNat (TApiShare.mk (0 : Int) ([] : List (BitVec 8)))).Data) ((a1.getD v15.toNat (TApiShare.mk (0 : Int) ([] : List (BitVec 8)))).Data))) (by kernel_rfl) ?_
              refine dr0 4736 rfl (ok (pick_f h32 _ (.d (eB (!(((a0.getD v15.toNat (TApiShare.mk (0 : Int) ([] : List (BitVec 8)))).Data) == ((a1.getD v15.toNat (TApiShare.mk (0 : Int) ([] : List (BitVec 8)))).Data))))))) (by kernel_rfl) ?_
              refine hK29 _ _ ?_
              simp only [thenK, blockK, keepE, updM, List.filter_cons, List.filter_nil, List.nil_append, List.cons_append, List.map_cons, List.map_nil, envE, Mem.get, Nat.reduceEqDiff, reduceIte, Option.isNone_none, Option.isNone_some, Bool.false_eq_true, List.length_cons, List.length_nil, Nat.reduceAdd, Nat.reduceMul]
              exact hK24 _ _ _ ⟨_, _, Settled.refl, _, _, ⟨_, h, rfl, rfl⟩, ⟨rfl, ⟨⟨rfl, rfl⟩, ⟨⟨rfl, rfl⟩, ⟨⟨rfl, rfl⟩, ⟨⟨rfl, rfl⟩, trivial⟩⟩⟩⟩, trivial⟩, rfl⟩
        · replace h := ite_f h h20
          refine rwp_f (isF h20) ?_
          refine rwp_exit ?_
          refine hK14 _ _ _ ?_
          exact hK9 _ _ _ ⟨_, _, Settled.refl, _, _, ⟨h, rfl, rfl⟩, ⟨rfl, trivial, trivial⟩, rfl⟩

/-- passkey/passkeylaw37.SharingSplits -/
def passkeylaw37SharingSplitsH : Hints := ⟨[(0, [0, 1, 2, 3, 4]), (1, [0, 1, 2, 3, 4, 34]), (2, [10]), (3, [0, 1, 2, 3, 4, 11, 12]), (4, [0, 1, 2, 3, 4, 11, 12, 13]), (5, [0, 1, 2, 3, 11, 12, 13, 14]), (6, [0, 1, 2, 3, 11, 12, 13, 14, 15, 16]), (7, [0, 1, 11, 12, 13, 14, 15, 16, 17, 18]), (8, [0, 1, 11, 12, 13, 14, 15, 16, 17, 18, 19, 20]), (9, [0, 1, 11, 12, 15, 16, 17, 18, 19, 20, 21, 22]), (10, [0, 1, 11, 12, 15, 16, 17, 18, 19, 20, 21, 22, 23, 24]), (11, [15, 16, 17, 18, 19, 20, 21, 22, 23, 24, 25, 26]), (12, [10])], []⟩
def passkeylaw37SharingSplitsRc : RCode :=
  .seq (.region false [⟨some 10, .mv, [.k (.d (.bool false))], none, []⟩] [0, 1, 2, 3, 4]) (.seq (.seq (.region false [⟨some 27, .mv, [.t 0], none, []⟩, ⟨some 28, .len, [.t 27],
  none, []⟩, ⟨some 29, .bin .gtr, [.t 28, .k (.d (.int .i64 100))], none, []⟩, ⟨some 30, .mv, [.t 29], none, []⟩, ⟨some 31, .mv, [.t 1], some (30, false), []⟩, ⟨some 32, .len, [.t
  31], some (30, false), []⟩, ⟨some 33, .bin .gtr, [.t 32, .k (.d (.int .i64 2000))], some (30, false), []⟩, ⟨some 34, .pick, [.t 30, .k (.d (.bool true)), .t 33], none, []⟩] [0,
  1, 2, 3, 4, 34]) (.cond (.t 34) (.seq (.region false [⟨some 35, .call 13 false, [], none, []⟩, ⟨some 10, .mv, [.t 35], none, []⟩] [10]) .ret) .skip)) (.seq (.region false [⟨some
  36, .mv, [.t 2], none, []⟩, ⟨some 37, .call 14 false, [.t 36, .k (.d (.int .i64 7))], none, []⟩, ⟨some 38, .mv, [.t 3], none, []⟩, ⟨some 39, .call 14 false, [.t 38, .k (.d (.int
  .i64 9))], none, []⟩, ⟨some 11, .mv, [.t 37], none, []⟩, ⟨some 12, .mv, [.t 39], none, []⟩] [0, 1, 2, 3, 4, 11, 12]) (.seq (.region false [⟨some 40, .mv, [.t 4], none, []⟩, ⟨some
  41, .call 14 false, [.t 40, .k (.d (.int .i64 50))], none, []⟩, ⟨some 42, .call 15 true, [.t 41, .k (.d (.int .i64 8))], none, []⟩, ⟨some 13, .mv, [.t 42], none, []⟩] [0, 1, 2,
  3, 4, 11, 12, 13]) (.seq (.region false [⟨some 43, .mv, [.t 4], none, []⟩, ⟨some 44, .call 14 false, [.t 43, .k (.d (.int .i64 50))], none, []⟩, ⟨some 45, .bin .add, [.t 44, .k
  (.d (.int .i64 9))], none, []⟩, ⟨some 46, .mv, [.t 11], none, []⟩, ⟨some 47, .call 14 false, [.t 46, .k (.d (.int .i64 7))], none, []⟩, ⟨some 48, .bin .mul, [.k (.d (.int .i64
  8)), .t 47], none, []⟩, ⟨some 49, .call 15 true, [.t 45, .t 48], none, []⟩, ⟨some 14, .mv, [.t 49], none, []⟩] [0, 1, 2, 3, 11, 12, 13, 14]) (.seq (.region false [⟨some 51, .mv,
  [.t 0], none, []⟩, ⟨some 52, .mv, [.t 1], none, []⟩, ⟨some 53, .mv, [.t 2], none, []⟩, ⟨some 54, .mv, [.t 3], none, []⟩, ⟨some 55, .call 16 true, [.t 51, .t 52, .t 53, .t 54],
  none, []⟩, ⟨some 50, .mv, [.t 55], none, []⟩, ⟨some 56, .ext 0, [.t 50], none, []⟩, ⟨some 57, .ext 1, [.t 50], none, []⟩, ⟨some 15, .mv, [.t 56], none, []⟩, ⟨some 16, .mv, [.t
  57], none, []⟩] [0, 1, 2, 3, 11, 12, 13, 14, 15, 16]) (.seq (.region false [⟨some 59, .mv, [.t 0], none, []⟩, ⟨some 60, .mv, [.t 1], none, []⟩, ⟨some 61, .mv, [.t 2], none, []⟩,
  ⟨some 62, .mv, [.t 3], none, []⟩, ⟨some 63, .call 17 true, [.t 59, .t 60, .t 61, .t 62], none, []⟩, ⟨some 58, .mv, [.t 63], none, []⟩, ⟨some 64, .ext 0, [.t 58], none, []⟩, ⟨some
  65, .ext 1, [.t 58], none, []⟩, ⟨some 17, .mv, [.t 64], none, []⟩, ⟨some 18, .mv, [.t 65], none, []⟩] [0, 1, 11, 12, 13, 14, 15, 16, 17, 18]) (.seq (.region false [⟨some 67, .mv,
  [.t 13], none, []⟩, ⟨some 68, .mv, [.t 14], none, []⟩, ⟨some 69, .mv, [.t 11], none, []⟩, ⟨some 70, .mv, [.t 12], none, []⟩, ⟨some 71, .call 16 true, [.t 67, .t 68, .t 69, .t
  70], none, []⟩, ⟨some 66, .mv, [.t 71], none, []⟩, ⟨some 72, .ext 0, [.t 66], none, []⟩, ⟨some 73, .ext 1, [.t 66], none, []⟩, ⟨some 19, .mv, [.t 72], none, []⟩, ⟨some 20, .mv,
  [.t 73], none, []⟩] [0, 1, 11, 12, 13, 14, 15, 16, 17, 18, 19, 20]) (.seq (.region false [⟨some 75, .mv, [.t 13], none, []⟩, ⟨some 76, .mv, [.t 14], none, []⟩, ⟨some 77, .mv, [.t
  11], none, []⟩, ⟨some 78, .mv, [.t 12], none, []⟩, ⟨some 79, .call 17 true, [.t 75, .t 76, .t 77, .t 78], none, []⟩, ⟨some 74, .mv, [.t 79], none, []⟩, ⟨some 80, .ext 0, [.t 74],
  none, []⟩, ⟨some 81, .ext 1, [.t 74], none, []⟩, ⟨some 21, .mv, [.t 80], none, []⟩, ⟨some 22, .mv, [.t 81], none, []⟩] [0, 1, 11, 12, 15, 16, 17, 18, 19, 20, 21, 22]) (.seq
  (.region false [⟨some 83, .mv, [.t 0], none, []⟩, ⟨some 84, .mv, [.t 1], none, []⟩, ⟨some 85, .mv, [.t 11], none, []⟩, ⟨some 86, .mv, [.t 12], none, []⟩, ⟨some 87, .call 16 true,
  [.t 83, .t 84, .t 85, .t 86], none, []⟩, ⟨some 82, .mv, [.t 87], none, []⟩, ⟨some 88, .ext 0, [.t 82], none, []⟩, ⟨some 89, .ext 1, [.t 82], none, []⟩, ⟨some 23, .mv, [.t 88],
  none, []⟩, ⟨some 24, .mv, [.t 89], none, []⟩] [0, 1, 11, 12, 15, 16, 17, 18, 19, 20, 21, 22, 23, 24]) (.seq (.region false [⟨some 91, .mv, [.t 0], none, []⟩, ⟨some 92, .mv, [.t
  1], none, []⟩, ⟨some 93, .mv, [.t 11], none, []⟩, ⟨some 94, .mv, [.t 12], none, []⟩, ⟨some 95, .call 17 true, [.t 91, .t 92, .t 93, .t 94], none, []⟩, ⟨some 90, .mv, [.t 95],
  none, []⟩, ⟨some 96, .ext 0, [.t 90], none, []⟩, ⟨some 97, .ext 1, [.t 90], none, []⟩, ⟨some 25, .mv, [.t 96], none, []⟩, ⟨some 26, .mv, [.t 97], none, []⟩] [15, 16, 17, 18, 19,
  20, 21, 22, 23, 24, 25, 26]) (.seq (.region false [⟨some 98, .mv, [.t 15], none, []⟩, ⟨some 99, .mv, [.t 17], none, []⟩, ⟨some 100, .call 18 false, [.t 98, .t 99], none, []⟩,
  ⟨some 101, .mv, [.t 100], none, []⟩, ⟨some 102, .mv, [.t 16], some (101, true), []⟩, ⟨some 103, .mv, [.t 18], some (101, true), []⟩, ⟨some 104, .bin .eql, [.t 102, .t 103], some
  (101, true), []⟩, ⟨some 105, .pick, [.t 101, .t 104, .k (.d (.bool false))], none, []⟩, ⟨some 106, .mv, [.t 105], none, []⟩, ⟨some 107, .mv, [.t 19], some (106, true), []⟩, ⟨some
  108, .mv, [.t 21], some (106, true), []⟩, ⟨some 109, .call 18 false, [.t 107, .t 108], some (106, true), []⟩, ⟨some 110, .pick, [.t 106, .t 109, .k (.d (.bool false))], none,
  []⟩, ⟨some 111, .mv, [.t 110], none, []⟩, ⟨some 112, .mv, [.t 20], some (111, true), []⟩, ⟨some 113, .mv, [.t 22], some (111, true), []⟩, ⟨some 114, .bin .eql, [.t 112, .t 113],
  some (111, true), []⟩, ⟨some 115, .pick, [.t 111, .t 114, .k (.d (.bool false))], none, []⟩, ⟨some 116, .mv, [.t 115], none, []⟩, ⟨some 117, .mv, [.t 23], some (116, true), []⟩,
  ⟨some 118, .mv, [.t 25], some (116, true), []⟩, ⟨some 119, .call 18 false, [.t 117, .t 118], some (116, true), []⟩, ⟨some 120, .pick, [.t 116, .t 119, .k (.d (.bool false))],
  none, []⟩, ⟨some 121, .mv, [.t 120], none, []⟩, ⟨some 122, .mv, [.t 24], some (121, true), []⟩, ⟨some 123, .mv, [.t 26], some (121, true), []⟩, ⟨some 124, .bin .eql, [.t 122, .t
  123], some (121, true), []⟩, ⟨some 125, .pick, [.t 121, .t 124, .k (.d (.bool false))], none, []⟩, ⟨some 126, .mv, [.t 125], none, []⟩, ⟨some 127, .call 13 false, [], some (126,
  true), []⟩, ⟨some 128, .pick, [.t 126, .t 127, .k (.d (.bool false))], none, []⟩, ⟨some 10, .mv, [.t 128], none, []⟩] [10]) .ret)))))))))))
def passkeylaw37SharingSplitsRr : List RR := [.t 10]
theorem passkeylaw37SharingSplitsC : compFn Try.prog 4 passkeylaw37SharingSplitsH = some (passkeylaw37SharingSplitsRc, passkeylaw37SharingSplitsRr, 129) := by kernel_rfl
theorem passkeylaw37SharingSplitsOK (a0 : List (BitVec 8)) (a1 : List (BitVec 8)) (a2 : Int) (a3 : Int) (a4 : Int) (res : Bool) (h : passkeylaw37SharingSplits a0 a1 a2 a3 a4 = some res) : CallOK Try.prog 4 [.d ((eL 1 eU8) a0), .d ((eL 1 eU8) a1), .d (eI a2), .d (eI a3), .d (eI a4)] [] (.d (eB res)) [] := by
  unfold passkeylaw37SharingSplits at h
  refine callOK passkeylaw37SharingSplitsC fm rfl ?_
  simp only [initE, initM, nbor, List.map_cons, List.map_nil, Nat.reduceAdd]
  unfold passkeylaw37SharingSplitsRc
  refine rwp_seq fun K1 hK1 => ?_
  refine rwp_region fun K2 hK2 => ?_
  refine st0 128 rfl (ok (mv (.d (eB false)))) ?_
  refine hK2 _ _ ?_
  simp only [thenK, blockK, keepE, updM, List.filter_cons, List.filter_nil, List.nil_append, List.cons_append, List.map_cons, List.map_nil, envE, Mem.get, Nat.reduceEqDiff, reduceIte, Option.isNone_none, Option.isNone_some, Bool.false_eq_true, List.length_cons, List.length_nil, Nat.reduceAdd, Nat.reduceMul]
  refine hK1 _ _ _ ?_
  refine rwp_seq fun K3 hK3 => ?_
  refine rwp_join ([], []) 704 (fun env mem => ∃ (v4 : Bool), passkeylaw37SharingSplitsJ1 a0 a1 a2 a3 a4 v4 = some res ∧ env = [(0, .d ((eL 1 eU8) a0)), (1, .d ((eL 1 eU8) a1)), (2, .d (eI a2)), (3, .d (eI a3)), (4, .d (eI a4)), (34, .d (eB v4))] ∧ mem = []) (fun _ _ hI => ?_) (fun K5 hK5 => ?_)
  · obtain ⟨v4, h, rfl, rfl⟩ := hI
    unfold passkeylaw37SharingSplitsJ1 at h
    rcases Bool.eq_false_or_eq_true (v4) with h6 | h6
    · replace h := ite_t h h6
      refine rwp_t (isT h6) ?_
      refine rwp_seq fun K7 hK7 => ?_
      refine rwp_region fun K8 hK8 => ?_
      obtain ⟨y9, h10, h⟩ := bind_inv h
      refine st0 768 rfl (call_ok (v := .d (eB y9)) (u := []) ar_nil rfl (passkeylaw37awakeOK  y9 h10) rfl) ?_
      refine st0 832 rfl (ok (mv (.d (eB y9)))) ?_
      refine hK8 _ _ ?_
      simp only [thenK, blockK, keepE, updM, List.filter_cons, List.filter_nil, List.nil_append, List.cons_append, List.map_cons, List.map_nil, envE, Mem.get, Nat.reduceEqDiff, reduceIte, Option.isNone_none, Option.isNone_some, Bool.false_eq_true, List.length_cons, List.length_nil, Nat.reduceAdd, Nat.reduceMul]
      refine hK7 _ _ _ ?_
      refine rwp_ret ?_
      obtain rfl := Option.some.inj h
      try simp only [thenK, blockK, reduceIte]
      exact Or.inl (end_ok trivial (rs_t (v := .d (eB y9)) rfl rs_nil) (en_d (to_d _) en_nil) ou_nil (by first | exact eok rfl rfl rfl rfl trivial | (refine eok ?_ ?_ ?_ ?_ ?_ <;> first | rfl | exact trivial | simp [retM, Mem.get, PV.renL, PV.ren, Blk.ren, comps, rhoR, rhoM, appN, PV.refsL, PV.refs, keys, nodupB, Blk.refs, allIn, Blk.bor])))
    · replace h := ite_f h h6
      refine rwp_f (isF h6) ?_
      refine rwp_skip ?_
      refine hK3 _ _ _ ?_
      refine rwp_seq fun K11 hK11 => ?_
      refine rwp_region fun K12 hK12 => ?_
      refine st0 768 rfl (ok (mv (.d (eI a2)))) ?_
      obtain ⟨y13, h14, h⟩ := bind_inv h
      refine st0 832 rfl (call_ok (v := .d (eI y13)) (u := []) (ar_d (eI a2) (ar_d (eI (7 : Int)) ar_nil)) rfl (passkeycastModOK a2 (7 : Int) y13 h14) rfl) ?_
      refine st0 896 rfl (ok (mv (.d (eI a3)))) ?_
      obtain ⟨y15, h16, h⟩ := bind_inv h
      refine st0 960 rfl (call_ok (v := .d (eI y15)) (u := []) (ar_d (eI a3) (ar_d (eI (9 : Int)) ar_nil)) rfl (passkeycastModOK a3 (9 : Int) y15 h16) rfl) ?_
      refine st0 1024 rfl (ok (mv (.d (eI y13)))) ?_
      refine st0 1088 rfl (ok (mv (.d (eI y15)))) ?_
      refine hK12 _ _ ?_
      simp only [thenK, blockK, keepE, updM, List.filter_cons, List.filter_nil, List.nil_append, List.cons_append, List.map_cons, List.map_nil, envE, Mem.get, Nat.reduceEqDiff, reduceIte, Option.isNone_none, Option.isNone_some, Bool.false_eq_true, List.length_cons, List.length_nil, Nat.reduceAdd, Nat.reduceMul]
      refine hK11 _ _ _ ?_
      refine rwp_seq fun K17 hK17 => ?_
      refine rwp_region fun K18 hK18 => ?_
      refine st0 1152 rfl (ok (mv (.d (eI a4)))) ?_
      obtain ⟨y19, h20, h⟩ := bind_inv h
      refine st0 1216 rfl (call_ok (v := .d (eI y19)) (u := []) (ar_d (eI a4) (ar_d (eI (50 : Int)) ar_nil)) rfl (passkeycastModOK a4 (50 : Int) y19 h20) rfl) ?_
      obtain ⟨y21, h22, h⟩ := bind_inv h
      refine st0 1280 rfl (call_ok (v := .d ((eL 1 eU8) y21)) (u := []) (ar_d (eI y19) (ar_d (eI (8 : Int)) ar_nil)) rfl (passkeycastBytesOK y19 (8 : Int) y21 h22) rfl) ?_
      refine st0 1344 rfl (ok (mv (.d ((eL 1 eU8) y21)))) ?_
      refine hK18 _ _ ?_
      simp only [thenK, blockK, keepE, updM, List.filter_cons, List.filter_nil, List.nil_append, List.cons_append, List.map_cons, List.map_nil, envE, Mem.get, Nat.reduceEqDiff, reduceIte, Option.isNone_none, Option.isNone_some, Bool.false_eq_true, List.length_cons, List.length_nil, Nat.reduceAdd, Nat.reduceMul]
      refine hK17 _ _ _ ?_
      refine rwp_seq fun K23 hK23 => ?_
      refine rwp_region fun K24 hK24 => ?_
      refine st0 1408 rfl (ok (mv (.d (eI a4)))) ?_
      obtain ⟨y25, h26, h⟩ := bind_inv h
      refine st0 1472 rfl (call_ok (v := .d (eI y25)) (u := []) (ar_d (eI a4) (ar_d (eI (50 : Int)) ar_nil)) rfl (passkeycastModOK a4 (50 : Int) y25 h26) rfl) ?_
      refine st0 1536 rfl (ok (addI _ (9 : Int))) ?_
      refine st0 1600 rfl (ok (mv (.d (eI y13)))) ?_
      obtain ⟨y27, h28, h⟩ := bind_inv h
      refine st0 1664 rfl (call_ok (v := .d (eI y27)) (u := []) (ar_d (eI y13) (ar_d (eI (7 : Int)) ar_nil)) rfl (passkeycastModOK y13 (7 : Int) y27 h28) rfl) ?_
      refine st0 1728 rfl (ok (mulI (8 : Int) _)) ?_
      obtain ⟨y29, h30, h⟩ := bind_inv h
      refine st0 1792 rfl (call_ok (v := .d ((eL 1 eU8) y29)) (u := []) (ar_d (eI (w64 (y25 + (9 : Int)))) (ar_d (eI (w64 ((8 : Int) * y27))) ar_nil)) rfl (passkeycastBytesOK (w64 (y25 + (9 : Int))) (w64 ((8 : Int) * y27)) y29 h30) rfl) ?_
      refine st0 1856 rfl (ok (mv (.d ((eL 1 eU8) y29)))) ?_
      refine hK24 _ _ ?_
      simp only [thenK, blockK, keepE, updM, List.filter_cons, List.filter_nil, List.nil_append, List.cons_append, List.map_cons, List.map_nil, envE, Mem.get, Nat.reduceEqDiff, reduceIte, Option.isNone_none, Option.isNone_some, Bool.false_eq_true, List.length_cons, List.length_nil, Nat.reduceAdd, Nat.reduceMul]
      refine hK23 _ _ _ ?_
      refine rwp_seq fun K31 hK31 => ?_
      refine rwp_region fun K32 hK32 => ?_
      refine st0 1920 rfl (ok (mv (.d ((eL 1 eU8) a0)))) ?_
      refine st0 1984 rfl (ok (mv (.d ((eL 1 eU8) a1)))) ?_
      refine st0 2048 rfl (ok (mv (.d (eI a2)))) ?_
      refine st0 2112 rfl (ok (mv (.d (eI a3)))) ?_
      obtain ⟨y33, h34, h⟩ := bind_inv h
      refine st1 2176 rfl (mem' := [(2112, .row true 2 (y33.1.map eTApiShare))]) (call_ok (v := .tup [.ref 2112 y33.1.length 0 y33.1.length, .d (eI y33.2)]) (u := [(2112, .row true 2 (y33.1.map eTApiShare))]) (ar_d ((eL 1 eU8) a0) (ar_d ((eL 1 eU8) a1) (ar_d (eI a2) (ar_d (eI a3) ar_nil)))) rfl (sharingSplitOK a0 a1 a2 a3 y33 h34) rfl) rfl ?_
      refine st0 2240 rfl (ok (mv (.tup [.ref 2112 y33.1.length 0 y33.1.length, .d (eI y33.2)]))) ?_
      refine st0 2304 rfl (ok (extr (v := .ref 2112 y33.1.length 0 y33.1.length) rfl rfl)) ?_
      refine st0 2368 rfl (ok (extr (v := .d (eI y33.2)) rfl rfl)) ?_
      refine st0 2432 rfl (ok (mv (.ref 2112 y33.1.length 0 y33.1.length))) ?_
      refine st0 2496 rfl (ok (mv (.d (eI y33.2)))) ?_
      refine hK32 _ _ ?_
      simp only [thenK, blockK, keepE, updM, List.filter_cons, List.filter_nil, List.nil_append, List.cons_append, List.map_cons, List.map_nil, envE, Mem.get, Nat.reduceEqDiff, reduceIte, Option.isNone_none, Option.isNone_some, Bool.false_eq_true, List.length_cons, List.length_nil, Nat.reduceAdd, Nat.reduceMul]
      refine hK31 _ _ _ ?_
      refine rwp_seq fun K35 hK35 => ?_
      refine rwp_region fun K36 hK36 => ?_
      refine st0 2560 rfl (ok (mv (.d ((eL 1 eU8) a0)))) ?_
      refine st0 2624 rfl (ok (mv (.d ((eL 1 eU8) a1)))) ?_
      refine st0 2688 rfl (ok (mv (.d (eI a2)))) ?_
      refine st0 2752 rfl (ok (mv (.d (eI a3)))) ?_
      obtain ⟨y37, h38, h⟩ := bind_inv h
      refine st1 2816 rfl (mem' := [(2752, .row true 2 (y37.1.map eTApiShare)), (2112, .row true 2 (y33.1.map eTApiShare))]) (call_ok (v := .tup [.ref 2752 y37.1.length 0 y37.1.length, .d (eI y37.2)]) (u := [(2752, .row true 2 (y37.1.map eTApiShare))]) (ar_d ((eL 1 eU8) a0) (ar_d ((eL 1 eU8) a1) (ar_d (eI a2) (ar_d (eI a3) ar_nil)))) rfl (passkeyref37SplitOK a0 a1 a2 a3 y37 h38) rfl) rfl ?_
      refine st0 2880 rfl (ok (mv (.tup [.ref 2752 y37.1.length 0 y37.1.length, .d (eI y37.2)]))) ?_
      refine st0 2944 rfl (ok (extr (v := .ref 2752 y37.1.length 0 y37.1.length) rfl rfl)) ?_
      refine st0 3008 rfl (ok (extr (v := .d (eI y37.2)) rfl rfl)) ?_
      refine st0 3072 rfl (ok (mv (.ref 2752 y37.1.length 0 y37.1.length))) ?_
      refine st0 3136 rfl (ok (mv (.d (eI y37.2)))) ?_
      refine hK36 _ _ ?_
      simp only [thenK, blockK, keepE, updM, List.filter_cons, List.filter_nil, List.nil_append, List.cons_append, List.map_cons, List.map_nil, envE, Mem.get, Nat.reduceEqDiff, reduceIte, Option.isNone_none, Option.isNone_some, Bool.false_eq_true, List.length_cons, List.length_nil, Nat.reduceAdd, Nat.reduceMul]
      refine hK35 _ _ _ ?_
      refine rwp_seq fun K39 hK39 => ?_
      refine rwp_region fun K40 hK40 => ?_
      refine st0 3200 rfl (ok (mv (.d ((eL 1 eU8) y21)))) ?_
      refine st0 3264 rfl (ok (mv (.d ((eL 1 eU8) y29)))) ?_
      refine st0 3328 rfl (ok (mv (.d (eI y13)))) ?_
      refine st0 3392 rfl (ok (mv (.d (eI y15)))) ?_
      obtain ⟨y41, h42, h⟩ := bind_inv h
      refine st1 3456 rfl (mem' := [(3392, .row true 2 (y41.1.map eTApiShare)), (2752, .row true 2 (y37.1.map eTApiShare)), (2112, .row true 2 (y33.1.map eTApiShare))]) (call_ok (v := .tup [.ref 3392 y41.1.length 0 y41.1.length, .d (eI y41.2)]) (u := [(3392, .row true 2 (y41.1.map eTApiShare))]) (ar_d ((eL 1 eU8) y21) (ar_d ((eL 1 eU8) y29) (ar_d (eI y13) (ar_d (eI y15) ar_nil)))) rfl (sharingSplitOK y21 y29 y13 y15 y41 h42) rfl) rfl ?_
      refine st0 3520 rfl (ok (mv (.tup [.ref 3392 y41.1.length 0 y41.1.length, .d (eI y41.2)]))) ?_
      refine st0 3584 rfl (ok (extr (v := .ref 3392 y41.1.length 0 y41.1.length) rfl rfl)) ?_
      refine st0 3648 rfl (ok (extr (v := .d (eI y41.2)) rfl rfl)) ?_
      refine st0 3712 rfl (ok (mv (.ref 3392 y41.1.length 0 y41.1.length))) ?_
      refine st0 3776 rfl (ok (mv (.d (eI y41.2)))) ?_
      refine hK40 _ _ ?_
      simp only [thenK, blockK, keepE, updM, List.filter_cons, List.filter_nil, List.nil_append, List.cons_append, List.map_cons, List.map_nil, envE, Mem.get, Nat.reduceEqDiff, reduceIte, Option.isNone_none, Option.isNone_some, Bool.false_eq_true, List.length_cons, List.length_nil, Nat.reduceAdd, Nat.reduceMul]
      refine hK39 _ _ _ ?_
      refine rwp_seq fun K43 hK43 => ?_
      refine rwp_region fun K44 hK44 => ?_
      refine st0 3840 rfl (ok (mv (.d ((eL 1 eU8) y21)))) ?_
      refine st0 3904 rfl (ok (mv (.d ((eL 1 eU8) y29)))) ?_
      refine st0 3968 rfl (ok (mv (.d (eI y13)))) ?_
      refine st0 4032 rfl (ok (mv (.d (eI y15)))) ?_
      obtain ⟨y45, h46, h⟩ := bind_inv h
      refine st1 4096 rfl (mem' := [(4032, .row true 2 (y45.1.map eTApiShare)), (3392, .row true 2 (y41.1.map eTApiShare)), (2752, .row true 2 (y37.1.map eTApiShare)), (2112, .row true 2 (y33.1.map eTApiShare))]) (call_ok (v := .tup [.ref 4032 y45.1.length 0 y45.1.length, .d (eI y45.2)]) (u := [(4032, .row true 2 (y45.1.map eTApiShare))]) (ar_d ((eL 1 eU8) y21) (ar_d ((eL 1 eU8) y29) (ar_d (eI y13) (ar_d (eI y15) ar_nil)))) rfl (passkeyref37SplitOK y21 y29 y13 y15 y45 h46) rfl) rfl ?_
      refine st0 4160 rfl (ok (mv (.tup [.ref 4032 y45.1.length 0 y45.1.length, .d (eI y45.2)]))) ?_
      refine st0 4224 rfl (ok (extr (v := .ref 4032 y45.1.length 0 y45.1.length) rfl rfl)) ?_
      refine st0 4288 rfl (ok (extr (v := .d (eI y45.2)) rfl rfl)) ?_
      refine st0 4352 rfl (ok (mv (.ref 4032 y45.1.length 0 y45.1.length))) ?_
      refine st0 4416 rfl (ok (mv (.d (eI y45.2)))) ?_
      refine hK44 _ _ ?_
      simp only [thenK, blockK, keepE, updM, List.filter_cons, List.filter_nil, List.nil_append, List.cons_append, List.map_cons, List.map_nil, envE, Mem.get, Nat.reduceEqDiff, reduceIte, Option.isNone_none, Option.isNone_some, Bool.false_eq_true, List.length_cons, List.length_nil, Nat.reduceAdd, Nat.reduceMul]
      refine hK43 _ _ _ ?_
      refine rwp_seq fun K47 hK47 => ?_
      refine rwp_region fun K48 hK48 => ?_
      refine st0 4480 rfl (ok (mv (.d ((eL 1 eU8) a0)))) ?_
      refine st0 4544 rfl (ok (mv (.d ((eL 1 eU8) a1)))) ?_
      refine st0 4608 rfl (ok (mv (.d (eI y13)))) ?_
      refine st0 4672 rfl (ok (mv (.d (eI y15)))) ?_
      obtain ⟨y49, h50, h⟩ := bind_inv h
      refine st1 4736 rfl (mem' := [(4672, .row true 2 (y49.1.map eTApiShare)), (4032, .row true 2 (y45.1.map eTApiShare)), (3392, .row true 2 (y41.1.map eTApiShare)), (2752, .row true 2 (y37.1.map eTApiShare)), (2112, .row true 2 (y33.1.map eTApiShare))]) (call_ok (v := .tup [.ref 4672 y49.1.length 0 y49.1.length, .d (eI y49.2)]) (u := [(4672, .row true 2 (y49.1.map eTApiShare))]) (ar_d ((eL 1 eU8) a0) (ar_d ((eL 1 eU8) a1) (ar_d (eI y13) (ar_d (eI y15) ar_nil)))) rfl (sharingSplitOK a0 a1 y13 y15 y49 h50) rfl) rfl ?_
      refine st0 4800 rfl (ok (mv (.tup [.ref 4672 y49.1.length 0 y49.1.length, .d (eI y49.2)]))) ?_
      refine st0 4864 rfl (ok (extr (v := .ref 4672 y49.1.length 0 y49.1.length) rfl rfl)) ?_
      refine st0 4928 rfl (ok (extr (v := .d (eI y49.2)) rfl rfl)) ?_
      refine st0 4992 rfl (ok (mv (.ref 4672 y49.1.length 0 y49.1.length))) ?_
      refine st0 5056 rfl (ok (mv (.d (eI y49.2)))) ?_
      refine hK48 _ _ ?_
      simp only [thenK, blockK, keepE, updM, List.filter_cons, List.filter_nil, List.nil_append, List.cons_append, List.map_cons, List.map_nil, envE, Mem.get, Nat.reduceEqDiff, reduceIte, Option.isNone_none, Option.isNone_some, Bool.false_eq_true, List.length_cons, List.length_nil, Nat.reduceAdd, Nat.reduceMul]
      refine hK47 _ _ _ ?_
      refine rwp_seq fun K51 hK51 => ?_
      refine rwp_region fun K52 hK52 => ?_
      refine st0 5120 rfl (ok (mv (.d ((eL 1 eU8) a0)))) ?_
      refine st0 5184 rfl (ok (mv (.d ((eL 1 eU8) a1)))) ?_
      refine st0 5248 rfl (ok (mv (.d (eI y13)))) ?_
      refine st0 5312 rfl (ok (mv (.d (eI y15)))) ?_
      obtain ⟨y53, h54, h⟩ := bind_inv h
      refine st1 5376 rfl (mem' := [(5312, .row true 2 (y53.1.map eTApiShare)), (4672, .row true 2 (y49.1.map eTApiShare)), (4032, .row true 2 (y45.1.map eTApiShare)), (3392, .row true 2 (y41.1.map eTApiShare)), (2752, .row true 2 (y37.1.map eTApiShare)), (2112, .row true 2 (y33.1.map eTApiShare))]) (call_ok (v := .tup [.ref 5312 y53.1.length 0 y53.1.length, .d (eI y53.2)]) (u := [(5312, .row true 2 (y53.1.map eTApiShare))]) (ar_d ((eL 1 eU8) a0) (ar_d ((eL 1 eU8) a1) (ar_d (eI y13) (ar_d (eI y15) ar_nil)))) rfl (passkeyref37SplitOK a0 a1 y13 y15 y53 h54) rfl) rfl ?_
      refine st0 5440 rfl (ok (mv (.tup [.ref 5312 y53.1.length 0 y53.1.length, .d (eI y53.2)]))) ?_
      refine st0 5504 rfl (ok (extr (v := .ref 5312 y53.1.length 0 y53.1.length) rfl rfl)) ?_
      refine st0 5568 rfl (ok (extr (v := .d (eI y53.2)) rfl rfl)) ?_
      refine st0 5632 rfl (ok (mv (.ref 5312 y53.1.length 0 y53.1.length))) ?_
      refine st0 5696 rfl (ok (mv (.d (eI y53.2)))) ?_
      refine hK52 _ _ ?_
      simp only [thenK, blockK, keepE, updM, List.filter_cons, List.filter_nil, List.nil_append, List.cons_append, List.map_cons, List.map_nil, envE, Mem.get, Nat.reduceEqDiff, reduceIte, Option.isNone_none, Option.isNone_some, Bool.false_eq_true, List.length_cons, List.length_nil, Nat.reduceAdd, Nat.reduceMul]
      refine hK51 _ _ _ ?_
      refine rwp_seq fun K55 hK55 => ?_
      refine rwp_region fun K56 hK56 => ?_
      refine st0 5760 rfl (ok (mv (.ref 2112 y33.1.length 0 y33.1.length))) ?_
      refine st0 5824 rfl (ok (mv (.ref 2752 y37.1.length 0 y37.1.length))) ?_
      obtain ⟨y57, h58, h⟩ := bind_inv h
      refine st0 5888 rfl (call_ok (v := .d (eB y57)) (u := []) (ar_to rfl (to_1 rfl (ds_r (ys := y33.1) rfl rfl rfl ds_nil)) (ar_to rfl (to_1 rfl (ds_r (ys := y37.1) rfl rfl rfl ds_nil)) ar_nil)) rfl (passkeyref37SameSharesOK y33.1 y37.1 y57 h58) rfl) ?_
      refine st0 5952 rfl (ok (mv (.d (eB y57)))) ?_
      rcases Bool.eq_false_or_eq_true (y57) with h59 | h59
      · replace h := ite_t h h59
        refine stG (isT h59) ?_
        refine st0 6016 rfl (ok (mv (.d (eI y33.2)))) ?_
        refine stG (isT h59) ?_
        refine st0 6080 rfl (ok (mv (.d (eI y37.2)))) ?_
        refine stG (isT h59) ?_
        refine st0 6144 rfl (ok (eqlI _ _)) ?_
        refine st0 6208 rfl (ok (pick_t h59 (.d (eB (y33.2 == y37.2))) _)) ?_
        refine st0 6272 rfl (ok (mv (.d (eB (y33.2 == y37.2))))) ?_
        rcases Bool.eq_false_or_eq_true ((y33.2 == y37.2)) with h60 | h60
        · replace h := ite_t h h60
          refine stG (isT h60) ?_
          refine st0 6336 rfl (ok (mv (.ref 3392 y41.1.length 0 y41.1.length))) ?_
          refine stG (isT h60) ?_
          refine st0 6400 rfl (ok (mv (.ref 4032 y45.1.length 0 y45.1.length))) ?_
          refine stG (isT h60) ?_
          obtain ⟨y61, h62, h⟩ := bind_inv h
          refine st0 6464 rfl (call_ok (v := .d (eB y61)) (u := []) (ar_to rfl (to_1 rfl (ds_r (ys := y41.1) rfl rfl rfl ds_nil)) (ar_to rfl (to_1 rfl (ds_r (ys := y45.1) rfl rfl rfl ds_nil)) ar_nil)) rfl (passkeyref37SameSharesOK y41.1 y45.1 y61 h62) rfl) ?_
          refine st0 6528 rfl (ok (pick_t h60 (.d (eB y61)) _)) ?_
          refine st0 6592 rfl (ok (mv (.d (eB y61)))) ?_
          rcases Bool.eq_false_or_eq_true (y61) with h63 | h63
          · replace h := ite_t h h63
            refine stG (isT h63) ?_
            refine st0 6656 rfl (ok (mv (.d (eI y41.2)))) ?_
            refine stG (isT h63) ?_
            refine st0 6720 rfl (ok (mv (.d (eI y45.2)))) ?_
            refine stG (isT h63) ?_
            refine st0 6784 rfl (ok (eqlI _ _)) ?_
            refine st0 6848 rfl (ok (pick_t h63 (.d (eB (y41.2 == y45.2))) _)) ?_
            refine st0 6912 rfl (ok (mv (.d (eB (y41.2 == y45.2))))) ?_
            rcases Bool.eq_false_or_eq_true ((y41.2 == y45.2)) with h64 | h64
            · replace h := ite_t h h64
              refine stG (isT h64) ?_
              refine st0 6976 rfl (ok (mv (.ref 4672 y49.1.length 0 y49.1.length))) ?_
              refine stG (isT h64) ?_
              refine st0 7040 rfl (ok (mv (.ref 5312 y53.1.length 0 y53.1.length))) ?_
              refine stG (isT h64) ?_
              obtain ⟨y65, h66, h⟩ := bind_inv h
              refine st0 7104 rfl (call_ok (v := .d (eB y65)) (u := []) (ar_to rfl (to_1 rfl (ds_r (ys := y49.1) rfl rfl rfl ds_nil)) (ar_to rfl (to_1 rfl (ds_r (ys := y53.1) rfl rfl rfl ds_nil)) ar_nil)) rfl (passkeyref37SameSharesOK y49.1 y53.1 y65 h66) rfl) ?_
              refine st0 7168 rfl (ok (pick_t h64 (.d (eB y65)) _)) ?_
              refine st0 7232 rfl (ok (mv (.d (eB y65)))) ?_
              rcases Bool.eq_false_or_eq_true (y65) with h67 | h67
              · replace h := ite_t h h67
                refine stG (isT h67) ?_
                refine st0 7296 rfl (ok (mv (.d (eI y49.2)))) ?_
                refine stG (isT h67) ?_
                refine st0 7360 rfl (ok (mv (.d (eI y53.2)))) ?_
                refine stG (isT h67) ?_
                refine st0 7424 rfl (ok (eqlI _ _)) ?_
                refine st0 7488 rfl (ok (pick_t h67 (.d (eB (y49.2 == y53.2))) _)) ?_
                refine st0 7552 rfl (ok (mv (.d (eB (y49.2 == y53.2))))) ?_
                rcases Bool.eq_false_or_eq_true ((y49.2 == y53.2)) with h68 | h68
                · replace h := ite_t h h68
                  refine stG (isT h68) ?_
                  obtain ⟨y69, h70, h⟩ := bind_inv h
                  refine st0 7616 rfl (call_ok (v := .d (eB y69)) (u := []) ar_nil rfl (passkeylaw37awakeOK  y69 h70) rfl) ?_
                  refine st0 7680 rfl (ok (pick_t h68 (.d (eB y69)) _)) ?_
                  refine st0 7744 rfl (ok (mv (.d (eB y69)))) ?_
                  refine hK56 _ _ ?_
                  simp only [thenK, blockK, keepE, updM, List.filter_cons, List.filter_nil, List.nil_append, List.cons_append, List.map_cons, List.map_nil, envE, Mem.get, Nat.reduceEqDiff, reduceIte, Option.isNone_none, Option.isNone_some, Bool.false_eq_true, List.length_cons, List.length_nil, Nat.reduceAdd, Nat.reduceMul]
                  refine hK55 _ _ _ ?_
                  refine rwp_ret ?_
                  obtain rfl := Option.some.inj h
                  try simp only [thenK, blockK, reduceIte]
                  exact Or.inl (end_ok trivial (rs_t (v := .d (eB y69)) rfl rs_nil) (en_d (to_d _) en_nil) ou_nil (by first | exact eok rfl rfl rfl rfl trivial | (refine eok ?_ ?_ ?_ ?_ ?_ <;> first | rfl | exact trivial | simp [retM, Mem.get, PV.renL, PV.ren, Blk.ren, comps, rhoR, rhoM, appN, PV.refsL, PV.refs, keys, nodupB, Blk.refs, allIn, Blk.bor])))
                · replace h := ite_f h h68
                  refine stGN 7616 rfl rfl h68 ?_
                  refine st0 7680 rfl (ok (pick_f h68 _ (.d (eB false)))) ?_
                  refine st0 7744 rfl (ok (mv (.d (eB false)))) ?_
                  refine hK56 _ _ ?_
                  simp only [thenK, blockK, keepE, updM, List.filter_cons, List.filter_nil, List.nil_append, List.cons_append, List.map_cons, List.map_nil, envE, Mem.get, Nat.reduceEqDiff, reduceIte, Option.isNone_none, Option.isNone_some, Bool.false_eq_true, List.length_cons, List.length_nil, Nat.reduceAdd, Nat.reduceMul]
                  refine hK55 _ _ _ ?_
                  refine rwp_ret ?_
                  obtain rfl := Option.some.inj h
                  try simp only [thenK, blockK, reduceIte]
                  exact Or.inl (end_ok trivial (rs_t (v := .d (eB false)) rfl rs_nil) (en_d (to_d _) en_nil) ou_nil (by first | exact eok rfl rfl rfl rfl trivial | (refine eok ?_ ?_ ?_ ?_ ?_ <;> first | rfl | exact trivial | simp [retM, Mem.get, PV.renL, PV.ren, Blk.ren, comps, rhoR, rhoM, appN, PV.refsL, PV.refs, keys, nodupB, Blk.refs, allIn, Blk.bor])))
              · replace h := ite_f h h67
                refine stGN 7296 rfl rfl h67 ?_
                refine stGN 7360 rfl rfl h67 ?_
                refine stGN 7424 rfl rfl h67 ?_
                refine st0 7488 rfl (ok (pick_f h67 _ (.d (eB false)))) ?_
                refine st0 7552 rfl (ok (mv (.d (eB false)))) ?_
                refine stGN 7616 rfl rfl rfl ?_
                refine st0 7680 rfl (ok (pick_f rfl _ (.d (eB false)))) ?_
                refine st0 7744 rfl (ok (mv (.d (eB false)))) ?_
                refine hK56 _ _ ?_
                simp only [thenK, blockK, keepE, updM, List.filter_cons, List.filter_nil, List.nil_append, List.cons_append, List.map_cons, List.map_nil, envE, Mem.get, Nat.reduceEqDiff, reduceIte, Option.isNone_none, Option.isNone_some, Bool.false_eq_true, List.length_cons, List.length_nil, Nat.reduceAdd, Nat.reduceMul]
                refine hK55 _ _ _ ?_
                refine rwp_ret ?_
                obtain rfl := Option.some.inj h
                try simp only [thenK, blockK, reduceIte]
                exact Or.inl (end_ok trivial (rs_t (v := .d (eB false)) rfl rs_nil) (en_d (to_d _) en_nil) ou_nil (by first | exact eok rfl rfl rfl rfl trivial | (refine eok ?_ ?_ ?_ ?_ ?_ <;> first | rfl | exact trivial | simp [retM, Mem.get, PV.renL, PV.ren, Blk.ren, comps, rhoR, rhoM, appN, PV.refsL, PV.refs, keys, nodupB, Blk.refs, allIn, Blk.bor])))
            · replace h := ite_f h h64
              refine stGN 6976 rfl rfl h64 ?_
              refine stGN 7040 rfl rfl h64 ?_
              refine stGN 7104 rfl rfl h64 ?_
              refine st0 7168 rfl (ok (pick_f h64 _ (.d (eB false)))) ?_
              refine st0 7232 rfl (ok (mv (.d (eB false)))) ?_
              refine stGN 7296 rfl rfl rfl ?_
              refine stGN 7360 rfl rfl rfl ?_
              refine stGN 7424 rfl rfl rfl ?_
              refine st0 7488 rfl (ok (pick_f rfl _ (.d (eB false)))) ?_
              refine st0 7552 rfl (ok (mv (.d (eB false)))) ?_
              refine stGN 7616 rfl rfl rfl ?_
              refine st0 7680 rfl (ok (pick_f rfl _ (.d (eB false)))) ?_
              refine st0 7744 rfl (ok (mv (.d (eB false)))) ?_
              refine hK56 _ _ ?_
              simp only [thenK, blockK, keepE, updM, List.filter_cons, List.filter_nil, List.nil_append, List.cons_append, List.map_cons, List.map_nil, envE, Mem.get, Nat.reduceEqDiff, reduceIte, Option.isNone_none, Option.isNone_some, Bool.false_eq_true, List.length_cons, List.length_nil, Nat.reduceAdd, Nat.reduceMul]
              refine hK55 _ _ _ ?_
              refine rwp_ret ?_
              obtain rfl := Option.some.inj h
              try simp only [thenK, blockK, reduceIte]
              exact Or.inl (end_ok trivial (rs_t (v := .d (eB false)) rfl rs_nil) (en_d (to_d _) en_nil) ou_nil (by first | exact eok rfl rfl rfl rfl trivial | (refine eok ?_ ?_ ?_ ?_ ?_ <;> first | rfl | exact trivial | simp [retM, Mem.get, PV.renL, PV.ren, Blk.ren, comps, rhoR, rhoM, appN, PV.refsL, PV.refs, keys, nodupB, Blk.refs, allIn, Blk.bor])))
          · replace h := ite_f h h63
            refine stGN 6656 rfl rfl h63 ?_
            refine stGN 6720 rfl rfl h63 ?_
            refine stGN 6784 rfl rfl h63 ?_
            refine st0 6848 rfl (ok (pick_f h63 _ (.d (eB false)))) ?_
            refine st0 6912 rfl (ok (mv (.d (eB false)))) ?_
            refine stGN 6976 rfl rfl rfl ?_
            refine stGN 7040 rfl rfl rfl ?_
            refine stGN 7104 rfl rfl rfl ?_
            refine st0 7168 rfl (ok (pick_f rfl _ (.d (eB false)))) ?_
            refine st0 7232 rfl (ok (mv (.d (eB false)))) ?_
            refine stGN 7296 rfl rfl rfl ?_
            refine stGN 7360 rfl rfl rfl ?_
            refine stGN 7424 rfl rfl rfl ?_
            refine st0 7488 rfl (ok (pick_f rfl _ (.d (eB false)))) ?_
            refine st0 7552 rfl (ok (mv (.d (eB false)))) ?_
            refine stGN 7616 rfl rfl rfl ?_
            refine st0 7680 rfl (ok (pick_f rfl _ (.d (eB false)))) ?_
            refine st0 7744 rfl (ok (mv (.d (eB false)))) ?_
            refine hK56 _ _ ?_
            simp only [thenK, blockK, keepE, updM, List.filter_cons, List.filter_nil, List.nil_append, List.cons_append, List.map_cons, List.map_nil, envE, Mem.get, Nat.reduceEqDiff, reduceIte, Option.isNone_none, Option.isNone_some, Bool.false_eq_true, List.length_cons, List.length_nil, Nat.reduceAdd, Nat.reduceMul]
            refine hK55 _ _ _ ?_
            refine rwp_ret ?_
            obtain rfl := Option.some.inj h
            try simp only [thenK, blockK, reduceIte]
            exact Or.inl (end_ok trivial (rs_t (v := .d (eB false)) rfl rs_nil) (en_d (to_d _) en_nil) ou_nil (by first | exact eok rfl rfl rfl rfl trivial | (refine eok ?_ ?_ ?_ ?_ ?_ <;> first | rfl | exact trivial | simp [retM, Mem.get, PV.renL, PV.ren, Blk.ren, comps, rhoR, rhoM, appN, PV.refsL, PV.refs, keys, nodupB, Blk.refs, allIn, Blk.bor])))
        · replace h := ite_f h h60
          refine stGN 6336 rfl rfl h60 ?_
          refine stGN 6400 rfl rfl h60 ?_
          refine stGN 6464 rfl rfl h60 ?_
          refine st0 6528 rfl (ok (pick_f h60 _ (.d (eB false)))) ?_
          refine st0 6592 rfl (ok (mv (.d (eB false)))) ?_
          refine stGN 6656 rfl rfl rfl ?_
          refine stGN 6720 rfl rfl rfl ?_
          refine stGN 6784 rfl rfl rfl ?_
          refine st0 6848 rfl (ok (pick_f rfl _ (.d (eB false)))) ?_
          refine st0 6912 rfl (ok (mv (.d (eB false)))) ?_
          refine stGN 6976 rfl rfl rfl ?_
          refine stGN 7040 rfl rfl rfl ?_
          refine stGN 7104 rfl rfl rfl ?_
          refine st0 7168 rfl (ok (pick_f rfl _ (.d (eB false)))) ?_
          refine st0 7232 rfl (ok (mv (.d (eB false)))) ?_
          refine stGN 7296 rfl rfl rfl ?_
          refine stGN 7360 rfl rfl rfl ?_
          refine stGN 7424 rfl rfl rfl ?_
          refine st0 7488 rfl (ok (pick_f rfl _ (.d (eB false)))) ?_
          refine st0 7552 rfl (ok (mv (.d (eB false)))) ?_
          refine stGN 7616 rfl rfl rfl ?_
          refine st0 7680 rfl (ok (pick_f rfl _ (.d (eB false)))) ?_
          refine st0 7744 rfl (ok (mv (.d (eB false)))) ?_
          refine hK56 _ _ ?_
          simp only [thenK, blockK, keepE, updM, List.filter_cons, List.filter_nil, List.nil_append, List.cons_append, List.map_cons, List.map_nil, envE, Mem.get, Nat.reduceEqDiff, reduceIte, Option.isNone_none, Option.isNone_some, Bool.false_eq_true, List.length_cons, List.length_nil, Nat.reduceAdd, Nat.reduceMul]
          refine hK55 _ _ _ ?_
          refine rwp_ret ?_
          obtain rfl := Option.some.inj h
          try simp only [thenK, blockK, reduceIte]
          exact Or.inl (end_ok trivial (rs_t (v := .d (eB false)) rfl rs_nil) (en_d (to_d _) en_nil) ou_nil (by first | exact eok rfl rfl rfl rfl trivial | (refine eok ?_ ?_ ?_ ?_ ?_ <;> first | rfl | exact trivial | simp [retM, Mem.get, PV.renL, PV.ren, Blk.ren, comps, rhoR, rhoM, appN, PV.refsL, PV.refs, keys, nodupB, Blk.refs, allIn, Blk.bor])))
      · replace h := ite_f h h59
        refine stGN 6016 rfl rfl h59 ?_
        refine stGN 6080 rfl rfl h59 ?_
        refine stGN 6144 rfl rfl h59 ?_
        refine st0 6208 rfl (ok (pick_f h59 _ (.d (eB false)))) ?_
        refine st0 6272 rfl (ok (mv (.d (eB false)))) ?_
        refine stGN 6336 rfl rfl rfl ?_
        refine stGN 6400 rfl rfl rfl ?_
        refine stGN 6464 rfl rfl rfl ?_
        refine st0 6528 rfl (ok (pick_f rfl _ (.d (eB false)))) ?_
        refine st0 6592 rfl (ok (mv (.d (eB false)))) ?_
        refine stGN 6656 rfl rfl rfl ?_
        refine stGN 6720 rfl rfl rfl ?_
        refine stGN 6784 rfl rfl rfl ?_
        refine st0 6848 rfl (ok (pick_f rfl _ (.d (eB false)))) ?_
        refine st0 6912 rfl (ok (mv (.d (eB false)))) ?_
        refine stGN 6976 rfl rfl rfl ?_
        refine stGN 7040 rfl rfl rfl ?_
        refine stGN 7104 rfl rfl rfl ?_
        refine st0 7168 rfl (ok (pick_f rfl _ (.d (eB false)))) ?_
        refine st0 7232 rfl (ok (mv (.d (eB false)))) ?_
        refine stGN 7296 rfl rfl rfl ?_
        refine stGN 7360 rfl rfl rfl ?_
        refine stGN 7424 rfl rfl rfl ?_
        refine st0 7488 rfl (ok (pick_f rfl _ (.d (eB false)))) ?_
        refine st0 7552 rfl (ok (mv (.d (eB false)))) ?_
        refine stGN 7616 rfl rfl rfl ?_
        refine st0 7680 rfl (ok (pick_f rfl _ (.d (eB false)))) ?_
        refine st0 7744 rfl (ok (mv (.d (eB false)))) ?_
        refine hK56 _ _ ?_
        simp only [thenK, blockK, keepE, updM, List.filter_cons, List.filter_nil, List.nil_append, List.cons_append, List.map_cons, List.map_nil, envE, Mem.get, Nat.reduceEqDiff, reduceIte, Option.isNone_none, Option.isNone_some, Bool.false_eq_true, List.length_cons, List.length_nil, Nat.reduceAdd, Nat.reduceMul]
        refine hK55 _ _ _ ?_
        refine rwp_ret ?_
        obtain rfl := Option.some.inj h
        try simp only [thenK, blockK, reduceIte]
        exact Or.inl (end_ok trivial (rs_t (v := .d (eB false)) rfl rs_nil) (en_d (to_d _) en_nil) ou_nil (by first | exact eok rfl rfl rfl rfl trivial | (refine eok ?_ ?_ ?_ ?_ ?_ <;> first | rfl | exact trivial | simp [retM, Mem.get, PV.renL, PV.ren, Blk.ren, comps, rhoR, rhoM, appN, PV.refsL, PV.refs, keys, nodupB, Blk.refs, allIn, Blk.bor])))
  · refine rwp_region fun K71 hK71 => ?_
    refine st0 192 rfl (ok (mv (.d ((eL 1 eU8) a0)))) ?_
    refine st0 256 rfl (ok (lenL _ _)) ?_
    refine st0 320 rfl (ok (gtrI _ (100 : Int))) ?_
    refine st0 384 rfl (ok (mv (.d (eB (decide ((100 : Int) < (a0.length : Int))))))) ?_
    rcases Bool.eq_false_or_eq_true ((decide ((100 : Int) < (a0.length : Int)))) with h72 | h72
    · replace h := ite_t h h72
      refine stGN 448 rfl rfl h72 ?_
      refine stGN 512 rfl rfl h72 ?_
      refine stGN 576 rfl rfl h72 ?_
      refine st0 640 rfl (ok (pick_t h72 (.d (eB true)) _)) ?_
      refine hK71 _ _ ?_
      simp only [thenK, blockK, keepE, updM, List.filter_cons, List.filter_nil, List.nil_append, List.cons_append, List.map_cons, List.map_nil, envE, Mem.get, Nat.reduceEqDiff, reduceIte, Option.isNone_none, Option.isNone_some, Bool.false_eq_true, List.length_cons, List.length_nil, Nat.reduceAdd, Nat.reduceMul]
      exact hK5 _ _ _ ⟨_, _, Settled.refl, _, _, ⟨_, h, rfl, rfl⟩, ⟨rfl, ⟨⟨rfl, rfl⟩, ⟨⟨rfl, rfl⟩, ⟨⟨rfl, rfl⟩, ⟨⟨rfl, rfl⟩, ⟨⟨rfl, rfl⟩, ⟨⟨rfl, rfl⟩, trivial⟩⟩⟩⟩⟩⟩, trivial⟩, rfl⟩
    · replace h := ite_f h h72
      refine stG (isF h72) ?_
      refine st0 448 rfl (ok (mv (.d ((eL 1 eU8) a1)))) ?_
      refine stG (isF h72) ?_
      refine st0 512 rfl (ok (lenL _ _)) ?_
      refine stG (isF h72) ?_
      refine st0 576 rfl (ok (gtrI _ (2000 : Int))) ?_
      refine st0 640 rfl (ok (pick_f h72 _ (.d (eB (decide ((2000 : Int) < (a1.length : Int))))))) ?_
      refine hK71 _ _ ?_
      simp only [thenK, blockK, keepE, updM, List.filter_cons, List.filter_nil, List.nil_append, List.cons_append, List.map_cons, List.map_nil, envE, Mem.get, Nat.reduceEqDiff, reduceIte, Option.isNone_none, Option.isNone_some, Bool.false_eq_true, List.length_cons, List.length_nil, Nat.reduceAdd, Nat.reduceMul]
      exact hK5 _ _ _ ⟨_, _, Settled.refl, _, _, ⟨_, h, rfl, rfl⟩, ⟨rfl, ⟨⟨rfl, rfl⟩, ⟨⟨rfl, rfl⟩, ⟨⟨rfl, rfl⟩, ⟨⟨rfl, rfl⟩, ⟨⟨rfl, rfl⟩, ⟨⟨rfl, rfl⟩, trivial⟩⟩⟩⟩⟩⟩, trivial⟩, rfl⟩

end Go.Proofs.Ty
