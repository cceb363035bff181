/- Each Go function comes to what its plain function says. PRINTED by a program of this session (ty.py). -/
import Derived.Test.YtkiffaadahpbkaaS12
set_option linter.unusedVariables false
set_option linter.unusedSimpArgs false
set_option maxHeartbeats 4000000
set_option maxRecDepth 10000
namespace Go.Proofs.Ty
open Go Go.RW Go.Proofs
/-- passkey/passkeylaw37.sum -/
def passkeylaw37sumH : Hints := ⟨[(0, [0, 1]), (1, [0, 1, 5]), (2, [0, 1, 5, 6]), (3, [0, 1, 5, 6, 13]), (5, [0, 1, 5, 6]), (4, [0, 1, 5, 6]), (6, [4])], []⟩
def passkeylaw37sumRc : RCode :=
  .seq (.region false [⟨some 4, .mv, [.k (.nil 1)], none, []⟩] [0, 1]) (.seq (.region false [⟨some 7, .mv, [.t 0], none, []⟩, ⟨some 8, .len, [.t 7], none, []⟩, ⟨some 9, .mks 1 false
  [.d (.int .u8 0)] 281474976710656, [.t 8, .t 8], none, []⟩, ⟨some 5, .mv, [.t 9], none, []⟩] [0, 1, 5]) (.seq (.seq (.region false [⟨some 6, .mv, [.k (.d (.int .i64 0))], none,
  []⟩] [0, 1, 5, 6]) (.block 0 (.loop [] (.seq (.seq (.region false [⟨some 10, .mv, [.t 6], none, []⟩, ⟨some 11, .mv, [.t 0], none, []⟩, ⟨some 12, .len, [.t 11], none, []⟩, ⟨some
  13, .bin .lss, [.t 10, .t 12], none, []⟩] [0, 1, 5, 6, 13]) (.cond (.t 13) .skip (.exit 0))) (.seq (.block 1 (.region true [⟨some 16, .mv, [.t 5], none, []⟩, ⟨some 17, .mv, [.t
  6], none, []⟩, ⟨some 18, .mv, [.t 0], none, []⟩, ⟨some 19, .mv, [.t 6], none, []⟩, ⟨some 20, .ia 1, [.t 18, .t 19], none, [2, 3]⟩, ⟨some 21, .load 1 false, [.t 20], none, [2, 3,
  4]⟩, ⟨some 22, .mv, [.t 1], none, []⟩, ⟨some 23, .mv, [.t 6], none, []⟩, ⟨some 24, .ia 1, [.t 22, .t 23], none, [6, 7]⟩, ⟨some 25, .load 1 false, [.t 24], none, [6, 7, 8]⟩, ⟨some
  26, .bin .xor, [.t 21, .t 25], none, [2, 3, 4, 5, 6, 7, 8, 9]⟩, ⟨some 27, .ia 1, [.t 16, .t 17], none, [0, 1, 2, 3, 4, 5, 6, 7, 8, 9, 10]⟩, ⟨none, .store 1, [.t 27, .t 26], none,
  [0, 1, 2, 3, 4, 5, 6, 7, 8, 9, 10, 11]⟩] [0, 1, 5, 6])) (.region false [⟨some 14, .mv, [.t 6], none, []⟩, ⟨some 15, .bin .add, [.t 14, .k (.d (.int .i64 1))], none, []⟩, ⟨some 6,
  .mv, [.t 15], none, []⟩] [0, 1, 5, 6])))))) (.seq (.region false [⟨some 28, .mv, [.t 5], none, []⟩, ⟨some 4, .mv, [.t 28], none, []⟩] [4]) .ret)))
def passkeylaw37sumRr : List RR := [.t 4]
theorem passkeylaw37sumC : compFn Try.prog 25 passkeylaw37sumH = some (passkeylaw37sumRc, passkeylaw37sumRr, 29) := by kernel_rfl
theorem passkeylaw37sumOK (a0 : List (BitVec 8)) (a1 : List (BitVec 8)) (res : List (BitVec 8)) (h : passkeylaw37sum a0 a1 = some res) : CallOK Try.prog 25 [.d ((eL 1 eU8) a0), .d ((eL 1 eU8) a1)] [] (.ref 0 res.length 0 res.length) [(0, .row true 1 (res.map eU8))] := by
  unfold passkeylaw37sum at h
  refine callOK passkeylaw37sumC fm rfl ?_
  simp only [initE, initM, nbor, List.map_cons, List.map_nil, Nat.reduceAdd]
  unfold passkeylaw37sumRc
  refine rwp_seq fun K1 hK1 => ?_
  refine rwp_region fun K2 hK2 => ?_
  refine st0 128 rfl (ok (mv (.nil 1))) ?_
  refine hK2 _ _ ?_
  simp only [thenK, blockK, keepE, updM, List.filter_cons, List.filter_nil, List.nil_append, List.cons_append, List.map_cons, List.map_nil, envE, Mem.get, Nat.reduceEqDiff, reduceIte, Option.isNone_none, Option.isNone_some, Bool.false_eq_true, List.length_cons, List.length_nil, Nat.reduceAdd, Nat.reduceMul]
  refine hK1 _ _ _ ?_
  refine rwp_seq fun K3 hK3 => ?_
  refine rwp_region fun K4 hK4 => ?_
  refine st0 192 rfl (ok (mv (.d ((eL 1 eU8) a0)))) ?_
  refine st0 256 rfl (ok (lenL _ _)) ?_
  obtain ⟨h5, h⟩ := asq_inv h
  refine st1 320 rfl (mem' := [(256, .row true 1 ((List.replicate (a0.length : Int).toNat 0#8).map eU8))]) (ok (mks1 (e := eU8) 0#8 rfl rfl h5)) rfl ?_
  refine st0 384 rfl (ok (mv (.ref 256 (((List.replicate (a0.length : Int).toNat 0#8)).length) 0 (((List.replicate (a0.length : Int).toNat 0#8)).length)))) ?_
  refine hK4 _ _ ?_
  simp only [thenK, blockK, keepE, updM, List.filter_cons, List.filter_nil, List.nil_append, List.cons_append, List.map_cons, List.map_nil, envE, Mem.get, Nat.reduceEqDiff, reduceIte, Option.isNone_none, Option.isNone_some, Bool.false_eq_true, List.length_cons, List.length_nil, Nat.reduceAdd, Nat.reduceMul]
  refine hK3 _ _ _ ?_
  refine rwp_join ([], []) 2176 (fun env mem => ∃ (v6 : List (BitVec 8)), passkeylaw37sumJ1 v6 = some res ∧ env = [(5, .ref 256 v6.length 0 v6.length)] ∧ mem = [(256, .row true 1 (v6.map eU8))]) (fun _ _ hI => ?_) (fun K7 hK7 => ?_)
  · obtain ⟨v6, h, rfl, rfl⟩ := hI
    unfold passkeylaw37sumJ1 at h
    refine rwp_seq fun K8 hK8 => ?_
    refine rwp_region fun K9 hK9 => ?_
    refine st0 2240 rfl (ok (mv (.ref 256 v6.length 0 v6.length))) ?_
    refine st0 2304 rfl (ok (mv (.ref 256 v6.length 0 v6.length))) ?_
    refine hK9 _ _ ?_
    simp only [thenK, blockK, keepE, updM, List.filter_cons, List.filter_nil, List.nil_append, List.cons_append, List.map_cons, List.map_nil, envE, Mem.get, Nat.reduceEqDiff, reduceIte, Option.isNone_none, Option.isNone_some, Bool.false_eq_true, List.length_cons, List.length_nil, Nat.reduceAdd, Nat.reduceMul]
    refine hK8 _ _ _ ?_
    refine rwp_ret ?_
    obtain rfl := Option.some.inj h
    try simp only [thenK, blockK, reduceIte]
    exact end_ok trivial (rs_t (v := .ref 256 v6.length 0 v6.length) rfl rs_nil) (en_ref en_nil) ou_nil (by first | exact eok rfl rfl rfl rfl (And.intro (And.intro rfl rfl) trivial) | (refine eok ?_ ?_ ?_ ?_ ?_ <;> first | rfl | exact (And.intro (And.intro rfl rfl) trivial) | simp [retM, Mem.get, PV.renL, PV.ren, Blk.ren, comps, rhoR, rhoM, appN, PV.refsL, PV.refs, keys, nodupB, Blk.refs, allIn, Blk.bor]))
  · refine rwp_seq fun K10 hK10 => ?_
    refine rwp_region fun K11 hK11 => ?_
    refine st0 448 rfl (ok (mv (.d (eI (0 : Int))))) ?_
    refine hK11 _ _ ?_
    simp only [thenK, blockK, keepE, updM, List.filter_cons, List.filter_nil, List.nil_append, List.cons_append, List.map_cons, List.map_nil, envE, Mem.get, Nat.reduceEqDiff, reduceIte, Option.isNone_none, Option.isNone_some, Bool.false_eq_true, List.length_cons, List.length_nil, Nat.reduceAdd, Nat.reduceMul]
    refine hK10 _ _ _ ?_
    refine rwp_block fun K12 hK12 => ?_
    refine rwp_loop ([], []) 1856 (fun k env mem => ∃ (v13 : List (BitVec 8)) (v14 : Int), passkeylaw37sumL2 a0 a1 k v13 v14 = some res ∧ env = [(0, .d ((eL 1 eU8) a0)), (1, .d ((eL 1 eU8) a1)), (5, .ref 256 v13.length 0 v13.length), (6, .d (eI v14))] ∧ mem = [(256, .row true 1 (v13.map eU8))]) FUEL ⟨_, _, Settled.refl, _, _, ⟨_, _, h, rfl, rfl⟩, ⟨rfl, ⟨⟨rfl, rfl⟩, ⟨⟨rfl, rfl⟩, ⟨⟨rfl, rfl⟩, ⟨⟨rfl, rfl⟩, trivial⟩⟩⟩⟩, ⟨⟨rfl, rfl⟩, trivial⟩⟩, rfl⟩ (fun k2 env1 mem1 hI K15 hK15 => ?_)
    obtain ⟨v13, v14, h, rfl, rfl⟩ := hI
    cases k2 with
    | zero => simp [passkeylaw37sumL2] at h
    | succ k2 =>
      rw [passkeylaw37sumL2] at h
      refine rwp_seq fun K16 hK16 => ?_
      refine rwp_seq fun K17 hK17 => ?_
      refine rwp_region fun K18 hK18 => ?_
      refine st0 1920 rfl (ok (mv (.d (eI v14)))) ?_
      refine st0 1984 rfl (ok (mv (.d ((eL 1 eU8) a0)))) ?_
      refine st0 2048 rfl (ok (lenL _ _)) ?_
      refine st0 2112 rfl (ok (lssI _ _)) ?_
      refine hK18 _ _ ?_
      simp only [thenK, blockK, keepE, updM, List.filter_cons, List.filter_nil, List.nil_append, List.cons_append, List.map_cons, List.map_nil, envE, Mem.get, Nat.reduceEqDiff, reduceIte, Option.isNone_none, Option.isNone_some, Bool.false_eq_true, List.length_cons, List.length_nil, Nat.reduceAdd, Nat.reduceMul]
      refine hK17 _ _ _ ?_
      rcases Bool.eq_false_or_eq_true ((decide (v14 < (a0.length : Int)))) with h19 | h19
      · replace h := ite_t h h19
        refine rwp_t (isT h19) ?_
        refine rwp_skip ?_
        refine hK16 _ _ _ ?_
        refine rwp_seq fun K20 hK20 => ?_
        refine rwp_block fun K21 hK21 => ?_
        refine rwp_draw fun K22 hK22 => ?_
        refine dr0 2176 rfl (ok (mv (.ref 256 v13.length 0 v13.length))) (by kernel_rfl) ?_
        refine dr0 2240 rfl (ok (mv (.d (eI v14)))) (by kernel_rfl) ?_
        refine dr0 2304 rfl (ok (mv (.d ((eL 1 eU8) a0)))) (by kernel_rfl) ?_
        refine dr0 2368 rfl (ok (mv (.d (eI v14)))) (by kernel_rfl) ?_
        obtain ⟨h23, h⟩ := asq_inv h
        refine dr0 2432 rfl (ok (iaL (e := eU8) (xs := a0) 0#8 h23)) (by kernel_rfl) ?_
        refine dr0 2496 rfl (ok (ld_i (v := eU8 (a0.getD v14.toNat 0#8)) rfl rfl)) (by kernel_rfl) ?_
        refine dr0 2560 rfl (ok (mv (.d ((eL 1 eU8) a1)))) (by kernel_rfl) ?_
        refine dr0 2624 rfl (ok (mv (.d (eI v14)))) (by kernel_rfl) ?_
        obtain ⟨h24, h⟩ := asq_inv h
        refine dr0 2688 rfl (ok (iaL (e := eU8) (xs := a1) 0#8 h24)) (by kernel_rfl) ?_
        refine dr0 2752 rfl (ok (ld_i (v := eU8 (a1.getD v14.toNat 0#8)) rfl rfl)) (by kernel_rfl) ?_
        refine dr0 2816 rfl (ok (xor8 _ _)) (by kernel_rfl) ?_
        obtain ⟨h25, h⟩ := asq_inv h
        refine dr0 2880 rfl (ok (iaR (xs := v13) (e := eU8) rfl rfl h25)) (by kernel_rfl) ?_
        refine drn 2944 rfl (mem' := [(256, .row true 1 ((v13.set (0 + v14.toNat) ((a0.getD v14.toNat 0#8) ^^^ (a1.getD v14.toNat 0#8))).map eU8))]) (ok (sto_r (e := eU8) (xs := v13) (y := ((a0.getD v14.toNat 0#8) ^^^ (a1.getD v14.toNat 0#8))) rfl rfl rfl)) rfl (by kernel_rfl) ?_
        refine hK22 _ _ ?_
        simp only [thenK, blockK, keepE, updM, List.filter_cons, List.filter_nil, List.nil_append, List.cons_append, List.map_cons, List.map_nil, envE, Mem.get, Nat.reduceEqDiff, reduceIte, Option.isNone_none, Option.isNone_some, Bool.false_eq_true, List.length_cons, List.length_nil, Nat.reduceAdd, Nat.reduceMul]
        refine hK21 _ _ _ ?_
        refine hK20 _ _ _ ?_
        refine rwp_region fun K26 hK26 => ?_
        refine st0 3008 rfl (ok (mv (.d (eI v14)))) ?_
        refine st0 3072 rfl (ok (addI _ (1 : Int))) ?_
        refine st0 3136 rfl (ok (mv (.d (eI (w64 (v14 + (1 : Int))))))) ?_
        refine hK26 _ _ ?_
        simp only [thenK, blockK, keepE, updM, List.filter_cons, List.filter_nil, List.nil_append, List.cons_append, List.map_cons, List.map_nil, envE, Mem.get, Nat.reduceEqDiff, reduceIte, Option.isNone_none, Option.isNone_some, Bool.false_eq_true, List.length_cons, List.length_nil, Nat.reduceAdd, Nat.reduceMul]
        exact hK15.out _ _ _ k2 (Nat.lt_succ_self k2) ⟨_, _, Settled.refl, _, _, ⟨_, _, h, rfl, rfl⟩, (by refine ⟨rfl, ⟨⟨?_, rfl⟩, ⟨⟨?_, rfl⟩, ⟨⟨?_, rfl⟩, ⟨⟨?_, rfl⟩, trivial⟩⟩⟩⟩, ⟨⟨?_, rfl⟩, trivial⟩⟩ <;> first | rfl | (exact refEq rfl (by simp) rfl (by simp)) | simp [envE, Mem.get, liftE, liftV, rhoOf, rhoE, rhoM, appN, PV.refs, PV.refsL, Blk.refs, PV.ren, PV.renL, Blk.ren]), rfl⟩
      · replace h := ite_f h h19
        refine rwp_f (isF h19) ?_
        refine rwp_exit ?_
        refine hK12 _ _ _ ?_
        exact hK7 _ _ _ ⟨_, _, Settled.refl, _, _, ⟨_, h, rfl, rfl⟩, ⟨rfl, ⟨⟨rfl, rfl⟩, trivial⟩, ⟨⟨rfl, rfl⟩, trivial⟩⟩, rfl⟩

end Go.Proofs.Ty
