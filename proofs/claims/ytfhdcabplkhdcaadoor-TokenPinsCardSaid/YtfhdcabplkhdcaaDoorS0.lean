/- Each Go function comes to what its plain function says. PRINTED by a program of this session (ty.py). -/
import Derived.Test.YtfhdcabplkhdcaaDoorProg
import Derived.Test.YtfhdcabplkhdcaaDoorF
import Derived.KernelRfl
set_option linter.unusedVariables false
set_option linter.unusedSimpArgs false
set_option maxHeartbeats 4000000
set_option maxRecDepth 10000
namespace Go.Proofs.Ty
open Go Go.RW Go.Proofs
open Go.RW renaming thenK → n0, blockK → n1, keepE → n2, updM → n3, envE → n4
open Go.RW.Mem renaming get → n5
open List renaming filter_cons → n6, filter_nil → n7, nil_append → n8, cons_append → n9, map_cons → n10, map_nil → n11, length_cons → n12, length_nil → n13
open Option renaming isNone_none → n14, isNone_some → n15
open Bool renaming false_eq_true → n16
open Nat renaming reduceEqDiff → n17, reduceAdd → n18, reduceMul → n19
theorem fm : Tryd.prog.follows .mixedOrders = true := by kernel_rfl
/-- passkey/digest.Words -/
def digestWordsH : Hints := ⟨[(0, [0]), (1, [0, 3]), (2, [3, 7, 8, 9]), (3, [3, 7, 8, 9, 10]), (4, [3, 5, 7, 8, 9]), (5, [3, 5, 7, 8, 9, 13]), (6, [3, 5, 7, 8, 9, 13, 14]), (7, [3, 5, 6, 7, 8, 9, 13]), (8, [3, 5, 7, 8, 9, 13]), (9, [3, 5, 7, 8, 9, 13]), (10, [3, 7, 8, 9]), (11, [2])], []⟩
def digestWordsRc : RCode :=
  .seq (.region false [⟨some 2, .mv, [.k (.nil 1)], none, []⟩] [0]) (.seq (.region false [⟨some 3, .mv, [.k (.nil 1)], none, []⟩] [0, 3]) (.seq (.seq (.region false [⟨some 7, .mv,
  [.t 0], none, []⟩, ⟨some 8, .len, [.t 7], none, []⟩, ⟨some 9, .mv, [.k (.d (.int .i64 0))], none, []⟩] [3, 7, 8, 9]) (.block 0 (.loop [] (.seq (.region false [⟨some 10, .bin
  .lss, [.t 9, .t 8], none, []⟩] [3, 7, 8, 9, 10]) (.seq (.cond (.t 10) .skip (.exit 0)) (.seq (.block 1 (.seq (.region false [⟨some 11, .ia 1, [.t 7, .t 9], none, []⟩, ⟨some 12,
  .load 1 false, [.t 11], none, []⟩, ⟨some 5, .mv, [.t 12], none, []⟩] [3, 5, 7, 8, 9]) (.seq (.region false [⟨some 13, .mv, [.k (.d (.int .i64 0))], none, []⟩] [3, 5, 7, 8, 9,
  13]) (.block 2 (.loop [] (.seq (.region false [⟨some 14, .bin .lss, [.t 13, .k (.d (.int .i64 8))], none, []⟩] [3, 5, 7, 8, 9, 13, 14]) (.seq (.cond (.t 14) .skip (.exit 2))
  (.seq (.block 3 (.seq (.region false [⟨some 15, .mv, [.t 13], none, []⟩, ⟨some 6, .mv, [.t 15], none, []⟩] [3, 5, 6, 7, 8, 9, 13]) (.region false [⟨some 16, .mv, [.t 3], none,
  []⟩, ⟨some 17, .mv, [.t 5], none, []⟩, ⟨some 18, .mv, [.t 6], none, []⟩, ⟨some 19, .bin .mul, [.k (.d (.int .i64 8)), .t 18], none, []⟩, ⟨some 20, .bin .sub, [.k (.d (.int .i64
  56)), .t 19], none, []⟩, ⟨some 21, .bin .shr, [.t 17, .t 20], none, []⟩, ⟨some 22, .cvt .u8, [.t 21], none, []⟩, ⟨some 23, .bslice 1 false 1 [.d (.int .u8 0)] [0], [.t 22], none,
  []⟩, ⟨some 24, .app 1 140737488355328, [.t 16, .t 23], none, []⟩, ⟨some 3, .mv, [.t 24], none, []⟩] [3, 5, 7, 8, 9, 13]))) (.region false [⟨some 25, .bin .add, [.t 13, .k (.d
  (.int .i64 1))], none, []⟩, ⟨some 13, .mv, [.t 25], none, []⟩] [3, 5, 7, 8, 9, 13]))))))))) (.region false [⟨some 26, .bin .add, [.t 9, .k (.d (.int .i64 1))], none, []⟩, ⟨some
  9, .mv, [.t 26], none, []⟩] [3, 7, 8, 9]))))))) (.seq (.region false [⟨some 27, .mv, [.t 3], none, []⟩, ⟨some 2, .mv, [.t 27], none, []⟩] [2]) .ret)))
def digestWordsRr : List RR := [.t 2]
theorem digestWordsC : compFn Tryd.prog 36 digestWordsH = some (digestWordsRc, digestWordsRr, 28) := by kernel_rfl
theorem digestWordsOK (a0 : List (BitVec 64)) (res : List (BitVec 8)) (h : digestWords a0 = some res) : CallOK Tryd.prog 36 [.d ((eL 1 eU64) a0)] [] (.ref 0 res.length 0 res.length) [(0, .row true 1 (res.map eU8))] := by
  unfold digestWords at h
  refine callOK digestWordsC fm rfl ?_
  simp only [initE, initM, nbor, List.map_cons, List.map_nil, Nat.reduceAdd]
  unfold digestWordsRc
  refine rwp_seq fun K1 hK1 => ?_
  refine rwp_region fun K2 hK2 => ?_
  refine st0 128 rfl (ok (mv (.nil 1))) ?_
  refine hK2 _ _ ?_
  simp only [n0, n1, n2, n3, n4, n5, n6, n7, n8, n9, n10, n11, n12, n13, n14, n15, n16, n17, n18, n19, reduceIte]
  refine hK1 _ _ _ ?_
  refine rwp_seq fun K3 hK3 => ?_
  refine rwp_region fun K4 hK4 => ?_
  refine st0 192 rfl (ok (mv (.nil 1))) ?_
  refine hK4 _ _ ?_
  simp only [n0, n1, n2, n3, n4, n5, n6, n7, n8, n9, n10, n11, n12, n13, n14, n15, n16, n17, n18, n19, reduceIte]
  refine hK3 _ _ _ ?_
  refine rwp_join ([], []) 2432 (fun env mem => ∃ (v5 : List (BitVec 8)), digestWordsJ1 v5 = some res ∧ env = [(3, .ref 2241 v5.length 0 v5.length)] ∧ mem = [(2241, .row true 1 (v5.map eU8))]) (fun _ _ hI => ?_) (fun K6 hK6 => ?_)
  · obtain ⟨v5, h, rfl, rfl⟩ := hI
    unfold digestWordsJ1 at h
    refine rwp_seq fun K7 hK7 => ?_
    refine rwp_region fun K8 hK8 => ?_
    refine st0 2496 rfl (ok (mv (.ref 2241 v5.length 0 v5.length))) ?_
    refine st0 2560 rfl (ok (mv (.ref 2241 v5.length 0 v5.length))) ?_
    refine hK8 _ _ ?_
    simp only [n0, n1, n2, n3, n4, n5, n6, n7, n8, n9, n10, n11, n12, n13, n14, n15, n16, n17, n18, n19, reduceIte]
    refine hK7 _ _ _ ?_
    refine rwp_ret ?_
    obtain rfl := Option.some.inj h
    try simp only [thenK, blockK, reduceIte]
    exact Or.inl (end_ok trivial (rs_t (v := .ref 2241 v5.length 0 v5.length) rfl rs_nil) (en_ref en_nil) ou_nil (by first | exact eok rfl rfl rfl rfl (And.intro (And.intro rfl rfl) trivial) | (refine eok ?_ ?_ ?_ ?_ ?_ <;> first | rfl | exact (And.intro (And.intro rfl rfl) trivial) | simp [retM, Mem.get, PV.renL, PV.ren, Blk.ren, comps, rhoR, rhoM, appN, PV.refsL, PV.refs, keys, nodupB, Blk.refs, allIn, Blk.bor])))
  · refine rwp_seq fun K9 hK9 => ?_
    refine rwp_region fun K10 hK10 => ?_
    refine st0 256 rfl (ok (mv (.d ((eL 1 eU64) a0)))) ?_
    refine st0 320 rfl (ok (lenL _ _)) ?_
    refine st0 384 rfl (ok (mv (.d (eI (0 : Int))))) ?_
    refine hK10 _ _ ?_
    simp only [n0, n1, n2, n3, n4, n5, n6, n7, n8, n9, n10, n11, n12, n13, n14, n15, n16, n17, n18, n19, reduceIte]
    refine hK9 _ _ _ ?_
    refine rwp_block fun K11 hK11 => ?_
    refine rwp_loop ([(3, 2241)], []) 2304 (fun k env mem => ∃ (v12 : List (BitVec 8)) (v13 : Int), digestWordsL2 a0 k v12 v13 = some res ∧ env = [(3, .ref 2241 v12.length 0 v12.length), (7, .d ((eL 1 eU64) a0)), (8, .d (eI (a0.length : Int))), (9, .d (eI v13))] ∧ mem = [(2241, .row true 1 (v12.map eU8))]) FUEL ⟨_, _, Settled.refl, _, _, ⟨_, _, h, rfl, rfl⟩, ⟨rfl, ⟨⟨rfl, rfl⟩, ⟨⟨rfl, rfl⟩, ⟨⟨rfl, rfl⟩, ⟨⟨rfl, rfl⟩, trivial⟩⟩⟩⟩, ⟨⟨rfl, rfl⟩, trivial⟩⟩, rfl⟩ (fun k2 env1 mem1 hI K14 hK14 => ?_)
    obtain ⟨v12, v13, h, rfl, rfl⟩ := hI
    cases k2 with
    | zero => simp [digestWordsL2] at h
    | succ k2 =>
      rw [digestWordsL2] at h
      refine rwp_seq fun K15 hK15 => ?_
      refine rwp_region fun K16 hK16 => ?_
      refine st0 2368 rfl (ok (lssI _ _)) ?_
      refine hK16 _ _ ?_
      simp only [n0, n1, n2, n3, n4, n5, n6, n7, n8, n9, n10, n11, n12, n13, n14, n15, n16, n17, n18, n19, reduceIte]
      refine hK15 _ _ _ ?_
      refine rwp_seq fun K17 hK17 => ?_
      rcases Bool.eq_false_or_eq_true ((decide (v13 < (a0.length : Int)))) with h18 | h18
      · replace h := ite_t h h18
        refine rwp_t (isT h18) ?_
        refine rwp_skip ?_
        refine hK17 _ _ _ ?_
        refine rwp_join ([], []) 3840 (fun env mem => ∃ (v19 : List (BitVec 8)), digestWordsJ3 (digestWordsL2 a0 k2) v13 v19 = some res ∧ env = [(3, .ref 2241 v19.length 0 v19.length), (7, .d ((eL 1 eU64) a0)), (8, .d (eI (a0.length : Int))), (9, .d (eI v13))] ∧ mem = [(2241, .row true 1 (v19.map eU8))]) (fun _ _ hI => ?_) (fun K20 hK20 => ?_)
        · obtain ⟨v19, h, rfl, rfl⟩ := hI
          unfold digestWordsJ3 at h
          refine rwp_region fun K21 hK21 => ?_
          refine st0 3904 rfl (ok (addI _ (1 : Int))) ?_
          refine st0 3968 rfl (ok (mv (.d (eI (w64 (v13 + (1 : Int))))))) ?_
          refine hK21 _ _ ?_
          simp only [n0, n1, n2, n3, n4, n5, n6, n7, n8, n9, n10, n11, n12, n13, n14, n15, n16, n17, n18, n19, reduceIte]
          exact hK14.out _ _ _ k2 (Nat.lt_succ_self k2) ⟨_, _, Settled.refl, _, _, ⟨_, _, h, rfl, rfl⟩, ⟨rfl, ⟨⟨rfl, rfl⟩, ⟨⟨rfl, rfl⟩, ⟨⟨rfl, rfl⟩, ⟨⟨rfl, rfl⟩, trivial⟩⟩⟩⟩, ⟨⟨rfl, rfl⟩, trivial⟩⟩, rfl⟩
        · refine rwp_block fun K22 hK22 => ?_
          refine rwp_seq fun K23 hK23 => ?_
          refine rwp_region fun K24 hK24 => ?_
          obtain ⟨h25, h⟩ := asq_inv h
          refine st0 2432 rfl (ok (iaL (e := eU64) (xs := a0) 0#64 h25)) ?_
          refine st0 2496 rfl (ok (ld_i (v := eU64 (a0.getD v13.toNat 0#64)) rfl rfl)) ?_
          refine st0 2560 rfl (ok (mv (.d (eU64 (a0.getD v13.toNat 0#64))))) ?_
          refine hK24 _ _ ?_
          simp only [n0, n1, n2, n3, n4, n5, n6, n7, n8, n9, n10, n11, n12, n13, n14, n15, n16, n17, n18, n19, reduceIte]
          refine hK23 _ _ _ ?_
          refine rwp_seq fun K26 hK26 => ?_
          refine rwp_region fun K27 hK27 => ?_
          refine st0 2624 rfl (ok (mv (.d (eI (0 : Int))))) ?_
          refine hK27 _ _ ?_
          simp only [n0, n1, n2, n3, n4, n5, n6, n7, n8, n9, n10, n11, n12, n13, n14, n15, n16, n17, n18, n19, reduceIte]
          refine hK26 _ _ _ ?_
          refine rwp_block fun K28 hK28 => ?_
          refine rwp_loop ([], []) 3712 (fun k env mem => ∃ (v29 : List (BitVec 8)) (v30 : Int), digestWordsL4 (digestWordsL2 a0 k2) a0 v13 k v29 v30 = some res ∧ env = [(3, .ref 2241 v29.length 0 v29.length), (5, .d (eU64 (a0.getD v13.toNat 0#64))), (7, .d ((eL 1 eU64) a0)), (8, .d (eI (a0.length : Int))), (9, .d (eI v13)), (13, .d (eI v30))] ∧ mem = [(2241, .row true 1 (v29.map eU8))]) FUEL ⟨_, _, Settled.refl, _, _, ⟨_, _, h, rfl, rfl⟩, ⟨rfl, ⟨⟨rfl, rfl⟩, ⟨⟨rfl, rfl⟩, ⟨⟨rfl, rfl⟩, ⟨⟨rfl, rfl⟩, ⟨⟨rfl, rfl⟩, ⟨⟨rfl, rfl⟩, trivial⟩⟩⟩⟩⟩⟩, ⟨⟨rfl, rfl⟩, trivial⟩⟩, rfl⟩ (fun k4 env1 mem1 hI K31 hK31 => ?_)
          obtain ⟨v29, v30, h, rfl, rfl⟩ := hI
          cases k4 with
          | zero => simp [digestWordsL4] at h
          | succ k4 =>
            rw [digestWordsL4] at h
            refine rwp_seq fun K32 hK32 => ?_
            refine rwp_region fun K33 hK33 => ?_
            refine st0 3776 rfl (ok (lssI _ (8 : Int))) ?_
            refine hK33 _ _ ?_
            simp only [n0, n1, n2, n3, n4, n5, n6, n7, n8, n9, n10, n11, n12, n13, n14, n15, n16, n17, n18, n19, reduceIte]
            refine hK32 _ _ _ ?_
            refine rwp_seq fun K34 hK34 => ?_
            rcases Bool.eq_false_or_eq_true ((decide (v30 < (8 : Int)))) with h35 | h35
            · replace h := ite_t h h35
              refine rwp_t (isT h35) ?_
              refine rwp_skip ?_
              refine hK34 _ _ _ ?_
              refine rwp_seq fun K36 hK36 => ?_
              refine rwp_block fun K37 hK37 => ?_
              refine rwp_seq fun K38 hK38 => ?_
              refine rwp_region fun K39 hK39 => ?_
              refine st0 3840 rfl (ok (mv (.d (eI v30)))) ?_
              refine st0 3904 rfl (ok (mv (.d (eI v30)))) ?_
              refine hK39 _ _ ?_
              simp only [n0, n1, n2, n3, n4, n5, n6, n7, n8, n9, n10, n11, n12, n13, n14, n15, n16, n17, n18, n19, reduceIte]
              refine hK38 _ _ _ ?_
              refine rwp_region fun K40 hK40 => ?_
              refine st0 3968 rfl (ok (mv (.ref 2241 v29.length 0 v29.length))) ?_
              refine st0 4032 rfl (ok (mv (.d (eU64 (a0.getD v13.toNat 0#64))))) ?_
              refine st0 4096 rfl (ok (mv (.d (eI v30)))) ?_
              refine st0 4160 rfl (ok (mulI (8 : Int) _)) ?_
              refine st0 4224 rfl (ok (subI (56 : Int) _)) ?_
              obtain ⟨h41, h⟩ := asq_inv h
              obtain ⟨v42, h43, h⟩ := lett_inv h
              refine st0e 4288 rfl (ok (shrI64 _ h41)) (congrArg (fun z => PV.d (eU64 z)) h43) ?_
              refine st0 4352 rfl (ok (cvt64_8 _)) ?_
              refine st1 4416 rfl (mem' := [(4352, .row true 1 (([(v42.setWidth 8)] : List (BitVec 8)).map eU8)), (2241, .row true 1 (v29.map eU8))]) (ok (bsl (e := eU8) (ys := ([(v42.setWidth 8)] : List (BitVec 8))) rfl rfl rfl)) rfl ?_
              obtain ⟨h44, h⟩ := asq_inv h
              refine st1 4480 rfl (mem' := [(2241, .row true 1 ((v29 ++ ([(v42.setWidth 8)] : List (BitVec 8))).map eU8)), (4352, .row true 1 (([(v42.setWidth 8)] : List (BitVec 8)).map eU8))]) (ok (appR (e := eU8) (xs := v29) (ys := ([(v42.setWidth 8)] : List (BitVec 8))) (contR (xs := ([(v42.setWidth 8)] : List (BitVec 8))) rfl rfl rfl) rfl rfl rfl h44)) rfl ?_
              refine st0 4544 rfl (ok (mv (.ref 2241 (((v29 ++ ([(v42.setWidth 8)] : List (BitVec 8)))).length) 0 (((v29 ++ ([(v42.setWidth 8)] : List (BitVec 8)))).length)))) ?_
              refine hK40 _ _ ?_
              simp only [n0, n1, n2, n3, n4, n5, n6, n7, n8, n9, n10, n11, n12, n13, n14, n15, n16, n17, n18, n19, reduceIte]
              refine hK37 _ _ _ ?_
              refine hK36 _ _ _ ?_
              refine rwp_region fun K45 hK45 => ?_
              refine st0 4608 rfl (ok (addI _ (1 : Int))) ?_
              refine st0 4672 rfl (ok (mv (.d (eI (w64 (v30 + (1 : Int))))))) ?_
              refine hK45 _ _ ?_
              simp only [n0, n1, n2, n3, n4, n5, n6, n7, n8, n9, n10, n11, n12, n13, n14, n15, n16, n17, n18, n19, reduceIte]
              exact hK31.out _ _ _ k4 (Nat.lt_succ_self k4) ⟨_, _, Settled.refl, _, _, ⟨_, _, h, rfl, rfl⟩, ⟨rfl, ⟨⟨rfl, rfl⟩, ⟨⟨rfl, rfl⟩, ⟨⟨rfl, rfl⟩, ⟨⟨rfl, rfl⟩, ⟨⟨rfl, rfl⟩, ⟨⟨rfl, rfl⟩, trivial⟩⟩⟩⟩⟩⟩, ⟨⟨rfl, rfl⟩, trivial⟩⟩, rfl⟩
            · replace h := ite_f h h35
              refine rwp_f (isF h35) ?_
              refine rwp_exit ?_
              refine hK28 _ _ _ ?_
              refine hK22 _ _ _ ?_
              exact hK20 _ _ _ ⟨_, _, Settled.refl, _, _, ⟨_, h, rfl, rfl⟩, ⟨rfl, ⟨⟨rfl, rfl⟩, ⟨⟨rfl, rfl⟩, ⟨⟨rfl, rfl⟩, ⟨⟨rfl, rfl⟩, trivial⟩⟩⟩⟩, ⟨⟨rfl, rfl⟩, trivial⟩⟩, rfl⟩
      · replace h := ite_f h h18
        refine rwp_f (isF h18) ?_
        refine rwp_exit ?_
        refine hK11 _ _ _ ?_
        exact hK6 _ _ _ ⟨_, _, Settled.refl, _, _, ⟨_, h, rfl, rfl⟩, ⟨rfl, ⟨⟨rfl, rfl⟩, trivial⟩, ⟨⟨rfl, rfl⟩, trivial⟩⟩, rfl⟩

/-- passkey/digest.little -/
def digestlittleH : Hints := ⟨[(0, [0]), (1, [0, 3]), (2, [3, 6, 7, 8]), (3, [3, 6, 7, 8, 9]), (4, [3, 4, 5, 6, 7, 8]), (5, [3, 6, 7, 8]), (6, [3, 6, 7, 8]), (7, [2])], []⟩
def digestlittleRc : RCode :=
  .seq (.region false [⟨some 2, .mv, [.k (.d (.int .u64 0))], none, []⟩] [0]) (.seq (.region false [⟨some 3, .mv, [.k (.d (.int .u64 0))], none, []⟩] [0, 3]) (.seq (.seq (.region
  false [⟨some 6, .mv, [.t 0], none, []⟩, ⟨some 7, .len, [.t 6], none, []⟩, ⟨some 8, .mv, [.k (.d (.int .i64 0))], none, []⟩] [3, 6, 7, 8]) (.block 0 (.loop [] (.seq (.region false
  [⟨some 9, .bin .lss, [.t 8, .t 7], none, []⟩] [3, 6, 7, 8, 9]) (.seq (.cond (.t 9) .skip (.exit 0)) (.seq (.block 1 (.seq (.region false [⟨some 10, .mv, [.t 8], none, []⟩, ⟨some
  11, .ia 1, [.t 6, .t 8], none, []⟩, ⟨some 12, .load 1 false, [.t 11], none, []⟩, ⟨some 4, .mv, [.t 10], none, []⟩, ⟨some 5, .mv, [.t 12], none, []⟩] [3, 4, 5, 6, 7, 8]) (.region
  false [⟨some 13, .mv, [.t 3], none, []⟩, ⟨some 14, .mv, [.t 5], none, []⟩, ⟨some 15, .cvt .u64, [.t 14], none, []⟩, ⟨some 16, .mv, [.t 4], none, []⟩, ⟨some 17, .bin .mul, [.k (.d
  (.int .i64 8)), .t 16], none, []⟩, ⟨some 18, .bin .shl, [.t 15, .t 17], none, []⟩, ⟨some 19, .bin .or, [.t 13, .t 18], none, []⟩, ⟨some 3, .mv, [.t 19], none, []⟩] [3, 6, 7,
  8]))) (.region false [⟨some 20, .bin .add, [.t 8, .k (.d (.int .i64 1))], none, []⟩, ⟨some 8, .mv, [.t 20], none, []⟩] [3, 6, 7, 8]))))))) (.seq (.region false [⟨some 21, .mv,
  [.t 3], none, []⟩, ⟨some 2, .mv, [.t 21], none, []⟩] [2]) .ret)))
def digestlittleRr : List RR := [.t 2]
theorem digestlittleC : compFn Tryd.prog 60 digestlittleH = some (digestlittleRc, digestlittleRr, 22) := by kernel_rfl
theorem digestlittleOK (a0 : List (BitVec 8)) (res : BitVec 64) (h : digestlittle a0 = some res) : CallOK Tryd.prog 60 [.d ((eL 1 eU8) a0)] [] (.d (eU64 res)) [] := by
  unfold digestlittle at h
  refine callOK digestlittleC fm rfl ?_
  simp only [initE, initM, nbor, List.map_cons, List.map_nil, Nat.reduceAdd]
  unfold digestlittleRc
  refine rwp_seq fun K1 hK1 => ?_
  refine rwp_region fun K2 hK2 => ?_
  refine st0 128 rfl (ok (mv (.d (eU64 (0#64))))) ?_
  refine hK2 _ _ ?_
  simp only [n0, n1, n2, n3, n4, n5, n6, n7, n8, n9, n10, n11, n12, n13, n14, n15, n16, n17, n18, n19, reduceIte]
  refine hK1 _ _ _ ?_
  refine rwp_seq fun K3 hK3 => ?_
  refine rwp_region fun K4 hK4 => ?_
  refine st0 192 rfl (ok (mv (.d (eU64 (0#64))))) ?_
  refine hK4 _ _ ?_
  simp only [n0, n1, n2, n3, n4, n5, n6, n7, n8, n9, n10, n11, n12, n13, n14, n15, n16, n17, n18, n19, reduceIte]
  refine hK3 _ _ _ ?_
  refine rwp_join ([], []) 1664 (fun env mem => ∃ (v5 : BitVec 64), digestlittleJ1 v5 = some res ∧ env = [(3, .d (eU64 v5))] ∧ mem = []) (fun _ _ hI => ?_) (fun K6 hK6 => ?_)
  · obtain ⟨v5, h, rfl, rfl⟩ := hI
    unfold digestlittleJ1 at h
    refine rwp_seq fun K7 hK7 => ?_
    refine rwp_region fun K8 hK8 => ?_
    refine st0 1728 rfl (ok (mv (.d (eU64 v5)))) ?_
    refine st0 1792 rfl (ok (mv (.d (eU64 v5)))) ?_
    refine hK8 _ _ ?_
    simp only [n0, n1, n2, n3, n4, n5, n6, n7, n8, n9, n10, n11, n12, n13, n14, n15, n16, n17, n18, n19, reduceIte]
    refine hK7 _ _ _ ?_
    refine rwp_ret ?_
    obtain rfl := Option.some.inj h
    try simp only [thenK, blockK, reduceIte]
    exact Or.inl (end_ok trivial (rs_t (v := .d (eU64 v5)) rfl rs_nil) (en_d (to_d _) en_nil) ou_nil (by first | exact eok rfl rfl rfl rfl trivial | (refine eok ?_ ?_ ?_ ?_ ?_ <;> first | rfl | exact trivial | simp [retM, Mem.get, PV.renL, PV.ren, Blk.ren, comps, rhoR, rhoM, appN, PV.refsL, PV.refs, keys, nodupB, Blk.refs, allIn, Blk.bor])))
  · refine rwp_seq fun K9 hK9 => ?_
    refine rwp_region fun K10 hK10 => ?_
    refine st0 256 rfl (ok (mv (.d ((eL 1 eU8) a0)))) ?_
    refine st0 320 rfl (ok (lenL _ _)) ?_
    refine st0 384 rfl (ok (mv (.d (eI (0 : Int))))) ?_
    refine hK10 _ _ ?_
    simp only [n0, n1, n2, n3, n4, n5, n6, n7, n8, n9, n10, n11, n12, n13, n14, n15, n16, n17, n18, n19, reduceIte]
    refine hK9 _ _ _ ?_
    refine rwp_block fun K11 hK11 => ?_
    refine rwp_loop ([], []) 1536 (fun k env mem => ∃ (v12 : BitVec 64) (v13 : Int), digestlittleL2 a0 k v12 v13 = some res ∧ env = [(3, .d (eU64 v12)), (6, .d ((eL 1 eU8) a0)), (7, .d (eI (a0.length : Int))), (8, .d (eI v13))] ∧ mem = []) FUEL ⟨_, _, Settled.refl, _, _, ⟨_, _, h, rfl, rfl⟩, ⟨rfl, ⟨⟨rfl, rfl⟩, ⟨⟨rfl, rfl⟩, ⟨⟨rfl, rfl⟩, ⟨⟨rfl, rfl⟩, trivial⟩⟩⟩⟩, trivial⟩, rfl⟩ (fun k2 env1 mem1 hI K14 hK14 => ?_)
    obtain ⟨v12, v13, h, rfl, rfl⟩ := hI
    cases k2 with
    | zero => simp [digestlittleL2] at h
    | succ k2 =>
      rw [digestlittleL2] at h
      refine rwp_seq fun K15 hK15 => ?_
      refine rwp_region fun K16 hK16 => ?_
      refine st0 1600 rfl (ok (lssI _ _)) ?_
      refine hK16 _ _ ?_
      simp only [n0, n1, n2, n3, n4, n5, n6, n7, n8, n9, n10, n11, n12, n13, n14, n15, n16, n17, n18, n19, reduceIte]
      refine hK15 _ _ _ ?_
      refine rwp_seq fun K17 hK17 => ?_
      rcases Bool.eq_false_or_eq_true ((decide (v13 < (a0.length : Int)))) with h18 | h18
      · replace h := ite_t h h18
        refine rwp_t (isT h18) ?_
        refine rwp_skip ?_
        refine hK17 _ _ _ ?_
        refine rwp_seq fun K19 hK19 => ?_
        refine rwp_block fun K20 hK20 => ?_
        refine rwp_seq fun K21 hK21 => ?_
        refine rwp_region fun K22 hK22 => ?_
        refine st0 1664 rfl (ok (mv (.d (eI v13)))) ?_
        obtain ⟨h23, h⟩ := asq_inv h
        refine st0 1728 rfl (ok (iaL (e := eU8) (xs := a0) 0#8 h23)) ?_
        refine st0 1792 rfl (ok (ld_i (v := eU8 (a0.getD v13.toNat 0#8)) rfl rfl)) ?_
        refine st0 1856 rfl (ok (mv (.d (eI v13)))) ?_
        refine st0 1920 rfl (ok (mv (.d (eU8 (a0.getD v13.toNat 0#8))))) ?_
        refine hK22 _ _ ?_
        simp only [n0, n1, n2, n3, n4, n5, n6, n7, n8, n9, n10, n11, n12, n13, n14, n15, n16, n17, n18, n19, reduceIte]
        refine hK21 _ _ _ ?_
        refine rwp_region fun K24 hK24 => ?_
        refine st0 1984 rfl (ok (mv (.d (eU64 v12)))) ?_
        refine st0 2048 rfl (ok (mv (.d (eU8 (a0.getD v13.toNat 0#8))))) ?_
        refine st0 2112 rfl (ok (cvt8_64 _)) ?_
        refine st0 2176 rfl (ok (mv (.d (eI v13)))) ?_
        refine st0 2240 rfl (ok (mulI (8 : Int) _)) ?_
        obtain ⟨h25, h⟩ := asq_inv h
        obtain ⟨v26, h27, h⟩ := lett_inv h
        refine st0e 2304 rfl (ok (shlI64 _ h25)) (congrArg (fun z => PV.d (eU64 z)) h27) ?_
        refine st0 2368 rfl (ok (or64 _ _)) ?_
        refine st0 2432 rfl (ok (mv (.d (eU64 (v12 ||| v26))))) ?_
        refine hK24 _ _ ?_
        simp only [n0, n1, n2, n3, n4, n5, n6, n7, n8, n9, n10, n11, n12, n13, n14, n15, n16, n17, n18, n19, reduceIte]
        refine hK20 _ _ _ ?_
        refine hK19 _ _ _ ?_
        refine rwp_region fun K28 hK28 => ?_
        refine st0 2496 rfl (ok (addI _ (1 : Int))) ?_
        refine st0 2560 rfl (ok (mv (.d (eI (w64 (v13 + (1 : Int))))))) ?_
        refine hK28 _ _ ?_
        simp only [n0, n1, n2, n3, n4, n5, n6, n7, n8, n9, n10, n11, n12, n13, n14, n15, n16, n17, n18, n19, reduceIte]
        exact hK14.out _ _ _ k2 (Nat.lt_succ_self k2) ⟨_, _, Settled.refl, _, _, ⟨_, _, h, rfl, rfl⟩, ⟨rfl, ⟨⟨rfl, rfl⟩, ⟨⟨rfl, rfl⟩, ⟨⟨rfl, rfl⟩, ⟨⟨rfl, rfl⟩, trivial⟩⟩⟩⟩, trivial⟩, rfl⟩
      · replace h := ite_f h h18
        refine rwp_f (isF h18) ?_
        refine rwp_exit ?_
        refine hK11 _ _ _ ?_
        exact hK6 _ _ _ ⟨_, _, Settled.refl, _, _, ⟨_, h, rfl, rfl⟩, ⟨rfl, ⟨⟨rfl, rfl⟩, trivial⟩, trivial⟩, rfl⟩

/-- math/bits.RotateLeft64 -/
def bitsRotateLeft64H : Hints := ⟨[(0, [0, 1]), (1, [0, 5]), (2, [4])], []⟩
def bitsRotateLeft64Rc : RCode :=
  .seq (.region false [⟨some 4, .mv, [.k (.d (.int .u64 0))], none, []⟩] [0, 1]) (.seq (.region false [⟨some 6, .mv, [.t 1], none, []⟩, ⟨some 7, .cvt .u64, [.t 6], none, []⟩, ⟨some
  8, .bin .and, [.t 7, .k (.d (.int .u64 63))], none, []⟩, ⟨some 5, .mv, [.t 8], none, []⟩] [0, 5]) (.seq (.region false [⟨some 9, .mv, [.t 0], none, []⟩, ⟨some 10, .mv, [.t 5],
  none, []⟩, ⟨some 11, .bin .shl, [.t 9, .t 10], none, []⟩, ⟨some 12, .mv, [.t 0], none, []⟩, ⟨some 13, .mv, [.t 5], none, []⟩, ⟨some 14, .bin .sub, [.k (.d (.int .u64 64)), .t
  13], none, []⟩, ⟨some 15, .bin .shr, [.t 12, .t 14], none, []⟩, ⟨some 16, .bin .or, [.t 11, .t 15], none, []⟩, ⟨some 4, .mv, [.t 16], none, []⟩] [4]) .ret))
def bitsRotateLeft64Rr : List RR := [.t 4]
theorem bitsRotateLeft64C : compFn Tryd.prog 68 bitsRotateLeft64H = some (bitsRotateLeft64Rc, bitsRotateLeft64Rr, 17) := by kernel_rfl
theorem bitsRotateLeft64OK (a0 : BitVec 64) (a1 : Int) (res : BitVec 64) (h : bitsRotateLeft64 a0 a1 = some res) : CallOK Tryd.prog 68 [.d (eU64 a0), .d (eI a1)] [] (.d (eU64 res)) [] := by
  unfold bitsRotateLeft64 at h
  refine callOK bitsRotateLeft64C fm rfl ?_
  simp only [initE, initM, nbor, List.map_cons, List.map_nil, Nat.reduceAdd]
  unfold bitsRotateLeft64Rc
  refine rwp_seq fun K1 hK1 => ?_
  refine rwp_region fun K2 hK2 => ?_
  refine st0 128 rfl (ok (mv (.d (eU64 (0#64))))) ?_
  refine hK2 _ _ ?_
  simp only [n0, n1, n2, n3, n4, n5, n6, n7, n8, n9, n10, n11, n12, n13, n14, n15, n16, n17, n18, n19, reduceIte]
  refine hK1 _ _ _ ?_
  refine rwp_seq fun K3 hK3 => ?_
  refine rwp_region fun K4 hK4 => ?_
  refine st0 192 rfl (ok (mv (.d (eI a1)))) ?_
  refine st0 256 rfl (ok (ofI64 _ a1)) ?_
  refine st0 320 rfl (ok (and64 _ (63#64))) ?_
  refine st0 384 rfl (ok (mv (.d (eU64 ((BitVec.ofInt 64 a1) &&& (63#64)))))) ?_
  refine hK4 _ _ ?_
  simp only [n0, n1, n2, n3, n4, n5, n6, n7, n8, n9, n10, n11, n12, n13, n14, n15, n16, n17, n18, n19, reduceIte]
  refine hK3 _ _ _ ?_
  refine rwp_seq fun K5 hK5 => ?_
  refine rwp_region fun K6 hK6 => ?_
  refine st0 448 rfl (ok (mv (.d (eU64 a0)))) ?_
  refine st0 512 rfl (ok (mv (.d (eU64 ((BitVec.ofInt 64 a1) &&& (63#64)))))) ?_
  refine st0 576 rfl (ok (shl64_64 _ _)) ?_
  refine st0 640 rfl (ok (mv (.d (eU64 a0)))) ?_
  refine st0 704 rfl (ok (mv (.d (eU64 ((BitVec.ofInt 64 a1) &&& (63#64)))))) ?_
  refine st0 768 rfl (ok (sub64 (64#64) _)) ?_
  obtain ⟨v7, h8, h⟩ := lett_inv h
  refine st0e 832 rfl (ok (shr64_64 _ _)) (congrArg (fun z => PV.d (eU64 z)) h8) ?_
  refine st0 896 rfl (ok (or64 _ _)) ?_
  refine st0 960 rfl (ok (mv (.d (eU64 ((a0 <<< ((BitVec.ofInt 64 a1) &&& (63#64)).toNat) ||| v7))))) ?_
  refine hK6 _ _ ?_
  simp only [n0, n1, n2, n3, n4, n5, n6, n7, n8, n9, n10, n11, n12, n13, n14, n15, n16, n17, n18, n19, reduceIte]
  refine hK5 _ _ _ ?_
  refine rwp_ret ?_
  obtain rfl := Option.some.inj h
  try simp only [thenK, blockK, reduceIte]
  exact Or.inl (end_ok trivial (rs_t (v := .d (eU64 ((a0 <<< ((BitVec.ofInt 64 a1) &&& (63#64)).toNat) ||| v7))) rfl rs_nil) (en_d (to_d _) en_nil) ou_nil (by first | exact eok rfl rfl rfl rfl trivial | (refine eok ?_ ?_ ?_ ?_ ?_ <;> first | rfl | exact trivial | simp [retM, Mem.get, PV.renL, PV.ren, Blk.ren, comps, rhoR, rhoM, appN, PV.refsL, PV.refs, keys, nodupB, Blk.refs, allIn, Blk.bor])))

/-- (*passkey/digest.state).round -/
def digeststateroundH : Hints := ⟨[(0, [0, 4, 5]), (1, [0, 4, 5, 6]), (2, [0, 4, 5]), (3, [0, 4, 5]), (4, [0, 4, 5]), (5, [0, 4, 5]), (6, [0, 4, 5]), (7, [0, 4, 5]), (8, [0, 4, 5]), (9, [0, 4, 5]), (10, [0, 4, 5]), (11, [0, 4, 5]), (12, [0, 4, 5])], []⟩
def digeststateroundRc : RCode :=
  .seq (.region false [⟨some 4, .mv, [.t 1], none, []⟩, ⟨some 5, .mv, [.k (.d (.int .i64 0))], none, []⟩] [0, 4, 5]) (.block 0 (.loop [] (.seq (.region false [⟨some 6, .bin .lss, [.t
  5, .t 4], none, []⟩] [0, 4, 5, 6]) (.seq (.cond (.t 6) .skip (.exit 0)) (.seq (.block 1 (.seq (.region true [⟨some 7, .mv, [.t 0], none, []⟩, ⟨some 8, .chk, [.t 7], none, [0]⟩,
  ⟨some 9, .fa 0, [.t 8], none, [0, 1]⟩, ⟨some 10, .load 1 false, [.t 9], none, [0, 1, 2]⟩, ⟨some 11, .mv, [.t 0], none, []⟩, ⟨some 12, .chk, [.t 11], none, [4]⟩, ⟨some 13, .fa 1,
  [.t 12], none, [4, 5]⟩, ⟨some 14, .load 1 false, [.t 13], none, [4, 5, 6]⟩, ⟨some 15, .bin .add, [.t 10, .t 14], none, [0, 1, 2, 3, 4, 5, 6, 7]⟩, ⟨some 16, .chk, [.t 7], none,
  [0, 1, 2, 3, 4, 5, 6, 7, 8]⟩, ⟨some 17, .fa 0, [.t 16], none, [0, 1, 2, 3, 4, 5, 6, 7, 8, 9]⟩, ⟨none, .store 1, [.t 17, .t 15], none, [0, 1, 2, 3, 4, 5, 6, 7, 8, 9, 10]⟩] [0, 4,
  5]) (.seq (.region true [⟨some 18, .mv, [.t 0], none, []⟩, ⟨some 19, .mv, [.t 0], none, []⟩, ⟨some 20, .chk, [.t 19], none, [1]⟩, ⟨some 21, .fa 1, [.t 20], none, [1, 2]⟩, ⟨some
  22, .load 1 false, [.t 21], none, [1, 2, 3]⟩, ⟨some 23, .call 68 false, [.t 22, .k (.d (.int .i64 13))], none, [1, 2, 3, 4]⟩, ⟨some 24, .mv, [.t 0], none, []⟩, ⟨some 25, .chk,
  [.t 24], none, [6]⟩, ⟨some 26, .fa 0, [.t 25], none, [6, 7]⟩, ⟨some 27, .load 1 false, [.t 26], none, [6, 7, 8]⟩, ⟨some 28, .bin .xor, [.t 23, .t 27], none, [1, 2, 3, 4, 5, 6, 7,
  8, 9]⟩, ⟨some 29, .chk, [.t 18], none, [0, 1, 2, 3, 4, 5, 6, 7, 8, 9, 10]⟩, ⟨some 30, .fa 1, [.t 29], none, [0, 1, 2, 3, 4, 5, 6, 7, 8, 9, 10, 11]⟩, ⟨none, .store 1, [.t 30, .t
  28], none, [0, 1, 2, 3, 4, 5, 6, 7, 8, 9, 10, 11, 12]⟩] [0, 4, 5]) (.seq (.region false [⟨some 31, .mv, [.t 0], none, []⟩, ⟨some 32, .mv, [.t 0], none, []⟩, ⟨some 33, .chk, [.t
  32], none, []⟩, ⟨some 34, .fa 0, [.t 33], none, []⟩, ⟨some 35, .load 1 false, [.t 34], none, []⟩, ⟨some 36, .call 68 false, [.t 35, .k (.d (.int .i64 32))], none, []⟩, ⟨some 37,
  .chk, [.t 31], none, []⟩, ⟨some 38, .fa 0, [.t 37], none, []⟩, ⟨none, .store 1, [.t 38, .t 36], none, []⟩] [0, 4, 5]) (.seq (.region true [⟨some 39, .mv, [.t 0], none, []⟩, ⟨some
  40, .chk, [.t 39], none, [0]⟩, ⟨some 41, .fa 2, [.t 40], none, [0, 1]⟩, ⟨some 42, .load 1 false, [.t 41], none, [0, 1, 2]⟩, ⟨some 43, .mv, [.t 0], none, []⟩, ⟨some 44, .chk, [.t
  43], none, [4]⟩, ⟨some 45, .fa 3, [.t 44], none, [4, 5]⟩, ⟨some 46, .load 1 false, [.t 45], none, [4, 5, 6]⟩, ⟨some 47, .bin .add, [.t 42, .t 46], none, [0, 1, 2, 3, 4, 5, 6,
  7]⟩, ⟨some 48, .chk, [.t 39], none, [0, 1, 2, 3, 4, 5, 6, 7, 8]⟩, ⟨some 49, .fa 2, [.t 48], none, [0, 1, 2, 3, 4, 5, 6, 7, 8, 9]⟩, ⟨none, .store 1, [.t 49, .t 47], none, [0, 1,
  2, 3, 4, 5, 6, 7, 8, 9, 10]⟩] [0, 4, 5]) (.seq (.region true [⟨some 50, .mv, [.t 0], none, []⟩, ⟨some 51, .mv, [.t 0], none, []⟩, ⟨some 52, .chk, [.t 51], none, [1]⟩, ⟨some 53,
  .fa 3, [.t 52], none, [1, 2]⟩, ⟨some 54, .load 1 false, [.t 53], none, [1, 2, 3]⟩, ⟨some 55, .call 68 false, [.t 54, .k (.d (.int .i64 16))], none, [1, 2, 3, 4]⟩, ⟨some 56, .mv,
  [.t 0], none, []⟩, ⟨some 57, .chk, [.t 56], none, [6]⟩, ⟨some 58, .fa 2, [.t 57], none, [6, 7]⟩, ⟨some 59, .load 1 false, [.t 58], none, [6, 7, 8]⟩, ⟨some 60, .bin .xor, [.t 55,
  .t 59], none, [1, 2, 3, 4, 5, 6, 7, 8, 9]⟩, ⟨some 61, .chk, [.t 50], none, [0, 1, 2, 3, 4, 5, 6, 7, 8, 9, 10]⟩, ⟨some 62, .fa 3, [.t 61], none, [0, 1, 2, 3, 4, 5, 6, 7, 8, 9, 10,
  11]⟩, ⟨none, .store 1, [.t 62, .t 60], none, [0, 1, 2, 3, 4, 5, 6, 7, 8, 9, 10, 11, 12]⟩] [0, 4, 5]) (.seq (.region true [⟨some 63, .mv, [.t 0], none, []⟩, ⟨some 64, .chk, [.t
  63], none, [0]⟩, ⟨some 65, .fa 0, [.t 64], none, [0, 1]⟩, ⟨some 66, .load 1 false, [.t 65], none, [0, 1, 2]⟩, ⟨some 67, .mv, [.t 0], none, []⟩, ⟨some 68, .chk, [.t 67], none,
  [4]⟩, ⟨some 69, .fa 3, [.t 68], none, [4, 5]⟩, ⟨some 70, .load 1 false, [.t 69], none, [4, 5, 6]⟩, ⟨some 71, .bin .add, [.t 66, .t 70], none, [0, 1, 2, 3, 4, 5, 6, 7]⟩, ⟨some 72,
  .chk, [.t 63], none, [0, 1, 2, 3, 4, 5, 6, 7, 8]⟩, ⟨some 73, .fa 0, [.t 72], none, [0, 1, 2, 3, 4, 5, 6, 7, 8, 9]⟩, ⟨none, .store 1, [.t 73, .t 71], none, [0, 1, 2, 3, 4, 5, 6,
  7, 8, 9, 10]⟩] [0, 4, 5]) (.seq (.region true [⟨some 74, .mv, [.t 0], none, []⟩, ⟨some 75, .mv, [.t 0], none, []⟩, ⟨some 76, .chk, [.t 75], none, [1]⟩, ⟨some 77, .fa 3, [.t 76],
  none, [1, 2]⟩, ⟨some 78, .load 1 false, [.t 77], none, [1, 2, 3]⟩, ⟨some 79, .call 68 false, [.t 78, .k (.d (.int .i64 21))], none, [1, 2, 3, 4]⟩, ⟨some 80, .mv, [.t 0], none,
  []⟩, ⟨some 81, .chk, [.t 80], none, [6]⟩, ⟨some 82, .fa 0, [.t 81], none, [6, 7]⟩, ⟨some 83, .load 1 false, [.t 82], none, [6, 7, 8]⟩, ⟨some 84, .bin .xor, [.t 79, .t 83], none,
  [1, 2, 3, 4, 5, 6, 7, 8, 9]⟩, ⟨some 85, .chk, [.t 74], none, [0, 1, 2, 3, 4, 5, 6, 7, 8, 9, 10]⟩, ⟨some 86, .fa 3, [.t 85], none, [0, 1, 2, 3, 4, 5, 6, 7, 8, 9, 10, 11]⟩, ⟨none,
  .store 1, [.t 86, .t 84], none, [0, 1, 2, 3, 4, 5, 6, 7, 8, 9, 10, 11, 12]⟩] [0, 4, 5]) (.seq (.region true [⟨some 87, .mv, [.t 0], none, []⟩, ⟨some 88, .chk, [.t 87], none,
  [0]⟩, ⟨some 89, .fa 2, [.t 88], none, [0, 1]⟩, ⟨some 90, .load 1 false, [.t 89], none, [0, 1, 2]⟩, ⟨some 91, .mv, [.t 0], none, []⟩, ⟨some 92, .chk, [.t 91], none, [4]⟩, ⟨some
  93, .fa 1, [.t 92], none, [4, 5]⟩, ⟨some 94, .load 1 false, [.t 93], none, [4, 5, 6]⟩, ⟨some 95, .bin .add, [.t 90, .t 94], none, [0, 1, 2, 3, 4, 5, 6, 7]⟩, ⟨some 96, .chk, [.t
  87], none, [0, 1, 2, 3, 4, 5, 6, 7, 8]⟩, ⟨some 97, .fa 2, [.t 96], none, [0, 1, 2, 3, 4, 5, 6, 7, 8, 9]⟩, ⟨none, .store 1, [.t 97, .t 95], none, [0, 1, 2, 3, 4, 5, 6, 7, 8, 9,
  10]⟩] [0, 4, 5]) (.seq (.region true [⟨some 98, .mv, [.t 0], none, []⟩, ⟨some 99, .mv, [.t 0], none, []⟩, ⟨some 100, .chk, [.t 99], none, [1]⟩, ⟨some 101, .fa 1, [.t 100], none,
  [1, 2]⟩, ⟨some 102, .load 1 false, [.t 101], none, [1, 2, 3]⟩, ⟨some 103, .call 68 false, [.t 102, .k (.d (.int .i64 17))], none, [1, 2, 3, 4]⟩, ⟨some 104, .mv, [.t 0], none,
  []⟩, ⟨some 105, .chk, [.t 104], none, [6]⟩, ⟨some 106, .fa 2, [.t 105], none, [6, 7]⟩, ⟨some 107, .load 1 false, [.t 106], none, [6, 7, 8]⟩, ⟨some 108, .bin .xor, [.t 103, .t
  107], none, [1, 2, 3, 4, 5, 6, 7, 8, 9]⟩, ⟨some 109, .chk, [.t 98], none, [0, 1, 2, 3, 4, 5, 6, 7, 8, 9, 10]⟩, ⟨some 110, .fa 1, [.t 109], none, [0, 1, 2, 3, 4, 5, 6, 7, 8, 9,
  10, 11]⟩, ⟨none, .store 1, [.t 110, .t 108], none, [0, 1, 2, 3, 4, 5, 6, 7, 8, 9, 10, 11, 12]⟩] [0, 4, 5]) (.region false [⟨some 111, .mv, [.t 0], none, []⟩, ⟨some 112, .mv, [.t
  0], none, []⟩, ⟨some 113, .chk, [.t 112], none, []⟩, ⟨some 114, .fa 2, [.t 113], none, []⟩, ⟨some 115, .load 1 false, [.t 114], none, []⟩, ⟨some 116, .call 68 false, [.t 115, .k
  (.d (.int .i64 32))], none, []⟩, ⟨some 117, .chk, [.t 111], none, []⟩, ⟨some 118, .fa 2, [.t 117], none, []⟩, ⟨none, .store 1, [.t 118, .t 116], none, []⟩] [0, 4, 5])))))))))))
  (.region false [⟨some 119, .bin .add, [.t 5, .k (.d (.int .i64 1))], none, []⟩, ⟨some 5, .mv, [.t 119], none, []⟩] [0, 4, 5]))))))
def digeststateroundRr : List RR := []
theorem digeststateroundC : compFn Tryd.prog 61 digeststateroundH = some (digeststateroundRc, digeststateroundRr, 120) := by kernel_rfl
theorem digeststateroundOK (a0 : TDigeststate) (a1 : Int) (res : TDigeststate) (h : digeststateround a0 a1 = some res) : CallOK Tryd.prog 61 [.p [eU64 a0.v0, eU64 a0.v1, eU64 a0.v2, eU64 a0.v3], .d (eI a1)] [[eU64 res.v0, eU64 res.v1, eU64 res.v2, eU64 res.v3]] (.tup []) [] := by
  unfold digeststateround at h
  refine callOK digeststateroundC fm rfl ?_
  simp only [initE, initM, nbor, List.map_cons, List.map_nil, Nat.reduceAdd]
  unfold digeststateroundRc
  refine rwp_seq fun K1 hK1 => ?_
  refine rwp_region fun K2 hK2 => ?_
  refine st0 128 rfl (ok (mv (.d (eI a1)))) ?_
  refine st0 192 rfl (ok (mv (.d (eI (0 : Int))))) ?_
  refine hK2 _ _ ?_
  simp only [n0, n1, n2, n3, n4, n5, n6, n7, n8, n9, n10, n11, n12, n13, n14, n15, n16, n17, n18, n19, reduceIte]
  refine hK1 _ _ _ ?_
  refine rwp_block fun K3 hK3 => ?_
  refine rwp_loop ([], []) 8320 (fun k env mem => ∃ (v4 : BitVec 64) (v5 : BitVec 64) (v6 : BitVec 64) (v7 : BitVec 64) (v8 : Int), digeststateroundL1 a1 k v4 v5 v6 v7 v8 = some res ∧ env = [(0, .ptr 0 0), (4, .d (eI a1)), (5, .d (eI v8))] ∧ mem = [(0, .var .bor [.d (eU64 v4), .d (eU64 v5), .d (eU64 v6), .d (eU64 v7)])]) FUEL ⟨_, _, Settled.refl, _, _, ⟨_, _, _, _, _, h, rfl, rfl⟩, ⟨rfl, ⟨⟨rfl, rfl⟩, ⟨⟨rfl, rfl⟩, ⟨⟨rfl, rfl⟩, trivial⟩⟩⟩, ⟨⟨rfl, rfl⟩, trivial⟩⟩, rfl⟩ (fun k1 env1 mem1 hI K9 hK9 => ?_)
  obtain ⟨v4, v5, v6, v7, v8, h, rfl, rfl⟩ := hI
  cases k1 with
  | zero => simp [digeststateroundL1] at h
  | succ k1 =>
    rw [digeststateroundL1] at h
    refine rwp_seq fun K10 hK10 => ?_
    refine rwp_region fun K11 hK11 => ?_
    refine st0 8384 rfl (ok (lssI _ _)) ?_
    refine hK11 _ _ ?_
    simp only [n0, n1, n2, n3, n4, n5, n6, n7, n8, n9, n10, n11, n12, n13, n14, n15, n16, n17, n18, n19, reduceIte]
    refine hK10 _ _ _ ?_
    refine rwp_seq fun K12 hK12 => ?_
    rcases Bool.eq_false_or_eq_true ((decide (v8 < a1))) with h13 | h13
    · replace h := ite_t h h13
      refine rwp_t (isT h13) ?_
      refine rwp_skip ?_
      refine hK12 _ _ _ ?_
      refine rwp_seq fun K14 hK14 => ?_
      refine rwp_block fun K15 hK15 => ?_
      refine rwp_seq fun K16 hK16 => ?_
      refine rwp_draw fun K17 hK17 => ?_
      refine dr0 8448 rfl (ok (mv (.ptr 0 0))) (by kernel_rfl) ?_
      refine dr0 8512 rfl (ok (chk_ptr _ _)) (by kernel_rfl) ?_
      refine dr0 8576 rfl (ok (fa_k 0 rfl)) (by kernel_rfl) ?_
      refine dr0 8640 rfl (ok (ld_v (v := .d (eU64 v4)) rfl rfl rfl)) (by kernel_rfl) ?_
      refine dr0 8704 rfl (ok (mv (.ptr 0 0))) (by kernel_rfl) ?_
      refine dr0 8768 rfl (ok (chk_ptr _ _)) (by kernel_rfl) ?_
      refine dr0 8832 rfl (ok (fa_k 1 rfl)) (by kernel_rfl) ?_
      refine dr0 8896 rfl (ok (ld_v (v := .d (eU64 v5)) rfl rfl rfl)) (by kernel_rfl) ?_
      refine dr0 8960 rfl (ok (add64 _ _)) (by kernel_rfl) ?_
      refine dr0 9024 rfl (ok (chk_ptr _ _)) (by kernel_rfl) ?_
      refine dr0 9088 rfl (ok (fa_k 0 rfl)) (by kernel_rfl) ?_
      refine drn 9152 rfl (mem' := [(0, .var .bor [.d (eU64 (v4 + v5)), .d (eU64 v5), .d (eU64 v6), .d (eU64 v7)])]) (ok (sto_v (ps' := [.d (eU64 (v4 + v5)), .d (eU64 v5), .d (eU64 v6), .d (eU64 v7)]) rfl rfl rfl rfl)) rfl (by kernel_rfl) ?_
      refine hK17 _ _ ?_
      simp only [n0, n1, n2, n3, n4, n5, n6, n7, n8, n9, n10, n11, n12, n13, n14, n15, n16, n17, n18, n19, reduceIte]
      refine hK16 _ _ _ ?_
      refine rwp_seq fun K18 hK18 => ?_
      refine rwp_draw fun K19 hK19 => ?_
      refine dr0 9216 rfl (ok (mv (.ptr 0 0))) (by kernel_rfl) ?_
      refine dr0 9280 rfl (ok (mv (.ptr 0 0))) (by kernel_rfl) ?_
      refine dr0 9344 rfl (ok (chk_ptr _ _)) (by kernel_rfl) ?_
      refine dr0 9408 rfl (ok (fa_k 1 rfl)) (by kernel_rfl) ?_
      refine dr0 9472 rfl (ok (ld_v (v := .d (eU64 v5)) rfl rfl rfl)) (by kernel_rfl) ?_
      obtain ⟨y20, h21, h⟩ := bind_inv h
      refine dr0 9536 rfl (call_ok (v := .d (eU64 y20)) (u := []) (ar_d (eU64 v5) (ar_d (eI (13 : Int)) ar_nil)) rfl (bitsRotateLeft64OK v5 (13 : Int) y20 h21) rfl) (by kernel_rfl) ?_
      refine dr0 9600 rfl (ok (mv (.ptr 0 0))) (by kernel_rfl) ?_
      refine dr0 9664 rfl (ok (chk_ptr _ _)) (by kernel_rfl) ?_
      refine dr0 9728 rfl (ok (fa_k 0 rfl)) (by kernel_rfl) ?_
      refine dr0 9792 rfl (ok (ld_v (v := .d (eU64 (v4 + v5))) rfl rfl rfl)) (by kernel_rfl) ?_
      refine dr0 9856 rfl (ok (xor64 _ _)) (by kernel_rfl) ?_
      refine dr0 9920 rfl (ok (chk_ptr _ _)) (by kernel_rfl) ?_
      refine dr0 9984 rfl (ok (fa_k 1 rfl)) (by kernel_rfl) ?_
      refine drn 10048 rfl (mem' := [(0, .var .bor [.d (eU64 (v4 + v5)), .d (eU64 (y20 ^^^ (v4 + v5))), .d (eU64 v6), .d (eU64 v7)])]) (ok (sto_v (ps' := [.d (eU64 (v4 + v5)), .d (eU64 (y20 ^^^ (v4 + v5))), .d (eU64 v6), .d (eU64 v7)]) rfl rfl rfl rfl)) rfl (by kernel_rfl) ?_
      refine hK19 _ _ ?_
      simp only [n0, n1, n2, n3, n4, n5, n6, n7, n8, n9, n10, n11, n12, n13, n14, n15, n16, n17, n18, n19, reduceIte]
      refine hK18 _ _ _ ?_
      refine rwp_seq fun K22 hK22 => ?_
      refine rwp_region fun K23 hK23 => ?_
      refine st0 10112 rfl (ok (mv (.ptr 0 0))) ?_
      refine st0 10176 rfl (ok (mv (.ptr 0 0))) ?_
      refine st0 10240 rfl (ok (chk_ptr _ _)) ?_
      refine st0 10304 rfl (ok (fa_k 0 rfl)) ?_
      refine st0 10368 rfl (ok (ld_v (v := .d (eU64 (v4 + v5))) rfl rfl rfl)) ?_
      obtain ⟨y24, h25, h⟩ := bind_inv h
      refine st0 10432 rfl (call_ok (v := .d (eU64 y24)) (u := []) (ar_d (eU64 (v4 + v5)) (ar_d (eI (32 : Int)) ar_nil)) rfl (bitsRotateLeft64OK (v4 + v5) (32 : Int) y24 h25) rfl) ?_
      refine st0 10496 rfl (ok (chk_ptr _ _)) ?_
      refine st0 10560 rfl (ok (fa_k 0 rfl)) ?_
      refine stn 10624 rfl (mem' := [(0, .var .bor [.d (eU64 y24), .d (eU64 (y20 ^^^ (v4 + v5))), .d (eU64 v6), .d (eU64 v7)])]) (ok (sto_v (ps' := [.d (eU64 y24), .d (eU64 (y20 ^^^ (v4 + v5))), .d (eU64 v6), .d (eU64 v7)]) rfl rfl rfl rfl)) rfl ?_
      refine hK23 _ _ ?_
      simp only [n0, n1, n2, n3, n4, n5, n6, n7, n8, n9, n10, n11, n12, n13, n14, n15, n16, n17, n18, n19, reduceIte]
      refine hK22 _ _ _ ?_
      refine rwp_seq fun K26 hK26 => ?_
      refine rwp_draw fun K27 hK27 => ?_
      refine dr0 10688 rfl (ok (mv (.ptr 0 0))) (by kernel_rfl) ?_
      refine dr0 10752 rfl (ok (chk_ptr _ _)) (by kernel_rfl) ?_
      refine dr0 10816 rfl (ok (fa_k 2 rfl)) (by kernel_rfl) ?_
      refine dr0 10880 rfl (ok (ld_v (v := .d (eU64 v6)) rfl rfl rfl)) (by kernel_rfl) ?_
      refine dr0 10944 rfl (ok (mv (.ptr 0 0))) (by kernel_rfl) ?_
      refine dr0 11008 rfl (ok (chk_ptr _ _)) (by kernel_rfl) ?_
      refine dr0 11072 rfl (ok (fa_k 3 rfl)) (by kernel_rfl) ?_
      refine dr0 11136 rfl (ok (ld_v (v := .d (eU64 v7)) rfl rfl rfl)) (by kernel_rfl) ?_
      refine dr0 11200 rfl (ok (add64 _ _)) (by kernel_rfl) ?_
      refine dr0 11264 rfl (ok (chk_ptr _ _)) (by kernel_rfl) ?_
      refine dr0 11328 rfl (ok (fa_k 2 rfl)) (by kernel_rfl) ?_
      refine drn 11392 rfl (mem' := [(0, .var .bor [.d (eU64 y24), .d (eU64 (y20 ^^^ (v4 + v5))), .d (eU64 (v6 + v7)), .d (eU64 v7)])]) (ok (sto_v (ps' := [.d (eU64 y24), .d (eU64 (y20 ^^^ (v4 + v5))), .d (eU64 (v6 + v7)), .d (eU64 v7)]) rfl rfl rfl rfl)) rfl (by kernel_rfl) ?_
      refine hK27 _ _ ?_
      simp only [n0, n1, n2, n3, n4, n5, n6, n7, n8, n9, n10, n11, n12, n13, n14, n15, n16, n17, n18, n19, reduceIte]
      refine hK26 _ _ _ ?_
      refine rwp_seq fun K28 hK28 => ?_
      refine rwp_draw fun K29 hK29 => ?_
      refine dr0 11456 rfl (ok (mv (.ptr 0 0))) (by kernel_rfl) ?_
      refine dr0 11520 rfl (ok (mv (.ptr 0 0))) (by kernel_rfl) ?_
      refine dr0 11584 rfl (ok (chk_ptr _ _)) (by kernel_rfl) ?_
      refine dr0 11648 rfl (ok (fa_k 3 rfl)) (by kernel_rfl) ?_
      refine dr0 11712 rfl (ok (ld_v (v := .d (eU64 v7)) rfl rfl rfl)) (by kernel_rfl) ?_
      obtain ⟨y30, h31, h⟩ := bind_inv h
      refine dr0 11776 rfl (call_ok (v := .d (eU64 y30)) (u := []) (ar_d (eU64 v7) (ar_d (eI (16 : Int)) ar_nil)) rfl (bitsRotateLeft64OK v7 (16 : Int) y30 h31) rfl) (by kernel_rfl) ?_
      refine dr0 11840 rfl (ok (mv (.ptr 0 0))) (by kernel_rfl) ?_
      refine dr0 11904 rfl (ok (chk_ptr _ _)) (by kernel_rfl) ?_
      refine dr0 11968 rfl (ok (fa_k 2 rfl)) (by kernel_rfl) ?_
      refine dr0 12032 rfl (ok (ld_v (v := .d (eU64 (v6 + v7))) rfl rfl rfl)) (by kernel_rfl) ?_
      refine dr0 12096 rfl (ok (xor64 _ _)) (by kernel_rfl) ?_
      refine dr0 12160 rfl (ok (chk_ptr _ _)) (by kernel_rfl) ?_
      refine dr0 12224 rfl (ok (fa_k 3 rfl)) (by kernel_rfl) ?_
      refine drn 12288 rfl (mem' := [(0, .var .bor [.d (eU64 y24), .d (eU64 (y20 ^^^ (v4 + v5))), .d (eU64 (v6 + v7)), .d (eU64 (y30 ^^^ (v6 + v7)))])]) (ok (sto_v (ps' := [.d (eU64 y24), .d (eU64 (y20 ^^^ (v4 + v5))), .d (eU64 (v6 + v7)), .d (eU64 (y30 ^^^ (v6 + v7)))]) rfl rfl rfl rfl)) rfl (by kernel_rfl) ?_
      refine hK29 _ _ ?_
      simp only [n0, n1, n2, n3, n4, n5, n6, n7, n8, n9, n10, n11, n12, n13, n14, n15, n16, n17, n18, n19, reduceIte]
      refine hK28 _ _ _ ?_
      refine rwp_seq fun K32 hK32 => ?_
      refine rwp_draw fun K33 hK33 => ?_
      refine dr0 12352 rfl (ok (mv (.ptr 0 0))) (by kernel_rfl) ?_
      refine dr0 12416 rfl (ok (chk_ptr _ _)) (by kernel_rfl) ?_
      refine dr0 12480 rfl (ok (fa_k 0 rfl)) (by kernel_rfl) ?_
      refine dr0 12544 rfl (ok (ld_v (v := .d (eU64 y24)) rfl rfl rfl)) (by kernel_rfl) ?_
      refine dr0 12608 rfl (ok (mv (.ptr 0 0))) (by kernel_rfl) ?_
      refine dr0 12672 rfl (ok (chk_ptr _ _)) (by kernel_rfl) ?_
      refine dr0 12736 rfl (ok (fa_k 3 rfl)) (by kernel_rfl) ?_
      refine dr0 12800 rfl (ok (ld_v (v := .d (eU64 (y30 ^^^ (v6 + v7)))) rfl rfl rfl)) (by kernel_rfl) ?_
      refine dr0 12864 rfl (ok (add64 _ _)) (by kernel_rfl) ?_
      refine dr0 12928 rfl (ok (chk_ptr _ _)) (by kernel_rfl) ?_
      refine dr0 12992 rfl (ok (fa_k 0 rfl)) (by kernel_rfl) ?_
      refine drn 13056 rfl (mem' := [(0, .var .bor [.d (eU64 (y24 + (y30 ^^^ (v6 + v7)))), .d (eU64 (y20 ^^^ (v4 + v5))), .d (eU64 (v6 + v7)), .d (eU64 (y30 ^^^ (v6 + v7)))])]) (ok (sto_v (ps' := [.d (eU64 (y24 + (y30 ^^^ (v6 + v7)))), .d (eU64 (y20 ^^^ (v4 + v5))), .d (eU64 (v6 + v7)), .d (eU64 (y30 ^^^ (v6 + v7)))]) rfl rfl rfl rfl)) rfl (by kernel_rfl) ?_
      refine hK33 _ _ ?_
      simp only [n0, n1, n2, n3, n4, n5, n6, n7, n8, n9, n10, n11, n12, n13, n14, n15, n16, n17, n18, n19, reduceIte]
      refine hK32 _ _ _ ?_
      refine rwp_seq fun K34 hK34 => ?_
      refine rwp_draw fun K35 hK35 => ?_
      refine dr0 13120 rfl (ok (mv (.ptr 0 0))) (by kernel_rfl) ?_
      refine dr0 13184 rfl (ok (mv (.ptr 0 0))) (by kernel_rfl) ?_
      refine dr0 13248 rfl (ok (chk_ptr _ _)) (by kernel_rfl) ?_
      refine dr0 13312 rfl (ok (fa_k 3 rfl)) (by kernel_rfl) ?_
      refine dr0 13376 rfl (ok (ld_v (v := .d (eU64 (y30 ^^^ (v6 + v7)))) rfl rfl rfl)) (by kernel_rfl) ?_
      obtain ⟨y36, h37, h⟩ := bind_inv h
      refine dr0 13440 rfl (call_ok (v := .d (eU64 y36)) (u := []) (ar_d (eU64 (y30 ^^^ (v6 + v7))) (ar_d (eI (21 : Int)) ar_nil)) rfl (bitsRotateLeft64OK (y30 ^^^ (v6 + v7)) (21 : Int) y36 h37) rfl) (by kernel_rfl) ?_
      refine dr0 13504 rfl (ok (mv (.ptr 0 0))) (by kernel_rfl) ?_
      refine dr0 13568 rfl (ok (chk_ptr _ _)) (by kernel_rfl) ?_
      refine dr0 13632 rfl (ok (fa_k 0 rfl)) (by kernel_rfl) ?_
      refine dr0 13696 rfl (ok (ld_v (v := .d (eU64 (y24 + (y30 ^^^ (v6 + v7))))) rfl rfl rfl)) (by kernel_rfl) ?_
      refine dr0 13760 rfl (ok (xor64 _ _)) (by kernel_rfl) ?_
      refine dr0 13824 rfl (ok (chk_ptr _ _)) (by kernel_rfl) ?_
      refine dr0 13888 rfl (ok (fa_k 3 rfl)) (by kernel_rfl) ?_
      refine drn 13952 rfl (mem' := [(0, .var .bor [.d (eU64 (y24 + (y30 ^^^ (v6 + v7)))), .d (eU64 (y20 ^^^ (v4 + v5))), .d (eU64 (v6 + v7)), .d (eU64 (y36 ^^^ (y24 + (y30 ^^^ (v6 + v7)))))])]) (ok (sto_v (ps' := [.d (eU64 (y24 + (y30 ^^^ (v6 + v7)))), .d (eU64 (y20 ^^^ (v4 + v5))), .d (eU64 (v6 + v7)), .d (eU64 (y36 ^^^ (y24 + (y30 ^^^ (v6 + v7)))))]) rfl rfl rfl rfl)) rfl (by kernel_rfl) ?_
      refine hK35 _ _ ?_
      simp only [n0, n1, n2, n3, n4, n5, n6, n7, n8, n9, n10, n11, n12, n13, n14, n15, n16, n17, n18, n19, reduceIte]
      refine hK34 _ _ _ ?_
      refine rwp_seq fun K38 hK38 => ?_
      refine rwp_draw fun K39 hK39 => ?_
      refine dr0 14016 rfl (ok (mv (.ptr 0 0))) (by kernel_rfl) ?_
      refine dr0 14080 rfl (ok (chk_ptr _ _)) (by kernel_rfl) ?_
      refine dr0 14144 rfl (ok (fa_k 2 rfl)) (by kernel_rfl) ?_
      refine dr0 14208 rfl (ok (ld_v (v := .d (eU64 (v6 + v7))) rfl rfl rfl)) (by kernel_rfl) ?_
      refine dr0 14272 rfl (ok (mv (.ptr 0 0))) (by kernel_rfl) ?_
      refine dr0 14336 rfl (ok (chk_ptr _ _)) (by kernel_rfl) ?_
      refine dr0 14400 rfl (ok (fa_k 1 rfl)) (by kernel_rfl) ?_
      refine dr0 14464 rfl (ok (ld_v (v := .d (eU64 (y20 ^^^ (v4 + v5)))) rfl rfl rfl)) (by kernel_rfl) ?_
      refine dr0 14528 rfl (ok (add64 _ _)) (by kernel_rfl) ?_
      refine dr0 14592 rfl (ok (chk_ptr _ _)) (by kernel_rfl) ?_
      refine dr0 14656 rfl (ok (fa_k 2 rfl)) (by kernel_rfl) ?_
      refine drn 14720 rfl (mem' := [(0, .var .bor [.d (eU64 (y24 + (y30 ^^^ (v6 + v7)))), .d (eU64 (y20 ^^^ (v4 + v5))), .d (eU64 ((v6 + v7) + (y20 ^^^ (v4 + v5)))), .d (eU64 (y36 ^^^ (y24 + (y30 ^^^ (v6 + v7)))))])]) (ok (sto_v (ps' := [.d (eU64 (y24 + (y30 ^^^ (v6 + v7)))), .d (eU64 (y20 ^^^ (v4 + v5))), .d (eU64 ((v6 + v7) + (y20 ^^^ (v4 + v5)))), .d (eU64 (y36 ^^^ (y24 + (y30 ^^^ (v6 + v7)))))]) rfl rfl rfl rfl)) rfl (by kernel_rfl) ?_
      refine hK39 _ _ ?_
      simp only [n0, n1, n2, n3, n4, n5, n6, n7, n8, n9, n10, n11, n12, n13, n14, n15, n16, n17, n18, n19, reduceIte]
      refine hK38 _ _ _ ?_
      refine rwp_seq fun K40 hK40 => ?_
      refine rwp_draw fun K41 hK41 => ?_
      refine dr0 14784 rfl (ok (mv (.ptr 0 0))) (by kernel_rfl) ?_
      refine dr0 14848 rfl (ok (mv (.ptr 0 0))) (by kernel_rfl) ?_
      refine dr0 14912 rfl (ok (chk_ptr _ _)) (by kernel_rfl) ?_
      refine dr0 14976 rfl (ok (fa_k 1 rfl)) (by kernel_rfl) ?_
      refine dr0 15040 rfl (ok (ld_v (v := .d (eU64 (y20 ^^^ (v4 + v5)))) rfl rfl rfl)) (by kernel_rfl) ?_
      obtain ⟨y42, h43, h⟩ := bind_inv h
      refine dr0 15104 rfl (call_ok (v := .d (eU64 y42)) (u := []) (ar_d (eU64 (y20 ^^^ (v4 + v5))) (ar_d (eI (17 : Int)) ar_nil)) rfl (bitsRotateLeft64OK (y20 ^^^ (v4 + v5)) (17 : Int) y42 h43) rfl) (by kernel_rfl) ?_
      refine dr0 15168 rfl (ok (mv (.ptr 0 0))) (by kernel_rfl) ?_
      refine dr0 15232 rfl (ok (chk_ptr _ _)) (by kernel_rfl) ?_
      refine dr0 15296 rfl (ok (fa_k 2 rfl)) (by kernel_rfl) ?_
      refine dr0 15360 rfl (ok (ld_v (v := .d (eU64 ((v6 + v7) + (y20 ^^^ (v4 + v5))))) rfl rfl rfl)) (by kernel_rfl) ?_
      refine dr0 15424 rfl (ok (xor64 _ _)) (by kernel_rfl) ?_
      refine dr0 15488 rfl (ok (chk_ptr _ _)) (by kernel_rfl) ?_
      refine dr0 15552 rfl (ok (fa_k 1 rfl)) (by kernel_rfl) ?_
      refine drn 15616 rfl (mem' := [(0, .var .bor [.d (eU64 (y24 + (y30 ^^^ (v6 + v7)))), .d (eU64 (y42 ^^^ ((v6 + v7) + (y20 ^^^ (v4 + v5))))), .d (eU64 ((v6 + v7) + (y20 ^^^ (v4 + v5)))), .d (eU64 (y36 ^^^ (y24 + (y30 ^^^ (v6 + v7)))))])]) (ok (sto_v (ps' := [.d (eU64 (y24 + (y30 ^^^ (v6 + v7)))), .d (eU64 (y42 ^^^ ((v6 + v7) + (y20 ^^^ (v4 + v5))))), .d (eU64 ((v6 + v7) + (y20 ^^^ (v4 + v5)))), .d (eU64 (y36 ^^^ (y24 + (y30 ^^^ (v6 + v7)))))]) rfl rfl rfl rfl)) rfl (by kernel_rfl) ?_
      refine hK41 _ _ ?_
      simp only [n0, n1, n2, n3, n4, n5, n6, n7, n8, n9, n10, n11, n12, n13, n14, n15, n16, n17, n18, n19, reduceIte]
      refine hK40 _ _ _ ?_
      refine rwp_region fun K44 hK44 => ?_
      refine st0 15680 rfl (ok (mv (.ptr 0 0))) ?_
      refine st0 15744 rfl (ok (mv (.ptr 0 0))) ?_
      refine st0 15808 rfl (ok (chk_ptr _ _)) ?_
      refine st0 15872 rfl (ok (fa_k 2 rfl)) ?_
      refine st0 15936 rfl (ok (ld_v (v := .d (eU64 ((v6 + v7) + (y20 ^^^ (v4 + v5))))) rfl rfl rfl)) ?_
      obtain ⟨y45, h46, h⟩ := bind_inv h
      refine st0 16000 rfl (call_ok (v := .d (eU64 y45)) (u := []) (ar_d (eU64 ((v6 + v7) + (y20 ^^^ (v4 + v5)))) (ar_d (eI (32 : Int)) ar_nil)) rfl (bitsRotateLeft64OK ((v6 + v7) + (y20 ^^^ (v4 + v5))) (32 : Int) y45 h46) rfl) ?_
      refine st0 16064 rfl (ok (chk_ptr _ _)) ?_
      refine st0 16128 rfl (ok (fa_k 2 rfl)) ?_
      refine stn 16192 rfl (mem' := [(0, .var .bor [.d (eU64 (y24 + (y30 ^^^ (v6 + v7)))), .d (eU64 (y42 ^^^ ((v6 + v7) + (y20 ^^^ (v4 + v5))))), .d (eU64 y45), .d (eU64 (y36 ^^^ (y24 + (y30 ^^^ (v6 + v7)))))])]) (ok (sto_v (ps' := [.d (eU64 (y24 + (y30 ^^^ (v6 + v7)))), .d (eU64 (y42 ^^^ ((v6 + v7) + (y20 ^^^ (v4 + v5))))), .d (eU64 y45), .d (eU64 (y36 ^^^ (y24 + (y30 ^^^ (v6 + v7)))))]) rfl rfl rfl rfl)) rfl ?_
      refine hK44 _ _ ?_
      simp only [n0, n1, n2, n3, n4, n5, n6, n7, n8, n9, n10, n11, n12, n13, n14, n15, n16, n17, n18, n19, reduceIte]
      refine hK15 _ _ _ ?_
      refine hK14 _ _ _ ?_
      refine rwp_region fun K47 hK47 => ?_
      refine st0 16256 rfl (ok (addI _ (1 : Int))) ?_
      refine st0 16320 rfl (ok (mv (.d (eI (w64 (v8 + (1 : Int))))))) ?_
      refine hK47 _ _ ?_
      simp only [n0, n1, n2, n3, n4, n5, n6, n7, n8, n9, n10, n11, n12, n13, n14, n15, n16, n17, n18, n19, reduceIte]
      exact hK9.out _ _ _ k1 (Nat.lt_succ_self k1) ⟨_, _, Settled.refl, _, _, ⟨_, _, _, _, _, h, rfl, rfl⟩, ⟨rfl, ⟨⟨rfl, rfl⟩, ⟨⟨rfl, rfl⟩, ⟨⟨rfl, rfl⟩, trivial⟩⟩⟩, ⟨⟨rfl, rfl⟩, trivial⟩⟩, rfl⟩
    · replace h := ite_f h h13
      refine rwp_f (isF h13) ?_
      refine rwp_exit ?_
      refine hK3 _ _ _ ?_
      obtain rfl := Option.some.inj h
      try simp only [thenK, blockK, reduceIte]
      exact Or.inl (end_ok trivial rs_nil en_nil (ou_1 rfl (ds_d _ (ds_d _ (ds_d _ (ds_d _ ds_nil)))) ou_nil) (by first | exact eok rfl rfl rfl rfl trivial | (refine eok ?_ ?_ ?_ ?_ ?_ <;> first | rfl | exact trivial | simp [retM, Mem.get, PV.renL, PV.ren, Blk.ren, comps, rhoR, rhoM, appN, PV.refsL, PV.refs, keys, nodupB, Blk.refs, allIn, Blk.bor])))

/-- (*passkey/digest.state).word -/
def digeststatewordH : Hints := ⟨[(0, [0, 1]), (1, [0, 1]), (2, [])], []⟩
def digeststatewordRc : RCode :=
  .seq (.region false [⟨some 4, .mv, [.t 0], none, []⟩, ⟨some 5, .chk, [.t 4], none, []⟩, ⟨some 6, .fa 3, [.t 5], none, []⟩, ⟨some 7, .load 1 false, [.t 6], none, []⟩, ⟨some 8, .mv,
  [.t 1], none, []⟩, ⟨some 9, .bin .xor, [.t 7, .t 8], none, []⟩, ⟨some 10, .chk, [.t 4], none, []⟩, ⟨some 11, .fa 3, [.t 10], none, []⟩, ⟨none, .store 1, [.t 11, .t 9], none, []⟩]
  [0, 1]) (.seq (.region false [⟨some 12, .mv, [.t 0], none, []⟩, ⟨some 13, .call 61 false, [.t 12, .k (.d (.int .i64 2))], none, []⟩] [0, 1]) (.region false [⟨some 14, .mv, [.t
  0], none, []⟩, ⟨some 15, .chk, [.t 14], none, []⟩, ⟨some 16, .fa 0, [.t 15], none, []⟩, ⟨some 17, .load 1 false, [.t 16], none, []⟩, ⟨some 18, .mv, [.t 1], none, []⟩, ⟨some 19,
  .bin .xor, [.t 17, .t 18], none, []⟩, ⟨some 20, .chk, [.t 14], none, []⟩, ⟨some 21, .fa 0, [.t 20], none, []⟩, ⟨none, .store 1, [.t 21, .t 19], none, []⟩] []))
def digeststatewordRr : List RR := []
theorem digeststatewordC : compFn Tryd.prog 59 digeststatewordH = some (digeststatewordRc, digeststatewordRr, 22) := by kernel_rfl
theorem digeststatewordOK (a0 : TDigeststate) (a1 : BitVec 64) (res : TDigeststate) (h : digeststateword a0 a1 = some res) : CallOK Tryd.prog 59 [.p [eU64 a0.v0, eU64 a0.v1, eU64 a0.v2, eU64 a0.v3], .d (eU64 a1)] [[eU64 res.v0, eU64 res.v1, eU64 res.v2, eU64 res.v3]] (.tup []) [] := by
  unfold digeststateword at h
  refine callOK digeststatewordC fm rfl ?_
  simp only [initE, initM, nbor, List.map_cons, List.map_nil, Nat.reduceAdd]
  unfold digeststatewordRc
  refine rwp_seq fun K1 hK1 => ?_
  refine rwp_region fun K2 hK2 => ?_
  refine st0 128 rfl (ok (mv (.ptr 0 0))) ?_
  refine st0 192 rfl (ok (chk_ptr _ _)) ?_
  refine st0 256 rfl (ok (fa_k 3 rfl)) ?_
  refine st0 320 rfl (ok (ld_v (v := .d (eU64 a0.v3)) rfl rfl rfl)) ?_
  refine st0 384 rfl (ok (mv (.d (eU64 a1)))) ?_
  refine st0 448 rfl (ok (xor64 _ _)) ?_
  refine st0 512 rfl (ok (chk_ptr _ _)) ?_
  refine st0 576 rfl (ok (fa_k 3 rfl)) ?_
  refine stn 640 rfl (mem' := [(0, .var .bor [.d (eU64 a0.v0), .d (eU64 a0.v1), .d (eU64 a0.v2), .d (eU64 (a0.v3 ^^^ a1))])]) (ok (sto_v (ps' := [.d (eU64 a0.v0), .d (eU64 a0.v1), .d (eU64 a0.v2), .d (eU64 (a0.v3 ^^^ a1))]) rfl rfl rfl rfl)) rfl ?_
  refine hK2 _ _ ?_
  simp only [n0, n1, n2, n3, n4, n5, n6, n7, n8, n9, n10, n11, n12, n13, n14, n15, n16, n17, n18, n19, reduceIte]
  refine hK1 _ _ _ ?_
  refine rwp_seq fun K3 hK3 => ?_
  refine rwp_region fun K4 hK4 => ?_
  refine st0 704 rfl (ok (mv (.ptr 0 0))) ?_
  obtain ⟨y5, h6, h⟩ := bind_inv h
  refine st1 768 rfl (mem' := [(0, .var .bor [.d (eU64 y5.v0), .d (eU64 y5.v1), .d (eU64 y5.v2), .d (eU64 y5.v3)])]) (call_ok (v := .tup []) (u := [(0, .var .bor [.d (eU64 y5.v0), .d (eU64 y5.v1), .d (eU64 y5.v2), .d (eU64 y5.v3)])]) (ar_p rfl rfl (ds_d _ (ds_d _ (ds_d _ (ds_d _ ds_nil)))) (ar_d (eI (2 : Int)) ar_nil)) rfl (digeststateroundOK (TDigeststate.mk a0.v0 a0.v1 a0.v2 (a0.v3 ^^^ a1)) (2 : Int) y5 h6) rfl) rfl ?_
  refine hK4 _ _ ?_
  simp only [n0, n1, n2, n3, n4, n5, n6, n7, n8, n9, n10, n11, n12, n13, n14, n15, n16, n17, n18, n19, reduceIte]
  refine hK3 _ _ _ ?_
  refine rwp_region fun K7 hK7 => ?_
  refine st0 832 rfl (ok (mv (.ptr 0 0))) ?_
  refine st0 896 rfl (ok (chk_ptr _ _)) ?_
  refine st0 960 rfl (ok (fa_k 0 rfl)) ?_
  refine st0 1024 rfl (ok (ld_v (v := .d (eU64 y5.v0)) rfl rfl rfl)) ?_
  refine st0 1088 rfl (ok (mv (.d (eU64 a1)))) ?_
  refine st0 1152 rfl (ok (xor64 _ _)) ?_
  refine st0 1216 rfl (ok (chk_ptr _ _)) ?_
  refine st0 1280 rfl (ok (fa_k 0 rfl)) ?_
  refine stn 1344 rfl (mem' := [(0, .var .bor [.d (eU64 (y5.v0 ^^^ a1)), .d (eU64 y5.v1), .d (eU64 y5.v2), .d (eU64 y5.v3)])]) (ok (sto_v (ps' := [.d (eU64 (y5.v0 ^^^ a1)), .d (eU64 y5.v1), .d (eU64 y5.v2), .d (eU64 y5.v3)]) rfl rfl rfl rfl)) rfl ?_
  refine hK7 _ _ ?_
  simp only [n0, n1, n2, n3, n4, n5, n6, n7, n8, n9, n10, n11, n12, n13, n14, n15, n16, n17, n18, n19, reduceIte]
  obtain rfl := Option.some.inj h
  try simp only [thenK, blockK, reduceIte]
  exact Or.inl (end_ok trivial rs_nil en_nil (ou_1 rfl (ds_d _ (ds_d _ (ds_d _ (ds_d _ ds_nil)))) ou_nil) (by first | exact eok rfl rfl rfl rfl trivial | (refine eok ?_ ?_ ?_ ?_ ?_ <;> first | rfl | exact trivial | simp [retM, Mem.get, PV.renL, PV.ren, Blk.ren, comps, rhoR, rhoM, appN, PV.refsL, PV.refs, keys, nodupB, Blk.refs, allIn, Blk.bor])))

end Go.Proofs.Ty
