/- Each Go function comes to what its plain function says. PRINTED by a program of this session (ty.py). -/
import Derived.Test.YtfhdcabplkhdcaaDoorS7
set_option linter.unusedVariables false
set_option linter.unusedSimpArgs false
set_option maxHeartbeats 4000000
set_option maxRecDepth 10000
namespace Go.Proofs.Ty
open Go Go.RW Go.Proofs
open Go.RW renaming thenK → n0, blockK → n1, keepE → n2, updM → n3, envE → n4
open Go.RW.Mem renaming get → n5
open List renaming filter_cons → n6, filter_nil → n7, nil_append → n8, cons_append → n9, map_cons → n10, map_nil → n11, length_cons → n12, length_nil → n13
open Option renaming isNone_none → n14, isNone_some → n15
open Bool renaming false_eq_true → n16
open Nat renaming reduceEqDiff → n17, reduceAdd → n18, reduceMul → n19
/-- passkey/token.OpenWord -/
def tokenOpenWordH : Hints := ⟨[(0, [0, 1]), (1, [6, 7]), (2, [6, 7, 18]), (3, [4, 5]), (4, [6, 22]), (5, [4, 5]), (6, [6, 8]), (7, [8, 23, 24, 25]), (8, [8, 23, 24, 25, 26]), (9, [8, 10, 23, 24, 25]), (10, [8, 23, 24, 25]), (11, [8, 23, 24, 25]), (12, [4, 5])], []⟩
def tokenOpenWordRc : RCode :=
  .seq (.region false [⟨some 4, .mv, [.k (.d (.int .u64 0))], none, []⟩, ⟨some 5, .mv, [.k (.d (.int .i64 0))], none, []⟩] [0, 1]) (.seq (.region false [⟨some 12, .mv, [.t 0], none,
  []⟩, ⟨some 13, .mv, [.t 1], none, []⟩, ⟨some 14, .call 37 true, [.t 12, .k (.nil 1), .t 13], none, []⟩, ⟨some 11, .mv, [.t 14], none, []⟩, ⟨some 15, .ext 0, [.t 11], none, []⟩,
  ⟨some 16, .ext 1, [.t 11], none, []⟩, ⟨some 6, .mv, [.t 15], none, []⟩, ⟨some 7, .mv, [.t 16], none, []⟩] [6, 7]) (.seq (.seq (.region false [⟨some 17, .mv, [.t 7], none, []⟩,
  ⟨some 18, .bin .neq, [.t 17, .k (.d (.int .i64 0))], none, []⟩] [6, 7, 18]) (.cond (.t 18) (.seq (.region false [⟨some 19, .mv, [.t 7], none, []⟩, ⟨some 4, .mv, [.k (.d (.int
  .u64 0))], none, []⟩, ⟨some 5, .mv, [.t 19], none, []⟩] [4, 5]) .ret) .skip)) (.seq (.seq (.region false [⟨some 20, .mv, [.t 6], none, []⟩, ⟨some 21, .len, [.t 20], none, []⟩,
  ⟨some 22, .bin .neq, [.t 21, .k (.d (.int .i64 8))], none, []⟩] [6, 22]) (.cond (.t 22) (.seq (.region false [⟨some 4, .mv, [.k (.d (.int .u64 0))], none, []⟩, ⟨some 5, .mv, [.k
  (.d (.int .i64 2))], none, []⟩] [4, 5]) .ret) .skip)) (.seq (.region false [⟨some 8, .mv, [.k (.d (.int .u64 0))], none, []⟩] [6, 8]) (.seq (.seq (.region false [⟨some 23, .mv,
  [.t 6], none, []⟩, ⟨some 24, .len, [.t 23], none, []⟩, ⟨some 25, .mv, [.k (.d (.int .i64 0))], none, []⟩] [8, 23, 24, 25]) (.block 0 (.loop [] (.seq (.region false [⟨some 26,
  .bin .lss, [.t 25, .t 24], none, []⟩] [8, 23, 24, 25, 26]) (.seq (.cond (.t 26) .skip (.exit 0)) (.seq (.block 1 (.seq (.region false [⟨some 27, .ia 1, [.t 23, .t 25], none, []⟩,
  ⟨some 28, .load 1 false, [.t 27], none, []⟩, ⟨some 10, .mv, [.t 28], none, []⟩] [8, 10, 23, 24, 25]) (.region false [⟨some 29, .mv, [.t 8], none, []⟩, ⟨some 30, .bin .shl, [.t
  29, .k (.d (.int .u64 8))], none, []⟩, ⟨some 31, .mv, [.t 10], none, []⟩, ⟨some 32, .cvt .u64, [.t 31], none, []⟩, ⟨some 33, .bin .or, [.t 30, .t 32], none, []⟩, ⟨some 8, .mv,
  [.t 33], none, []⟩] [8, 23, 24, 25]))) (.region false [⟨some 34, .bin .add, [.t 25, .k (.d (.int .i64 1))], none, []⟩, ⟨some 25, .mv, [.t 34], none, []⟩] [8, 23, 24, 25])))))))
  (.seq (.region false [⟨some 35, .mv, [.t 8], none, []⟩, ⟨some 4, .mv, [.t 35], none, []⟩, ⟨some 5, .mv, [.k (.d (.int .i64 0))], none, []⟩] [4, 5]) .ret))))))
def tokenOpenWordRr : List RR := [.t 4, .t 5]
theorem tokenOpenWordC : compFn Tryd.prog 25 tokenOpenWordH = some (tokenOpenWordRc, tokenOpenWordRr, 36) := by kernel_rfl
theorem tokenOpenWordOK (a0 : BitVec 64) (a1 : List (BitVec 8)) (res : (BitVec 64) × Int) (h : tokenOpenWord a0 a1 = some res) : CallOK Tryd.prog 25 [.d (eU64 a0), .d ((eL 1 eU8) a1)] [] (.tup [.d (eU64 res.1), .d (eI res.2)]) [] := by
  unfold tokenOpenWord at h
  refine callOK tokenOpenWordC fm rfl ?_
  simp only [initE, initM, nbor, List.map_cons, List.map_nil, Nat.reduceAdd]
  unfold tokenOpenWordRc
  refine rwp_seq fun K1 hK1 => ?_
  refine rwp_region fun K2 hK2 => ?_
  refine st0 128 rfl (ok (mv (.d (eU64 (0#64))))) ?_
  refine st0 192 rfl (ok (mv (.d (eI (0 : Int))))) ?_
  refine hK2 _ _ ?_
  simp only [n0, n1, n2, n3, n4, n5, n6, n7, n8, n9, n10, n11, n12, n13, n14, n15, n16, n17, n18, n19, reduceIte]
  refine hK1 _ _ _ ?_
  refine rwp_seq fun K3 hK3 => ?_
  refine rwp_region fun K4 hK4 => ?_
  refine st0 256 rfl (ok (mv (.d (eU64 a0)))) ?_
  refine st0 320 rfl (ok (mv (.d ((eL 1 eU8) a1)))) ?_
  obtain ⟨y5, h6, h⟩ := bind_inv h
  refine st1 384 rfl (mem' := [(320, .row true 1 (y5.1.map eU8))]) (call_ok (v := .tup [.ref 320 y5.1.length 0 y5.1.length, .d (eI y5.2)]) (u := [(320, .row true 1 (y5.1.map eU8))]) (ar_d (eU64 a0) (ar_to rfl (to_1 rfl (ds_n eU8 ds_nil)) (ar_d ((eL 1 eU8) a1) ar_nil))) rfl (sealOpenOK a0 ([] : List (BitVec 8)) a1 y5 h6) rfl) rfl ?_
  refine st0 448 rfl (ok (mv (.tup [.ref 320 y5.1.length 0 y5.1.length, .d (eI y5.2)]))) ?_
  refine st0 512 rfl (ok (extr (v := .ref 320 y5.1.length 0 y5.1.length) rfl rfl)) ?_
  refine st0 576 rfl (ok (extr (v := .d (eI y5.2)) rfl rfl)) ?_
  refine st0 640 rfl (ok (mv (.ref 320 y5.1.length 0 y5.1.length))) ?_
  refine st0 704 rfl (ok (mv (.d (eI y5.2)))) ?_
  refine hK4 _ _ ?_
  simp only [n0, n1, n2, n3, n4, n5, n6, n7, n8, n9, n10, n11, n12, n13, n14, n15, n16, n17, n18, n19, reduceIte]
  refine hK3 _ _ _ ?_
  refine rwp_seq fun K7 hK7 => ?_
  refine rwp_seq fun K8 hK8 => ?_
  refine rwp_region fun K9 hK9 => ?_
  refine st0 768 rfl (ok (mv (.d (eI y5.2)))) ?_
  refine st0 832 rfl (ok (neqI _ (0 : Int))) ?_
  refine hK9 _ _ ?_
  simp only [n0, n1, n2, n3, n4, n5, n6, n7, n8, n9, n10, n11, n12, n13, n14, n15, n16, n17, n18, n19, reduceIte]
  refine hK8 _ _ _ ?_
  rcases Bool.eq_false_or_eq_true ((y5.2 != (0 : Int))) with h10 | h10
  · replace h := ite_t h h10
    refine rwp_t (isT h10) ?_
    refine rwp_seq fun K11 hK11 => ?_
    refine rwp_region fun K12 hK12 => ?_
    refine st0 896 rfl (ok (mv (.d (eI y5.2)))) ?_
    refine st0 960 rfl (ok (mv (.d (eU64 (0#64))))) ?_
    refine st0 1024 rfl (ok (mv (.d (eI y5.2)))) ?_
    refine hK12 _ _ ?_
    simp only [n0, n1, n2, n3, n4, n5, n6, n7, n8, n9, n10, n11, n12, n13, n14, n15, n16, n17, n18, n19, reduceIte]
    refine hK11 _ _ _ ?_
    refine rwp_ret ?_
    obtain rfl := Option.some.inj h
    try simp only [thenK, blockK, reduceIte]
    exact Or.inl (end_ok trivial (rs_t (v := .d (eU64 (0#64))) rfl (rs_t (v := .d (eI y5.2)) rfl rs_nil)) (en_d (to_d _) (en_d (to_d _) en_nil)) ou_nil (by first | exact eok rfl rfl rfl rfl trivial | (refine eok ?_ ?_ ?_ ?_ ?_ <;> first | rfl | exact trivial | simp [retM, Mem.get, PV.renL, PV.ren, Blk.ren, comps, rhoR, rhoM, appN, PV.refsL, PV.refs, keys, nodupB, Blk.refs, allIn, Blk.bor])))
  · replace h := ite_f h h10
    refine rwp_f (isF h10) ?_
    refine rwp_skip ?_
    refine hK7 _ _ _ ?_
    refine rwp_seq fun K13 hK13 => ?_
    refine rwp_seq fun K14 hK14 => ?_
    refine rwp_region fun K15 hK15 => ?_
    refine st0 896 rfl (ok (mv (.ref 320 y5.1.length 0 y5.1.length))) ?_
    refine st0 960 rfl (ok (lenR _ _ _ _)) ?_
    refine st0 1024 rfl (ok (neqI _ (8 : Int))) ?_
    refine hK15 _ _ ?_
    simp only [n0, n1, n2, n3, n4, n5, n6, n7, n8, n9, n10, n11, n12, n13, n14, n15, n16, n17, n18, n19, reduceIte]
    refine hK14 _ _ _ ?_
    rcases Bool.eq_false_or_eq_true (((y5.1.length : Int) != (8 : Int))) with h16 | h16
    · replace h := ite_t h h16
      refine rwp_t (isT h16) ?_
      refine rwp_seq fun K17 hK17 => ?_
      refine rwp_region fun K18 hK18 => ?_
      refine st0 1088 rfl (ok (mv (.d (eU64 (0#64))))) ?_
      refine st0 1152 rfl (ok (mv (.d (eI (2 : Int))))) ?_
      refine hK18 _ _ ?_
      simp only [n0, n1, n2, n3, n4, n5, n6, n7, n8, n9, n10, n11, n12, n13, n14, n15, n16, n17, n18, n19, reduceIte]
      refine hK17 _ _ _ ?_
      refine rwp_ret ?_
      obtain rfl := Option.some.inj h
      try simp only [thenK, blockK, reduceIte]
      exact Or.inl (end_ok trivial (rs_t (v := .d (eU64 (0#64))) rfl (rs_t (v := .d (eI (2 : Int))) rfl rs_nil)) (en_d (to_d _) (en_d (to_d _) en_nil)) ou_nil (by first | exact eok rfl rfl rfl rfl trivial | (refine eok ?_ ?_ ?_ ?_ ?_ <;> first | rfl | exact trivial | simp [retM, Mem.get, PV.renL, PV.ren, Blk.ren, comps, rhoR, rhoM, appN, PV.refsL, PV.refs, keys, nodupB, Blk.refs, allIn, Blk.bor])))
    · replace h := ite_f h h16
      refine rwp_f (isF h16) ?_
      refine rwp_skip ?_
      refine hK13 _ _ _ ?_
      refine rwp_seq fun K19 hK19 => ?_
      refine rwp_region fun K20 hK20 => ?_
      refine st0 1088 rfl (ok (mv (.d (eU64 (0#64))))) ?_
      refine hK20 _ _ ?_
      simp only [n0, n1, n2, n3, n4, n5, n6, n7, n8, n9, n10, n11, n12, n13, n14, n15, n16, n17, n18, n19, reduceIte]
      refine hK19 _ _ _ ?_
      refine rwp_join ([], []) 2304 (fun env mem => ∃ (v21 : BitVec 64), tokenOpenWordJ1 v21 = some res ∧ env = [(8, .d (eU64 v21))] ∧ mem = []) (fun _ _ hI => ?_) (fun K22 hK22 => ?_)
      · obtain ⟨v21, h, rfl, rfl⟩ := hI
        unfold tokenOpenWordJ1 at h
        refine rwp_seq fun K23 hK23 => ?_
        refine rwp_region fun K24 hK24 => ?_
        refine st0 2368 rfl (ok (mv (.d (eU64 v21)))) ?_
        refine st0 2432 rfl (ok (mv (.d (eU64 v21)))) ?_
        refine st0 2496 rfl (ok (mv (.d (eI (0 : Int))))) ?_
        refine hK24 _ _ ?_
        simp only [n0, n1, n2, n3, n4, n5, n6, n7, n8, n9, n10, n11, n12, n13, n14, n15, n16, n17, n18, n19, reduceIte]
        refine hK23 _ _ _ ?_
        refine rwp_ret ?_
        obtain rfl := Option.some.inj h
        try simp only [thenK, blockK, reduceIte]
        exact Or.inl (end_ok trivial (rs_t (v := .d (eU64 v21)) rfl (rs_t (v := .d (eI (0 : Int))) rfl rs_nil)) (en_d (to_d _) (en_d (to_d _) en_nil)) ou_nil (by first | exact eok rfl rfl rfl rfl trivial | (refine eok ?_ ?_ ?_ ?_ ?_ <;> first | rfl | exact trivial | simp [retM, Mem.get, PV.renL, PV.ren, Blk.ren, comps, rhoR, rhoM, appN, PV.refsL, PV.refs, keys, nodupB, Blk.refs, allIn, Blk.bor])))
      · refine rwp_seq fun K25 hK25 => ?_
        refine rwp_region fun K26 hK26 => ?_
        refine st0 1152 rfl (ok (mv (.ref 320 y5.1.length 0 y5.1.length))) ?_
        refine st0 1216 rfl (ok (lenR _ _ _ _)) ?_
        refine st0 1280 rfl (ok (mv (.d (eI (0 : Int))))) ?_
        refine hK26 _ _ ?_
        simp only [n0, n1, n2, n3, n4, n5, n6, n7, n8, n9, n10, n11, n12, n13, n14, n15, n16, n17, n18, n19, reduceIte]
        refine hK25 _ _ _ ?_
        refine rwp_block fun K27 hK27 => ?_
        refine rwp_loop ([], []) 2176 (fun k env mem => ∃ (v28 : BitVec 64) (v29 : Int), tokenOpenWordL2 y5 k v28 v29 = some res ∧ env = [(8, .d (eU64 v28)), (23, .ref 320 y5.1.length 0 y5.1.length), (24, .d (eI (y5.1.length : Int))), (25, .d (eI v29))] ∧ mem = [(320, .row true 1 (y5.1.map eU8))]) FUEL ⟨_, _, Settled.refl, _, _, ⟨_, _, h, rfl, rfl⟩, ⟨rfl, ⟨⟨rfl, rfl⟩, ⟨⟨rfl, rfl⟩, ⟨⟨rfl, rfl⟩, ⟨⟨rfl, rfl⟩, trivial⟩⟩⟩⟩, ⟨⟨rfl, rfl⟩, trivial⟩⟩, rfl⟩ (fun k2 env1 mem1 hI K30 hK30 => ?_)
        obtain ⟨v28, v29, h, rfl, rfl⟩ := hI
        cases k2 with
        | zero => simp [tokenOpenWordL2] at h
        | succ k2 =>
          rw [tokenOpenWordL2] at h
          refine rwp_seq fun K31 hK31 => ?_
          refine rwp_region fun K32 hK32 => ?_
          refine st0 2240 rfl (ok (lssI _ _)) ?_
          refine hK32 _ _ ?_
          simp only [n0, n1, n2, n3, n4, n5, n6, n7, n8, n9, n10, n11, n12, n13, n14, n15, n16, n17, n18, n19, reduceIte]
          refine hK31 _ _ _ ?_
          refine rwp_seq fun K33 hK33 => ?_
          rcases Bool.eq_false_or_eq_true ((decide (v29 < (y5.1.length : Int)))) with h34 | h34
          · replace h := ite_t h h34
            refine rwp_t (isT h34) ?_
            refine rwp_skip ?_
            refine hK33 _ _ _ ?_
            refine rwp_seq fun K35 hK35 => ?_
            refine rwp_block fun K36 hK36 => ?_
            refine rwp_seq fun K37 hK37 => ?_
            refine rwp_region fun K38 hK38 => ?_
            obtain ⟨h39, h⟩ := asq_inv h
            refine st0 2304 rfl (ok (iaR (xs := y5.1) (e := eU8) rfl rfl h39)) ?_
            refine st0 2368 rfl (ok (ld_r (e := eU8) (xs := y5.1) 0#8 rfl rfl (by have := h39; simp at this ⊢; omega) rfl)) ?_
            refine st0 2432 rfl (ok (mv (.d (eU8 (y5.1.getD (0 + v29.toNat) 0#8))))) ?_
            refine hK38 _ _ ?_
            simp only [n0, n1, n2, n3, n4, n5, n6, n7, n8, n9, n10, n11, n12, n13, n14, n15, n16, n17, n18, n19, reduceIte]
            refine hK37 _ _ _ ?_
            refine rwp_region fun K40 hK40 => ?_
            refine st0 2496 rfl (ok (mv (.d (eU64 v28)))) ?_
            refine st0 2560 rfl (ok (shlL64 _ 8 rfl)) ?_
            refine st0 2624 rfl (ok (mv (.d (eU8 (y5.1.getD (0 + v29.toNat) 0#8))))) ?_
            refine st0 2688 rfl (ok (cvt8_64 _)) ?_
            obtain ⟨v41, h42, h⟩ := lett_inv h
            refine st0e 2752 rfl (ok (or64 _ _)) (congrArg (fun z => PV.d (eU64 z)) h42) ?_
            refine st0 2816 rfl (ok (mv (.d (eU64 v41)))) ?_
            refine hK40 _ _ ?_
            simp only [n0, n1, n2, n3, n4, n5, n6, n7, n8, n9, n10, n11, n12, n13, n14, n15, n16, n17, n18, n19, reduceIte]
            refine hK36 _ _ _ ?_
            refine hK35 _ _ _ ?_
            refine rwp_region fun K43 hK43 => ?_
            refine st0 2880 rfl (ok (addI _ (1 : Int))) ?_
            refine st0 2944 rfl (ok (mv (.d (eI (w64 (v29 + (1 : Int))))))) ?_
            refine hK43 _ _ ?_
            simp only [n0, n1, n2, n3, n4, n5, n6, n7, n8, n9, n10, n11, n12, n13, n14, n15, n16, n17, n18, n19, reduceIte]
            exact hK30.out _ _ _ k2 (Nat.lt_succ_self k2) ⟨_, _, Settled.refl, _, _, ⟨_, _, h, rfl, rfl⟩, ⟨rfl, ⟨⟨rfl, rfl⟩, ⟨⟨rfl, rfl⟩, ⟨⟨rfl, rfl⟩, ⟨⟨rfl, rfl⟩, trivial⟩⟩⟩⟩, ⟨⟨rfl, rfl⟩, trivial⟩⟩, rfl⟩
          · replace h := ite_f h h34
            refine rwp_f (isF h34) ?_
            refine rwp_exit ?_
            refine hK27 _ _ _ ?_
            exact hK22 _ _ _ ⟨_, _, Settled.refl, _, _, ⟨_, h, rfl, rfl⟩, ⟨rfl, ⟨⟨rfl, rfl⟩, trivial⟩, trivial⟩, rfl⟩

end Go.Proofs.Ty
