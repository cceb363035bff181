/- Each Go function comes to what its plain function says. PRINTED by a program of this session (ty.py). -/
import Derived.Test.YtfhdcabplkhdcaaDoorS1
set_option linter.unusedVariables false
set_option linter.unusedSimpArgs false
set_option maxHeartbeats 4000000
set_option maxRecDepth 10000
namespace Go.Proofs.Ty
open Go Go.RW Go.Proofs
open Go.RW renaming thenK → n0, blockK → n1, keepE → n2, updM → n3, envE → n4
open Go.RW.Mem renaming get → n5
open List renaming filter_cons → n6, filter_nil → n7, nil_append → n8, cons_append → n9, map_cons → n10, map_nil → n11, length_cons → n12, length_nil → n13
open Option renaming isNone_none → n14, isNone_some → n15
open Bool renaming false_eq_true → n16
open Nat renaming reduceEqDiff → n17, reduceAdd → n18, reduceMul → n19
/-- passkey/token.SealPin -/
def tokenSealPinH : Hints := ⟨[(0, [0, 1, 2]), (1, [0, 1, 2, 11]), (2, [6, 7]), (3, [0, 1, 2, 8]), (4, [0, 1, 8]), (5, [6, 7])], []⟩
def tokenSealPinRc : RCode :=
  .seq (.region false [⟨some 6, .mv, [.k (.nil 1)], none, []⟩, ⟨some 7, .mv, [.k (.d (.int .i64 0))], none, []⟩] [0, 1, 2]) (.seq (.seq (.region false [⟨some 9, .mv, [.t 2], none,
  []⟩, ⟨some 10, .lens, [.t 9], none, []⟩, ⟨some 11, .bin .gtr, [.t 10, .k (.d (.int .i64 63))], none, []⟩] [0, 1, 2, 11]) (.cond (.t 11) (.seq (.region false [⟨some 6, .mv, [.k
  (.nil 1)], none, []⟩, ⟨some 7, .mv, [.k (.d (.int .i64 8))], none, []⟩] [6, 7]) .ret) .skip)) (.seq (.region false [⟨some 12, .mks 1 false [.d (.int .u8 0)] 281474976710656, [.k
  (.d (.int .i64 64)), .k (.d (.int .i64 64))], none, []⟩, ⟨some 8, .mv, [.t 12], none, []⟩] [0, 1, 2, 8]) (.seq (.region false [⟨some 13, .mv, [.t 8], none, []⟩, ⟨some 14, .mv,
  [.t 2], none, []⟩, ⟨some 15, .copys, [.t 13, .t 14], none, []⟩] [0, 1, 8]) (.seq (.region false [⟨some 16, .mv, [.t 0], none, []⟩, ⟨some 17, .mv, [.t 1], none, []⟩, ⟨some 18,
  .mv, [.t 8], none, []⟩, ⟨some 19, .call 29 true, [.t 16, .t 17, .k (.nil 1), .t 18], none, []⟩, ⟨some 20, .ext 0, [.t 19], none, []⟩, ⟨some 21, .ext 1, [.t 19], none, []⟩, ⟨some
  6, .mv, [.t 20], none, []⟩, ⟨some 7, .mv, [.t 21], none, []⟩] [6, 7]) .ret))))
def tokenSealPinRr : List RR := [.t 6, .t 7]
theorem tokenSealPinC : compFn Tryd.prog 10 tokenSealPinH = some (tokenSealPinRc, tokenSealPinRr, 22) := by kernel_rfl
theorem tokenSealPinOK (a0 : BitVec 64) (a1 : BitVec 64) (a2 : List (BitVec 8)) (res : (List (BitVec 8)) × Int) (h : tokenSealPin a0 a1 a2 = some res) : CallOK Tryd.prog 10 [.d (eU64 a0), .d (eU64 a1), .d (eS a2)] [] (.tup [.ref 0 res.1.length 0 res.1.length, .d (eI res.2)]) [(0, .row true 1 (res.1.map eU8))] := by
  unfold tokenSealPin at h
  refine callOK tokenSealPinC fm rfl ?_
  simp only [initE, initM, nbor, List.map_cons, List.map_nil, Nat.reduceAdd]
  unfold tokenSealPinRc
  refine rwp_seq fun K1 hK1 => ?_
  refine rwp_region fun K2 hK2 => ?_
  refine st0 128 rfl (ok (mv (.nil 1))) ?_
  refine st0 192 rfl (ok (mv (.d (eI (0 : Int))))) ?_
  refine hK2 _ _ ?_
  simp only [n0, n1, n2, n3, n4, n5, n6, n7, n8, n9, n10, n11, n12, n13, n14, n15, n16, n17, n18, n19, reduceIte]
  refine hK1 _ _ _ ?_
  refine rwp_seq fun K3 hK3 => ?_
  refine rwp_seq fun K4 hK4 => ?_
  refine rwp_region fun K5 hK5 => ?_
  refine st0 256 rfl (ok (mv (.d (eS a2)))) ?_
  refine st0 320 rfl (ok (lenS _)) ?_
  refine st0 384 rfl (ok (gtrI _ (63 : Int))) ?_
  refine hK5 _ _ ?_
  simp only [n0, n1, n2, n3, n4, n5, n6, n7, n8, n9, n10, n11, n12, n13, n14, n15, n16, n17, n18, n19, reduceIte]
  refine hK4 _ _ _ ?_
  rcases Bool.eq_false_or_eq_true ((decide ((63 : Int) < (a2.length : Int)))) with h6 | h6
  · replace h := ite_t h h6
    refine rwp_t (isT h6) ?_
    refine rwp_seq fun K7 hK7 => ?_
    refine rwp_region fun K8 hK8 => ?_
    refine st0 448 rfl (ok (mv (.nil 1))) ?_
    refine st0 512 rfl (ok (mv (.d (eI (8 : Int))))) ?_
    refine hK8 _ _ ?_
    simp only [n0, n1, n2, n3, n4, n5, n6, n7, n8, n9, n10, n11, n12, n13, n14, n15, n16, n17, n18, n19, reduceIte]
    refine hK7 _ _ _ ?_
    refine rwp_ret ?_
    obtain rfl := Option.some.inj h
    try simp only [thenK, blockK, reduceIte]
    exact Or.inl (end_ok trivial (rs_t (v := .nil 1) rfl (rs_t (v := .d (eI (8 : Int))) rfl rs_nil)) (en_nilr (en_d (to_d _) en_nil)) ou_nil (by first | exact eok rfl rfl rfl rfl (And.intro (And.intro rfl rfl) trivial) | (refine eok ?_ ?_ ?_ ?_ ?_ <;> first | rfl | exact (And.intro (And.intro rfl rfl) trivial) | simp [retM, Mem.get, PV.renL, PV.ren, Blk.ren, comps, rhoR, rhoM, appN, PV.refsL, PV.refs, keys, nodupB, Blk.refs, allIn, Blk.bor])))
  · replace h := ite_f h h6
    refine rwp_f (isF h6) ?_
    refine rwp_skip ?_
    refine hK3 _ _ _ ?_
    refine rwp_seq fun K9 hK9 => ?_
    refine rwp_region fun K10 hK10 => ?_
    obtain ⟨h11, h⟩ := asq_inv h
    refine st1 448 rfl (mem' := [(384, .row true 1 ((List.replicate (64 : Int).toNat 0#8).map eU8))]) (ok (mks1 (e := eU8) 0#8 rfl rfl h11)) rfl ?_
    refine st0 512 rfl (ok (mv (.ref 384 (((List.replicate (64 : Int).toNat 0#8)).length) 0 (((List.replicate (64 : Int).toNat 0#8)).length)))) ?_
    refine hK10 _ _ ?_
    simp only [n0, n1, n2, n3, n4, n5, n6, n7, n8, n9, n10, n11, n12, n13, n14, n15, n16, n17, n18, n19, reduceIte]
    refine hK9 _ _ _ ?_
    refine rwp_seq fun K12 hK12 => ?_
    refine rwp_region fun K13 hK13 => ?_
    refine st0 576 rfl (ok (mv (.ref 384 (((List.replicate (64 : Int).toNat 0#8)).length) 0 (((List.replicate (64 : Int).toNat 0#8)).length)))) ?_
    refine st0 640 rfl (ok (mv (.d (eS a2)))) ?_
    refine st1 704 rfl (mem' := [(384, .row true 1 ((putL (List.replicate (64 : Int).toNat 0#8) 0 (a2.take (min a2.length (((List.replicate (64 : Int).toNat 0#8)).length)))).map eU8))]) (ok (cpsR (xs := (List.replicate (64 : Int).toNat 0#8)) (ys := a2) rfl rfl)) rfl ?_
    refine hK13 _ _ ?_
    simp only [n0, n1, n2, n3, n4, n5, n6, n7, n8, n9, n10, n11, n12, n13, n14, n15, n16, n17, n18, n19, reduceIte]
    refine hK12 _ _ _ ?_
    refine rwp_seq fun K14 hK14 => ?_
    refine rwp_region fun K15 hK15 => ?_
    refine st0 768 rfl (ok (mv (.d (eU64 a0)))) ?_
    refine st0 832 rfl (ok (mv (.d (eU64 a1)))) ?_
    refine st0 896 rfl (ok (mv (.ref 384 (((List.replicate (64 : Int).toNat 0#8)).length) 0 (((List.replicate (64 : Int).toNat 0#8)).length)))) ?_
    obtain ⟨y16, h17, h⟩ := bind_inv h
    refine st1 960 rfl (mem' := [(896, .row true 1 (y16.1.map eU8)), (384, .row false 1 ((putL (List.replicate (64 : Int).toNat 0#8) 0 (a2.take (min a2.length (((List.replicate (64 : Int).toNat 0#8)).length)))).map eU8))]) (call_ok (v := .tup [.ref 896 y16.1.length 0 y16.1.length, .d (eI y16.2)]) (u := [(896, .row true 1 (y16.1.map eU8)), (384, .row false 1 ((putL (List.replicate (64 : Int).toNat 0#8) 0 (a2.take (min a2.length (((List.replicate (64 : Int).toNat 0#8)).length)))).map eU8))]) (ar_d (eU64 a0) (ar_d (eU64 a1) (ar_to rfl (to_1 rfl (ds_n eU8 ds_nil)) (ar_to rfl (to_1 rfl (ds_r (ys := (putL (List.replicate (64 : Int).toNat 0#8) 0 (a2.take (min a2.length (((List.replicate (64 : Int).toNat 0#8)).length))))) rfl (by first | exact putLn.symm | simp) (by first | exact putLn.symm | simp) ds_nil)) ar_nil)))) rfl (sealSealOK a0 a1 ([] : List (BitVec 8)) (putL (List.replicate (64 : Int).toNat 0#8) 0 (a2.take (min a2.length (((List.replicate (64 : Int).toNat 0#8)).length)))) y16 h17) rfl) rfl ?_
    refine st0 1024 rfl (ok (extr (v := .ref 896 y16.1.length 0 y16.1.length) rfl rfl)) ?_
    refine st0 1088 rfl (ok (extr (v := .d (eI y16.2)) rfl rfl)) ?_
    refine st0 1152 rfl (ok (mv (.ref 896 y16.1.length 0 y16.1.length))) ?_
    refine st0 1216 rfl (ok (mv (.d (eI y16.2)))) ?_
    refine hK15 _ _ ?_
    simp only [n0, n1, n2, n3, n4, n5, n6, n7, n8, n9, n10, n11, n12, n13, n14, n15, n16, n17, n18, n19, reduceIte]
    refine hK14 _ _ _ ?_
    refine rwp_ret ?_
    obtain rfl := Option.some.inj h
    try simp only [thenK, blockK, reduceIte]
    exact Or.inl (end_ok trivial (rs_t (v := .ref 896 y16.1.length 0 y16.1.length) rfl (rs_t (v := .d (eI y16.2)) rfl rs_nil)) (en_ref (en_d (to_d _) en_nil)) ou_nil (by first | exact eok rfl rfl rfl rfl (And.intro (And.intro rfl rfl) trivial) | (refine eok ?_ ?_ ?_ ?_ ?_ <;> first | rfl | exact (And.intro (And.intro rfl rfl) trivial) | simp [retM, Mem.get, PV.renL, PV.ren, Blk.ren, comps, rhoR, rhoM, appN, PV.refsL, PV.refs, keys, nodupB, Blk.refs, allIn, Blk.bor])))

/-- passkey/seal.word -/
def sealwordH : Hints := ⟨[(0, [1]), (1, [1, 3]), (2, [3, 6, 7]), (3, [3, 6, 7, 8]), (4, [3, 5, 6, 7]), (5, [3, 6, 7]), (6, [3, 6, 7]), (7, [2])], []⟩
def sealwordRc : RCode :=
  .seq (.region false [⟨some 1, .box, [.t 0], none, []⟩, ⟨some 2, .mv, [.k (.d (.int .u64 0))], none, []⟩] [1]) (.seq (.region false [⟨some 3, .mv, [.k (.d (.int .u64 0))], none,
  []⟩] [1, 3]) (.seq (.seq (.region false [⟨some 6, .load 8 true, [.t 1], none, []⟩, ⟨some 7, .mv, [.k (.d (.int .i64 0))], none, []⟩] [3, 6, 7]) (.block 0 (.loop [] (.seq (.region
  false [⟨some 8, .bin .lss, [.t 7, .k (.d (.int .i64 8))], none, []⟩] [3, 6, 7, 8]) (.seq (.cond (.t 8) .skip (.exit 0)) (.seq (.block 1 (.seq (.region false [⟨some 9, .ix 8 1
  false, [.t 6, .t 7], none, []⟩, ⟨some 5, .mv, [.t 9], none, []⟩] [3, 5, 6, 7]) (.region false [⟨some 10, .mv, [.t 3], none, []⟩, ⟨some 11, .bin .shl, [.t 10, .k (.d (.int .u64
  8))], none, []⟩, ⟨some 12, .mv, [.t 5], none, []⟩, ⟨some 13, .cvt .u64, [.t 12], none, []⟩, ⟨some 14, .bin .or, [.t 11, .t 13], none, []⟩, ⟨some 3, .mv, [.t 14], none, []⟩] [3,
  6, 7]))) (.region false [⟨some 15, .bin .add, [.t 7, .k (.d (.int .i64 1))], none, []⟩, ⟨some 7, .mv, [.t 15], none, []⟩] [3, 6, 7]))))))) (.seq (.region false [⟨some 16, .mv,
  [.t 3], none, []⟩, ⟨some 2, .mv, [.t 16], none, []⟩] [2]) .ret)))
def sealwordRr : List RR := [.t 2]
theorem sealwordC : compFn Tryd.prog 47 sealwordH = some (sealwordRc, sealwordRr, 17) := by kernel_rfl
theorem sealwordOK (a0 : List (BitVec 8)) (res : BitVec 64) (h : sealword a0 = some res) : CallOK Tryd.prog 47 [.d ((eA eU8) a0)] [] (.d (eU64 res)) [] := by
  unfold sealword at h
  refine callOK sealwordC fm rfl ?_
  simp only [initE, initM, nbor, List.map_cons, List.map_nil, Nat.reduceAdd]
  unfold sealwordRc
  refine rwp_seq fun K1 hK1 => ?_
  refine rwp_region fun K2 hK2 => ?_
  refine st1 128 rfl (mem' := [(64, .var .mine (a0.map fun x => .d (eU8 x)))]) (ok (bxA (e := eU8) (xs := a0))) rfl ?_
  refine st0 192 rfl (ok (mv (.d (eU64 (0#64))))) ?_
  refine hK2 _ _ ?_
  simp only [n0, n1, n2, n3, n4, n5, n6, n7, n8, n9, n10, n11, n12, n13, n14, n15, n16, n17, n18, n19, reduceIte]
  refine hK1 _ _ _ ?_
  refine rwp_seq fun K3 hK3 => ?_
  refine rwp_region fun K4 hK4 => ?_
  refine st0 256 rfl (ok (mv (.d (eU64 (0#64))))) ?_
  refine hK4 _ _ ?_
  simp only [n0, n1, n2, n3, n4, n5, n6, n7, n8, n9, n10, n11, n12, n13, n14, n15, n16, n17, n18, n19, reduceIte]
  refine hK3 _ _ _ ?_
  refine rwp_join ([], []) 1344 (fun env mem => ∃ (v5 : BitVec 64), sealwordJ1 v5 = some res ∧ env = [(3, .d (eU64 v5))] ∧ mem = []) (fun _ _ hI => ?_) (fun K6 hK6 => ?_)
  · obtain ⟨v5, h, rfl, rfl⟩ := hI
    unfold sealwordJ1 at h
    refine rwp_seq fun K7 hK7 => ?_
    refine rwp_region fun K8 hK8 => ?_
    refine st0 1408 rfl (ok (mv (.d (eU64 v5)))) ?_
    refine st0 1472 rfl (ok (mv (.d (eU64 v5)))) ?_
    refine hK8 _ _ ?_
    simp only [n0, n1, n2, n3, n4, n5, n6, n7, n8, n9, n10, n11, n12, n13, n14, n15, n16, n17, n18, n19, reduceIte]
    refine hK7 _ _ _ ?_
    refine rwp_ret ?_
    obtain rfl := Option.some.inj h
    try simp only [thenK, blockK, reduceIte]
    exact Or.inl (end_ok trivial (rs_t (v := .d (eU64 v5)) rfl rs_nil) (en_d (to_d _) en_nil) ou_nil (by first | exact eok rfl rfl rfl rfl trivial | (refine eok ?_ ?_ ?_ ?_ ?_ <;> first | rfl | exact trivial | simp [retM, Mem.get, PV.renL, PV.ren, Blk.ren, comps, rhoR, rhoM, appN, PV.refsL, PV.refs, keys, nodupB, Blk.refs, allIn, Blk.bor])))
  · refine rwp_seq fun K9 hK9 => ?_
    refine rwp_region fun K10 hK10 => ?_
    obtain ⟨h11, h⟩ := asq_inv h
    refine st0 320 rfl (ok (ld_vA (e := eU8) (xs := a0) rfl h11)) ?_
    refine st0 384 rfl (ok (mv (.d (eI (0 : Int))))) ?_
    refine hK10 _ _ ?_
    simp only [n0, n1, n2, n3, n4, n5, n6, n7, n8, n9, n10, n11, n12, n13, n14, n15, n16, n17, n18, n19, reduceIte]
    refine hK9 _ _ _ ?_
    refine rwp_block fun K12 hK12 => ?_
    refine rwp_loop ([], []) 1216 (fun k env mem => ∃ (v13 : BitVec 64) (v14 : Int), sealwordL2 a0 k v13 v14 = some res ∧ env = [(3, .d (eU64 v13)), (6, .d ((eA eU8) a0)), (7, .d (eI v14))] ∧ mem = []) FUEL ⟨_, _, Settled.refl, _, _, ⟨_, _, h, rfl, rfl⟩, ⟨rfl, ⟨⟨rfl, rfl⟩, ⟨⟨rfl, rfl⟩, ⟨⟨rfl, rfl⟩, trivial⟩⟩⟩, trivial⟩, rfl⟩ (fun k2 env1 mem1 hI K15 hK15 => ?_)
    obtain ⟨v13, v14, h, rfl, rfl⟩ := hI
    cases k2 with
    | zero => simp [sealwordL2] at h
    | succ k2 =>
      rw [sealwordL2] at h
      refine rwp_seq fun K16 hK16 => ?_
      refine rwp_region fun K17 hK17 => ?_
      refine st0 1280 rfl (ok (lssI _ (8 : Int))) ?_
      refine hK17 _ _ ?_
      simp only [n0, n1, n2, n3, n4, n5, n6, n7, n8, n9, n10, n11, n12, n13, n14, n15, n16, n17, n18, n19, reduceIte]
      refine hK16 _ _ _ ?_
      refine rwp_seq fun K18 hK18 => ?_
      rcases Bool.eq_false_or_eq_true ((decide (v14 < (8 : Int)))) with h19 | h19
      · replace h := ite_t h h19
        refine rwp_t (isT h19) ?_
        refine rwp_skip ?_
        refine hK18 _ _ _ ?_
        refine rwp_seq fun K20 hK20 => ?_
        refine rwp_block fun K21 hK21 => ?_
        refine rwp_seq fun K22 hK22 => ?_
        refine rwp_region fun K23 hK23 => ?_
        obtain ⟨h24, h⟩ := asq_inv h
        refine st0 1344 rfl (ok (ixA (xs := a0) 0#8 ⟨h24.1, h24.2.1⟩ h24.2.2)) ?_
        refine st0 1408 rfl (ok (mv (.d (eU8 (a0.getD v14.toNat 0#8))))) ?_
        refine hK23 _ _ ?_
        simp only [n0, n1, n2, n3, n4, n5, n6, n7, n8, n9, n10, n11, n12, n13, n14, n15, n16, n17, n18, n19, reduceIte]
        refine hK22 _ _ _ ?_
        refine rwp_region fun K25 hK25 => ?_
        refine st0 1472 rfl (ok (mv (.d (eU64 v13)))) ?_
        refine st0 1536 rfl (ok (shlL64 _ 8 rfl)) ?_
        refine st0 1600 rfl (ok (mv (.d (eU8 (a0.getD v14.toNat 0#8))))) ?_
        refine st0 1664 rfl (ok (cvt8_64 _)) ?_
        refine st0 1728 rfl (ok (or64 _ _)) ?_
        refine st0 1792 rfl (ok (mv (.d (eU64 ((v13 <<< 8) ||| ((a0.getD v14.toNat 0#8).setWidth 64)))))) ?_
        refine hK25 _ _ ?_
        simp only [n0, n1, n2, n3, n4, n5, n6, n7, n8, n9, n10, n11, n12, n13, n14, n15, n16, n17, n18, n19, reduceIte]
        refine hK21 _ _ _ ?_
        refine hK20 _ _ _ ?_
        refine rwp_region fun K26 hK26 => ?_
        refine st0 1856 rfl (ok (addI _ (1 : Int))) ?_
        refine st0 1920 rfl (ok (mv (.d (eI (w64 (v14 + (1 : Int))))))) ?_
        refine hK26 _ _ ?_
        simp only [n0, n1, n2, n3, n4, n5, n6, n7, n8, n9, n10, n11, n12, n13, n14, n15, n16, n17, n18, n19, reduceIte]
        exact hK15.out _ _ _ k2 (Nat.lt_succ_self k2) ⟨_, _, Settled.refl, _, _, ⟨_, _, h, rfl, rfl⟩, ⟨rfl, ⟨⟨rfl, rfl⟩, ⟨⟨rfl, rfl⟩, ⟨⟨rfl, rfl⟩, trivial⟩⟩⟩, trivial⟩, rfl⟩
      · replace h := ite_f h h19
        refine rwp_f (isF h19) ?_
        refine rwp_exit ?_
        refine hK12 _ _ _ ?_
        exact hK6 _ _ _ ⟨_, _, Settled.refl, _, _, ⟨_, h, rfl, rfl⟩, ⟨rfl, ⟨⟨rfl, rfl⟩, trivial⟩, trivial⟩, rfl⟩

/-- passkey/seal.Open -/
def sealOpenH : Hints := ⟨[(0, [0, 1, 2]), (1, [0, 1, 2, 13]), (2, [6, 7]), (3, [0, 1, 2, 21]), (4, [6, 7]), (5, [0, 1, 8, 9, 10]), (6, [0, 8, 9, 45]), (7, [6, 7]), (8, [6, 7])], []⟩
def sealOpenRc : RCode :=
  .seq (.region false [⟨some 6, .mv, [.k (.nil 1)], none, []⟩, ⟨some 7, .mv, [.k (.d (.int .i64 0))], none, []⟩] [0, 1, 2]) (.seq (.seq (.region false [⟨some 11, .mv, [.t 2], none,
  []⟩, ⟨some 12, .len, [.t 11], none, []⟩, ⟨some 13, .bin .lss, [.t 12, .k (.d (.int .i64 16))], none, []⟩] [0, 1, 2, 13]) (.cond (.t 13) (.seq (.region false [⟨some 6, .mv, [.k
  (.nil 1)], none, []⟩, ⟨some 7, .mv, [.k (.d (.int .i64 1))], none, []⟩] [6, 7]) .ret) .skip)) (.seq (.seq (.region false [⟨some 14, .mv, [.t 2], none, []⟩, ⟨some 15, .len, [.t
  14], none, []⟩, ⟨some 16, .bin .gtr, [.t 15, .k (.d (.int .i64 1040))], none, []⟩, ⟨some 17, .mv, [.t 16], none, []⟩, ⟨some 18, .mv, [.t 1], some (17, false), []⟩, ⟨some 19,
  .len, [.t 18], some (17, false), []⟩, ⟨some 20, .bin .gtr, [.t 19, .k (.d (.int .i64 1024))], some (17, false), []⟩, ⟨some 21, .pick, [.t 17, .k (.d (.bool true)), .t 20], none,
  []⟩] [0, 1, 2, 21]) (.cond (.t 21) (.seq (.region false [⟨some 6, .mv, [.k (.nil 1)], none, []⟩, ⟨some 7, .mv, [.k (.d (.int .i64 8))], none, []⟩] [6, 7]) .ret) .skip)) (.seq
  (.region true [⟨some 22, .mv, [.t 2], none, []⟩, ⟨some 23, .slice 1 false true false, [.t 22, .k (.d (.int .i64 8))], none, [0]⟩, ⟨some 24, .s2a 8, [.t 23], none, [0, 1]⟩, ⟨some
  25, .load 8 true, [.t 24], none, [0, 1, 2]⟩, ⟨some 26, .call 47 false, [.t 25], none, [0, 1, 2, 3]⟩, ⟨some 27, .mv, [.t 2], none, []⟩, ⟨some 28, .mv, [.t 2], none, []⟩, ⟨some 29,
  .len, [.t 28], none, [6]⟩, ⟨some 30, .bin .sub, [.t 29, .k (.d (.int .i64 8))], none, [6, 7]⟩, ⟨some 31, .slice 1 true true false, [.t 27, .k (.d (.int .i64 8)), .t 30], none,
  [5, 6, 7, 8]⟩, ⟨some 32, .mv, [.t 2], none, []⟩, ⟨some 33, .mv, [.t 2], none, []⟩, ⟨some 34, .len, [.t 33], none, [11]⟩, ⟨some 35, .bin .sub, [.t 34, .k (.d (.int .i64 8))],
  none, [11, 12]⟩, ⟨some 36, .slice 1 true false false, [.t 32, .t 35], none, [10, 11, 12, 13]⟩, ⟨some 37, .s2a 8, [.t 36], none, [10, 11, 12, 13, 14]⟩, ⟨some 38, .load 8 true, [.t
  37], none, [10, 11, 12, 13, 14, 15]⟩, ⟨some 10, .alloc [.d (.int .u8 0), .d (.int .u8 0), .d (.int .u8 0), .d (.int .u8 0), .d (.int .u8 0), .d (.int .u8 0), .d (.int .u8 0), .d
  (.int .u8 0)], [], none, []⟩, ⟨some 8, .mv, [.t 26], none, [0, 1, 2, 3, 4, 17]⟩, ⟨some 9, .mv, [.t 31], none, [0, 1, 2, 3, 4, 5, 6, 7, 8, 9, 17, 18]⟩, ⟨none, .store 8, [.t 10, .t
  38], none, [0, 1, 2, 3, 4, 5, 6, 7, 8, 9, 10, 11, 12, 13, 14, 15, 16, 17, 18, 19]⟩] [0, 1, 8, 9, 10]) (.seq (.seq (.region true [⟨some 39, .load 8 true, [.t 10], none, []⟩, ⟨some
  40, .mv, [.t 0], none, []⟩, ⟨some 41, .mv, [.t 8], none, []⟩, ⟨some 42, .mv, [.t 1], none, []⟩, ⟨some 43, .mv, [.t 9], none, []⟩, ⟨some 44, .call 42 false, [.t 40, .t 41, .t 42,
  .t 43], none, [1, 2, 3, 4]⟩, ⟨some 45, .eqa true [1, 1, 1, 1, 1, 1, 1, 1], [.t 39, .t 44], none, [0, 1, 2, 3, 4, 5]⟩] [0, 8, 9, 45]) (.cond (.t 45) (.seq (.region false [⟨some 6,
  .mv, [.k (.nil 1)], none, []⟩, ⟨some 7, .mv, [.k (.d (.int .i64 14))], none, []⟩] [6, 7]) .ret) .skip)) (.seq (.region false [⟨some 46, .mv, [.t 0], none, []⟩, ⟨some 47, .mv, [.t
  8], none, []⟩, ⟨some 48, .mv, [.t 9], none, []⟩, ⟨some 49, .call 41 true, [.t 46, .t 47, .t 48], none, []⟩, ⟨some 6, .mv, [.t 49], none, []⟩, ⟨some 7, .mv, [.k (.d (.int .i64
  0))], none, []⟩] [6, 7]) .ret)))))
def sealOpenRr : List RR := [.t 6, .t 7]
theorem sealOpenC : compFn Tryd.prog 37 sealOpenH = some (sealOpenRc, sealOpenRr, 50) := by kernel_rfl
theorem sealOpenOK (a0 : BitVec 64) (a1 : List (BitVec 8)) (a2 : List (BitVec 8)) (res : (List (BitVec 8)) × Int) (h : sealOpen a0 a1 a2 = some res) : CallOK Tryd.prog 37 [.d (eU64 a0), .d ((eL 1 eU8) a1), .d ((eL 1 eU8) a2)] [] (.tup [.ref 0 res.1.length 0 res.1.length, .d (eI res.2)]) [(0, .row true 1 (res.1.map eU8))] := by
  unfold sealOpen at h
  refine callOK sealOpenC fm rfl ?_
  simp only [initE, initM, nbor, List.map_cons, List.map_nil, Nat.reduceAdd]
  unfold sealOpenRc
  refine rwp_seq fun K1 hK1 => ?_
  refine rwp_region fun K2 hK2 => ?_
  refine st0 128 rfl (ok (mv (.nil 1))) ?_
  refine st0 192 rfl (ok (mv (.d (eI (0 : Int))))) ?_
  refine hK2 _ _ ?_
  simp only [n0, n1, n2, n3, n4, n5, n6, n7, n8, n9, n10, n11, n12, n13, n14, n15, n16, n17, n18, n19, reduceIte]
  refine hK1 _ _ _ ?_
  refine rwp_seq fun K3 hK3 => ?_
  refine rwp_seq fun K4 hK4 => ?_
  refine rwp_region fun K5 hK5 => ?_
  refine st0 256 rfl (ok (mv (.d ((eL 1 eU8) a2)))) ?_
  refine st0 320 rfl (ok (lenL _ _)) ?_
  refine st0 384 rfl (ok (lssI _ (16 : Int))) ?_
  refine hK5 _ _ ?_
  simp only [n0, n1, n2, n3, n4, n5, n6, n7, n8, n9, n10, n11, n12, n13, n14, n15, n16, n17, n18, n19, reduceIte]
  refine hK4 _ _ _ ?_
  rcases Bool.eq_false_or_eq_true ((decide ((a2.length : Int) < (16 : Int)))) with h6 | h6
  · replace h := ite_t h h6
    refine rwp_t (isT h6) ?_
    refine rwp_seq fun K7 hK7 => ?_
    refine rwp_region fun K8 hK8 => ?_
    refine st0 448 rfl (ok (mv (.nil 1))) ?_
    refine st0 512 rfl (ok (mv (.d (eI (1 : Int))))) ?_
    refine hK8 _ _ ?_
    simp only [n0, n1, n2, n3, n4, n5, n6, n7, n8, n9, n10, n11, n12, n13, n14, n15, n16, n17, n18, n19, reduceIte]
    refine hK7 _ _ _ ?_
    refine rwp_ret ?_
    obtain rfl := Option.some.inj h
    try simp only [thenK, blockK, reduceIte]
    exact Or.inl (end_ok trivial (rs_t (v := .nil 1) rfl (rs_t (v := .d (eI (1 : Int))) rfl rs_nil)) (en_nilr (en_d (to_d _) en_nil)) ou_nil (by first | exact eok rfl rfl rfl rfl (And.intro (And.intro rfl rfl) trivial) | (refine eok ?_ ?_ ?_ ?_ ?_ <;> first | rfl | exact (And.intro (And.intro rfl rfl) trivial) | simp [retM, Mem.get, PV.renL, PV.ren, Blk.ren, comps, rhoR, rhoM, appN, PV.refsL, PV.refs, keys, nodupB, Blk.refs, allIn, Blk.bor])))
  · replace h := ite_f h h6
    refine rwp_f (isF h6) ?_
    refine rwp_skip ?_
    refine hK3 _ _ _ ?_
    refine rwp_seq fun K9 hK9 => ?_
    refine rwp_join ([], []) 960 (fun env mem => ∃ (v10 : Bool), sealOpenJ1 a0 a1 a2 v10 = some res ∧ env = [(0, .d (eU64 a0)), (1, .d ((eL 1 eU8) a1)), (2, .d ((eL 1 eU8) a2)), (21, .d (eB v10))] ∧ mem = []) (fun _ _ hI => ?_) (fun K11 hK11 => ?_)
    · obtain ⟨v10, h, rfl, rfl⟩ := hI
      unfold sealOpenJ1 at h
      rcases Bool.eq_false_or_eq_true (v10) with h12 | h12
      · replace h := ite_t h h12
        refine rwp_t (isT h12) ?_
        refine rwp_seq fun K13 hK13 => ?_
        refine rwp_region fun K14 hK14 => ?_
        refine st0 1024 rfl (ok (mv (.nil 1))) ?_
        refine st0 1088 rfl (ok (mv (.d (eI (8 : Int))))) ?_
        refine hK14 _ _ ?_
        simp only [n0, n1, n2, n3, n4, n5, n6, n7, n8, n9, n10, n11, n12, n13, n14, n15, n16, n17, n18, n19, reduceIte]
        refine hK13 _ _ _ ?_
        refine rwp_ret ?_
        obtain rfl := Option.some.inj h
        try simp only [thenK, blockK, reduceIte]
        exact Or.inl (end_ok trivial (rs_t (v := .nil 1) rfl (rs_t (v := .d (eI (8 : Int))) rfl rs_nil)) (en_nilr (en_d (to_d _) en_nil)) ou_nil (by first | exact eok rfl rfl rfl rfl (And.intro (And.intro rfl rfl) trivial) | (refine eok ?_ ?_ ?_ ?_ ?_ <;> first | rfl | exact (And.intro (And.intro rfl rfl) trivial) | simp [retM, Mem.get, PV.renL, PV.ren, Blk.ren, comps, rhoR, rhoM, appN, PV.refsL, PV.refs, keys, nodupB, Blk.refs, allIn, Blk.bor])))
      · replace h := ite_f h h12
        refine rwp_f (isF h12) ?_
        refine rwp_skip ?_
        refine hK9 _ _ _ ?_
        refine rwp_seq fun K15 hK15 => ?_
        refine rwp_draw fun K16 hK16 => ?_
        refine dr0 1024 rfl (ok (mv (.d ((eL 1 eU8) a2)))) (by kernel_rfl) ?_
        obtain ⟨h17, h⟩ := asq_inv h
        refine dr0 1088 rfl (ok (slL_h (xs := a2) (e := eU8) h17)) (by kernel_rfl) ?_
        obtain ⟨h18, h⟩ := asq_inv h
        refine dr0 1152 rfl (ok (s2aL (e := eU8) (xs := (dropTake 0 (8 : Int).toNat a2)) (fun _ => rfl) (by decide) h18)) (by kernel_rfl) ?_
        obtain ⟨h19, h⟩ := asq_inv h
        refine dr0 1216 rfl (ok (ld_iA (e := eU8) (xs := ((dropTake 0 (8 : Int).toNat a2).take 8)) h19)) (by kernel_rfl) ?_
        obtain ⟨y20, h21, h⟩ := bind_inv h
        refine dr0 1280 rfl (call_ok (v := .d (eU64 y20)) (u := []) (ar_d ((eA eU8) ((dropTake 0 (8 : Int).toNat a2).take 8)) ar_nil) rfl (sealwordOK ((dropTake 0 (8 : Int).toNat a2).take 8) y20 h21) rfl) (by kernel_rfl) ?_
        refine dr0 1344 rfl (ok (mv (.d ((eL 1 eU8) a2)))) (by kernel_rfl) ?_
        refine dr0 1408 rfl (ok (mv (.d ((eL 1 eU8) a2)))) (by kernel_rfl) ?_
        refine dr0 1472 rfl (ok (lenL _ _)) (by kernel_rfl) ?_
        refine dr0 1536 rfl (ok (subI _ (8 : Int))) (by kernel_rfl) ?_
        obtain ⟨h22, h⟩ := asq_inv h
        obtain ⟨v23, h24, h⟩ := lett_inv h
        refine dr0e 1600 rfl (ok (slL_lh (xs := a2) (e := eU8) h22)) (congrArg (fun z => PV.d ((eL 1 eU8) z)) h24) (by kernel_rfl) ?_
        refine dr0 1664 rfl (ok (mv (.d ((eL 1 eU8) a2)))) (by kernel_rfl) ?_
        refine dr0 1728 rfl (ok (mv (.d ((eL 1 eU8) a2)))) (by kernel_rfl) ?_
        refine dr0 1792 rfl (ok (lenL _ _)) (by kernel_rfl) ?_
        refine dr0 1856 rfl (ok (subI _ (8 : Int))) (by kernel_rfl) ?_
        obtain ⟨h25, h⟩ := asq_inv h
        obtain ⟨v26, h27, h⟩ := lett_inv h
        refine dr0e 1920 rfl (ok (slL_l (xs := a2) (e := eU8) h25)) (congrArg (fun z => PV.d ((eL 1 eU8) z)) h27) (by kernel_rfl) ?_
        obtain ⟨h28, h⟩ := asq_inv h
        refine dr0 1984 rfl (ok (s2aL (e := eU8) (xs := v26) (fun _ => rfl) (by decide) h28)) (by kernel_rfl) ?_
        obtain ⟨h29, h⟩ := asq_inv h
        refine dr0 2048 rfl (ok (ld_iA (e := eU8) (xs := (v26.take 8)) h29)) (by kernel_rfl) ?_
        refine dr1 2112 rfl (mem' := [(2048, .var .mine ((List.replicate 8 (0#8)).map fun x => .d (eU8 x)))]) (ok (alcA (e := eU8) (xs := (List.replicate 8 (0#8))) rfl)) rfl (by kernel_rfl) ?_
        refine dr0 2176 rfl (ok (mv (.d (eU64 y20)))) (by kernel_rfl) ?_
        refine dr0 2240 rfl (ok (mv (.d ((eL 1 eU8) v23)))) (by kernel_rfl) ?_
        obtain ⟨h30, h⟩ := asq_inv h
        refine drn 2304 rfl (mem' := [(2048, .var .mine ((v26.take 8).map fun x => .d (eU8 x)))]) (ok (stoA (e := eU8) (xs := (List.replicate 8 (0#8))) (ys := (v26.take 8)) rfl rfl h30)) rfl (by kernel_rfl) ?_
        refine hK16 _ _ ?_
        simp only [n0, n1, n2, n3, n4, n5, n6, n7, n8, n9, n10, n11, n12, n13, n14, n15, n16, n17, n18, n19, reduceIte]
        refine hK15 _ _ _ ?_
        refine rwp_seq fun K31 hK31 => ?_
        refine rwp_seq fun K32 hK32 => ?_
        refine rwp_draw fun K33 hK33 => ?_
        obtain ⟨h34, h⟩ := asq_inv h
        refine dr0 2368 rfl (ok (ld_vA (e := eU8) (xs := (v26.take 8)) rfl h34)) (by kernel_rfl) ?_
        refine dr0 2432 rfl (ok (mv (.d (eU64 a0)))) (by kernel_rfl) ?_
        refine dr0 2496 rfl (ok (mv (.d (eU64 y20)))) (by kernel_rfl) ?_
        refine dr0 2560 rfl (ok (mv (.d ((eL 1 eU8) a1)))) (by kernel_rfl) ?_
        refine dr0 2624 rfl (ok (mv (.d ((eL 1 eU8) v23)))) (by kernel_rfl) ?_
        obtain ⟨y35, h36, h⟩ := bind_inv h
        refine dr0 2688 rfl (call_okF (ar_d (eU64 a0) (ar_d (eU64 y20) (ar_d ((eL 1 eU8) a1) (ar_d ((eL 1 eU8) v23) ar_nil)))) (sealtagOK a0 y20 a1 v23 y35 h36) (flat_A (fun _ => rfl) _)) (by kernel_rfl) ?_
        obtain ⟨h37, h⟩ := asq_inv h
        refine dr0 2752 rfl (ok (eqa_n rfl rfl (eq_list (xs := (v26.take 8)) (ys := y35) eqk_u8 h37.1 h37.2))) (by kernel_rfl) ?_
        refine hK33 _ _ ?_
        simp only [n0, n1, n2, n3, n4, n5, n6, n7, n8, n9, n10, n11, n12, n13, n14, n15, n16, n17, n18, n19, reduceIte]
        refine hK32 _ _ _ ?_
        rcases Bool.eq_false_or_eq_true ((!((v26.take 8) == y35))) with h38 | h38
        · replace h := ite_t h h38
          refine rwp_t (isT h38) ?_
          refine rwp_seq fun K39 hK39 => ?_
          refine rwp_region fun K40 hK40 => ?_
          refine st0 2816 rfl (ok (mv (.nil 1))) ?_
          refine st0 2880 rfl (ok (mv (.d (eI (14 : Int))))) ?_
          refine hK40 _ _ ?_
          simp only [n0, n1, n2, n3, n4, n5, n6, n7, n8, n9, n10, n11, n12, n13, n14, n15, n16, n17, n18, n19, reduceIte]
          refine hK39 _ _ _ ?_
          refine rwp_ret ?_
          obtain rfl := Option.some.inj h
          try simp only [thenK, blockK, reduceIte]
          exact Or.inl (end_ok trivial (rs_t (v := .nil 1) rfl (rs_t (v := .d (eI (14 : Int))) rfl rs_nil)) (en_nilr (en_d (to_d _) en_nil)) ou_nil (by first | exact eok rfl rfl rfl rfl (And.intro (And.intro rfl rfl) trivial) | (refine eok ?_ ?_ ?_ ?_ ?_ <;> first | rfl | exact (And.intro (And.intro rfl rfl) trivial) | simp [retM, Mem.get, PV.renL, PV.ren, Blk.ren, comps, rhoR, rhoM, appN, PV.refsL, PV.refs, keys, nodupB, Blk.refs, allIn, Blk.bor])))
        · replace h := ite_f h h38
          refine rwp_f (isF h38) ?_
          refine rwp_skip ?_
          refine hK31 _ _ _ ?_
          refine rwp_seq fun K41 hK41 => ?_
          refine rwp_region fun K42 hK42 => ?_
          refine st0 2816 rfl (ok (mv (.d (eU64 a0)))) ?_
          refine st0 2880 rfl (ok (mv (.d (eU64 y20)))) ?_
          refine st0 2944 rfl (ok (mv (.d ((eL 1 eU8) v23)))) ?_
          obtain ⟨y43, h44, h⟩ := bind_inv h
          refine st1 3008 rfl (mem' := [(2944, .row true 1 (y43.map eU8)), (2048, .var .mine ((v26.take 8).map fun x => .d (eU8 x)))]) (call_ok (v := .ref 2944 y43.length 0 y43.length) (u := [(2944, .row true 1 (y43.map eU8))]) (ar_d (eU64 a0) (ar_d (eU64 y20) (ar_d ((eL 1 eU8) v23) ar_nil))) rfl (sealmixedOK a0 y20 v23 y43 h44) rfl) rfl ?_
          refine st0 3072 rfl (ok (mv (.ref 2944 y43.length 0 y43.length))) ?_
          refine st0 3136 rfl (ok (mv (.d (eI (0 : Int))))) ?_
          refine hK42 _ _ ?_
          simp only [n0, n1, n2, n3, n4, n5, n6, n7, n8, n9, n10, n11, n12, n13, n14, n15, n16, n17, n18, n19, reduceIte]
          refine hK41 _ _ _ ?_
          refine rwp_ret ?_
          obtain rfl := Option.some.inj h
          try simp only [thenK, blockK, reduceIte]
          exact Or.inl (end_ok trivial (rs_t (v := .ref 2944 y43.length 0 y43.length) rfl (rs_t (v := .d (eI (0 : Int))) rfl rs_nil)) (en_ref (en_d (to_d _) en_nil)) ou_nil (by first | exact eok rfl rfl rfl rfl (And.intro (And.intro rfl rfl) trivial) | (refine eok ?_ ?_ ?_ ?_ ?_ <;> first | rfl | exact (And.intro (And.intro rfl rfl) trivial) | simp [retM, Mem.get, PV.renL, PV.ren, Blk.ren, comps, rhoR, rhoM, appN, PV.refsL, PV.refs, keys, nodupB, Blk.refs, allIn, Blk.bor])))
    · refine rwp_region fun K45 hK45 => ?_
      refine st0 448 rfl (ok (mv (.d ((eL 1 eU8) a2)))) ?_
      refine st0 512 rfl (ok (lenL _ _)) ?_
      refine st0 576 rfl (ok (gtrI _ (1040 : Int))) ?_
      refine st0 640 rfl (ok (mv (.d (eB (decide ((1040 : Int) < (a2.length : Int))))))) ?_
      rcases Bool.eq_false_or_eq_true ((decide ((1040 : Int) < (a2.length : Int)))) with h46 | h46
      · replace h := ite_t h h46
        refine stGN 704 rfl rfl h46 ?_
        refine stGN 768 rfl rfl h46 ?_
        refine stGN 832 rfl rfl h46 ?_
        refine st0 896 rfl (ok (pick_t h46 (.d (eB true)) _)) ?_
        refine hK45 _ _ ?_
        simp only [n0, n1, n2, n3, n4, n5, n6, n7, n8, n9, n10, n11, n12, n13, n14, n15, n16, n17, n18, n19, reduceIte]
        exact hK11 _ _ _ ⟨_, _, Settled.refl, _, _, ⟨_, h, rfl, rfl⟩, ⟨rfl, ⟨⟨rfl, rfl⟩, ⟨⟨rfl, rfl⟩, ⟨⟨rfl, rfl⟩, ⟨⟨rfl, rfl⟩, trivial⟩⟩⟩⟩, trivial⟩, rfl⟩
      · replace h := ite_f h h46
        refine stG (isF h46) ?_
        refine st0 704 rfl (ok (mv (.d ((eL 1 eU8) a1)))) ?_
        refine stG (isF h46) ?_
        refine st0 768 rfl (ok (lenL _ _)) ?_
        refine stG (isF h46) ?_
        refine st0 832 rfl (ok (gtrI _ (1024 : Int))) ?_
        refine st0 896 rfl (ok (pick_f h46 _ (.d (eB (decide ((1024 : Int) < (a1.length : Int))))))) ?_
        refine hK45 _ _ ?_
        simp only [n0, n1, n2, n3, n4, n5, n6, n7, n8, n9, n10, n11, n12, n13, n14, n15, n16, n17, n18, n19, reduceIte]
        exact hK11 _ _ _ ⟨_, _, Settled.refl, _, _, ⟨_, h, rfl, rfl⟩, ⟨rfl, ⟨⟨rfl, rfl⟩, ⟨⟨rfl, rfl⟩, ⟨⟨rfl, rfl⟩, ⟨⟨rfl, rfl⟩, trivial⟩⟩⟩⟩, trivial⟩, rfl⟩

theorem bytealgIndexByteStringOK (a0 : List (BitVec 8)) (a1 : BitVec 8) (res : Int) (h : bytealgIndexByteString a0 a1 = some res) : CallOK Tryd.prog 62 [.d (eS a0), .d (eU8 a1)] [] (.d (eI res)) [] := by
  obtain rfl : _ = res := Option.some.inj h
  exact indexByteOK Tryd.func62 (by kernel_rfl) (by kernel_rfl) (by kernel_rfl) (by kernel_rfl) a0 a1

/-- internal/stringslite.IndexByte -/
def stringsliteIndexByteH : Hints := ⟨[(0, [0, 1]), (1, [4])], []⟩
def stringsliteIndexByteRc : RCode :=
  .seq (.region false [⟨some 4, .mv, [.k (.d (.int .i64 0))], none, []⟩] [0, 1]) (.seq (.region false [⟨some 5, .mv, [.t 0], none, []⟩, ⟨some 6, .mv, [.t 1], none, []⟩, ⟨some 7,
  .call 62 false, [.t 5, .t 6], none, []⟩, ⟨some 4, .mv, [.t 7], none, []⟩] [4]) .ret)
def stringsliteIndexByteRr : List RR := [.t 4]
theorem stringsliteIndexByteC : compFn Tryd.prog 48 stringsliteIndexByteH = some (stringsliteIndexByteRc, stringsliteIndexByteRr, 8) := by kernel_rfl
theorem stringsliteIndexByteOK (a0 : List (BitVec 8)) (a1 : BitVec 8) (res : Int) (h : stringsliteIndexByte a0 a1 = some res) : CallOK Tryd.prog 48 [.d (eS a0), .d (eU8 a1)] [] (.d (eI res)) [] := by
  unfold stringsliteIndexByte at h
  refine callOK stringsliteIndexByteC fm rfl ?_
  simp only [initE, initM, nbor, List.map_cons, List.map_nil, Nat.reduceAdd]
  unfold stringsliteIndexByteRc
  refine rwp_seq fun K1 hK1 => ?_
  refine rwp_region fun K2 hK2 => ?_
  refine st0 128 rfl (ok (mv (.d (eI (0 : Int))))) ?_
  refine hK2 _ _ ?_
  simp only [n0, n1, n2, n3, n4, n5, n6, n7, n8, n9, n10, n11, n12, n13, n14, n15, n16, n17, n18, n19, reduceIte]
  refine hK1 _ _ _ ?_
  refine rwp_seq fun K3 hK3 => ?_
  refine rwp_region fun K4 hK4 => ?_
  refine st0 192 rfl (ok (mv (.d (eS a0)))) ?_
  refine st0 256 rfl (ok (mv (.d (eU8 a1)))) ?_
  obtain ⟨y5, h6, h⟩ := bind_inv h
  refine st0 320 rfl (call_ok (v := .d (eI y5)) (u := []) (ar_d (eS a0) (ar_d (eU8 a1) ar_nil)) rfl (bytealgIndexByteStringOK a0 a1 y5 h6) rfl) ?_
  refine st0 384 rfl (ok (mv (.d (eI y5)))) ?_
  refine hK4 _ _ ?_
  simp only [n0, n1, n2, n3, n4, n5, n6, n7, n8, n9, n10, n11, n12, n13, n14, n15, n16, n17, n18, n19, reduceIte]
  refine hK3 _ _ _ ?_
  refine rwp_ret ?_
  obtain rfl := Option.some.inj h
  try simp only [thenK, blockK, reduceIte]
  exact Or.inl (end_ok trivial (rs_t (v := .d (eI y5)) rfl rs_nil) (en_d (to_d _) en_nil) ou_nil (by first | exact eok rfl rfl rfl rfl trivial | (refine eok ?_ ?_ ?_ ?_ ?_ <;> first | rfl | exact trivial | simp [retM, Mem.get, PV.renL, PV.ren, Blk.ren, comps, rhoR, rhoM, appN, PV.refsL, PV.refs, keys, nodupB, Blk.refs, allIn, Blk.bor])))

/-- strings.IndexByte -/
def stringsIndexByteH : Hints := ⟨[(0, [0, 1]), (1, [4])], []⟩
def stringsIndexByteRc : RCode :=
  .seq (.region false [⟨some 4, .mv, [.k (.d (.int .i64 0))], none, []⟩] [0, 1]) (.seq (.region false [⟨some 5, .mv, [.t 0], none, []⟩, ⟨some 6, .mv, [.t 1], none, []⟩, ⟨some 7,
  .call 48 false, [.t 5, .t 6], none, []⟩, ⟨some 4, .mv, [.t 7], none, []⟩] [4]) .ret)
def stringsIndexByteRr : List RR := [.t 4]
theorem stringsIndexByteC : compFn Tryd.prog 38 stringsIndexByteH = some (stringsIndexByteRc, stringsIndexByteRr, 8) := by kernel_rfl
theorem stringsIndexByteOK (a0 : List (BitVec 8)) (a1 : BitVec 8) (res : Int) (h : stringsIndexByte a0 a1 = some res) : CallOK Tryd.prog 38 [.d (eS a0), .d (eU8 a1)] [] (.d (eI res)) [] := by
  unfold stringsIndexByte at h
  refine callOK stringsIndexByteC fm rfl ?_
  simp only [initE, initM, nbor, List.map_cons, List.map_nil, Nat.reduceAdd]
  unfold stringsIndexByteRc
  refine rwp_seq fun K1 hK1 => ?_
  refine rwp_region fun K2 hK2 => ?_
  refine st0 128 rfl (ok (mv (.d (eI (0 : Int))))) ?_
  refine hK2 _ _ ?_
  simp only [n0, n1, n2, n3, n4, n5, n6, n7, n8, n9, n10, n11, n12, n13, n14, n15, n16, n17, n18, n19, reduceIte]
  refine hK1 _ _ _ ?_
  refine rwp_seq fun K3 hK3 => ?_
  refine rwp_region fun K4 hK4 => ?_
  refine st0 192 rfl (ok (mv (.d (eS a0)))) ?_
  refine st0 256 rfl (ok (mv (.d (eU8 a1)))) ?_
  obtain ⟨y5, h6, h⟩ := bind_inv h
  refine st0 320 rfl (call_ok (v := .d (eI y5)) (u := []) (ar_d (eS a0) (ar_d (eU8 a1) ar_nil)) rfl (stringsliteIndexByteOK a0 a1 y5 h6) rfl) ?_
  refine st0 384 rfl (ok (mv (.d (eI y5)))) ?_
  refine hK4 _ _ ?_
  simp only [n0, n1, n2, n3, n4, n5, n6, n7, n8, n9, n10, n11, n12, n13, n14, n15, n16, n17, n18, n19, reduceIte]
  refine hK3 _ _ _ ?_
  refine rwp_ret ?_
  obtain rfl := Option.some.inj h
  try simp only [thenK, blockK, reduceIte]
  exact Or.inl (end_ok trivial (rs_t (v := .d (eI y5)) rfl rs_nil) (en_d (to_d _) en_nil) ou_nil (by first | exact eok rfl rfl rfl rfl trivial | (refine eok ?_ ?_ ?_ ?_ ?_ <;> first | rfl | exact trivial | simp [retM, Mem.get, PV.renL, PV.ren, Blk.ren, comps, rhoR, rhoM, appN, PV.refsL, PV.refs, keys, nodupB, Blk.refs, allIn, Blk.bor])))

/-- strings.trimRightByte -/
def stringstrimRightByteH : Hints := ⟨[(0, [0, 1]), (1, [0, 1, 16]), (2, [0, 1]), (3, [4])], []⟩
def stringstrimRightByteRc : RCode :=
  .seq (.region false [⟨some 4, .mv, [.k (.d (.str ⟨#[]⟩))], none, []⟩] [0, 1]) (.seq (.block 0 (.loop [] (.seq (.seq (.region false [⟨some 5, .mv, [.t 0], none, []⟩, ⟨some 6, .lens,
  [.t 5], none, []⟩, ⟨some 7, .bin .gtr, [.t 6, .k (.d (.int .i64 0))], none, []⟩, ⟨some 8, .mv, [.t 7], none, []⟩, ⟨some 9, .mv, [.t 0], some (8, true), []⟩, ⟨some 10, .mv, [.t
  0], some (8, true), []⟩, ⟨some 11, .lens, [.t 10], some (8, true), []⟩, ⟨some 12, .bin .sub, [.t 11, .k (.d (.int .i64 1))], some (8, true), []⟩, ⟨some 13, .sx, [.t 9, .t 12],
  some (8, true), []⟩, ⟨some 14, .mv, [.t 1], some (8, true), []⟩, ⟨some 15, .bin .eql, [.t 13, .t 14], some (8, true), []⟩, ⟨some 16, .pick, [.t 8, .t 15, .k (.d (.bool false))],
  none, []⟩] [0, 1, 16]) (.cond (.t 16) .skip (.exit 0))) (.block 1 (.region false [⟨some 17, .mv, [.t 0], none, []⟩, ⟨some 18, .mv, [.t 0], none, []⟩, ⟨some 19, .lens, [.t 18],
  none, []⟩, ⟨some 20, .bin .sub, [.t 19, .k (.d (.int .i64 1))], none, []⟩, ⟨some 21, .sslice false true, [.t 17, .t 20], none, []⟩, ⟨some 0, .mv, [.t 21], none, []⟩] [0, 1])))))
  (.seq (.region false [⟨some 22, .mv, [.t 0], none, []⟩, ⟨some 4, .mv, [.t 22], none, []⟩] [4]) .ret))
def stringstrimRightByteRr : List RR := [.t 4]
theorem stringstrimRightByteC : compFn Tryd.prog 50 stringstrimRightByteH = some (stringstrimRightByteRc, stringstrimRightByteRr, 23) := by kernel_rfl
theorem stringstrimRightByteOK (a0 : List (BitVec 8)) (a1 : BitVec 8) (res : List (BitVec 8)) (h : stringstrimRightByte a0 a1 = some res) : CallOK Tryd.prog 50 [.d (eS a0), .d (eU8 a1)] [] (.d (eS res)) [] := by
  unfold stringstrimRightByte at h
  refine callOK stringstrimRightByteC fm rfl ?_
  simp only [initE, initM, nbor, List.map_cons, List.map_nil, Nat.reduceAdd]
  unfold stringstrimRightByteRc
  refine rwp_seq fun K1 hK1 => ?_
  refine rwp_region fun K2 hK2 => ?_
  refine st0 128 rfl (ok (mv (.d (eS ([] : List (BitVec 8)))))) ?_
  refine hK2 _ _ ?_
  simp only [n0, n1, n2, n3, n4, n5, n6, n7, n8, n9, n10, n11, n12, n13, n14, n15, n16, n17, n18, n19, reduceIte]
  refine hK1 _ _ _ ?_
  refine rwp_join ([], []) 2368 (fun env mem => ∃ (v3 : List (BitVec 8)), stringstrimRightByteJ1 v3 = some res ∧ env = [(0, .d (eS v3))] ∧ mem = []) (fun _ _ hI => ?_) (fun K4 hK4 => ?_)
  · obtain ⟨v3, h, rfl, rfl⟩ := hI
    unfold stringstrimRightByteJ1 at h
    refine rwp_seq fun K5 hK5 => ?_
    refine rwp_region fun K6 hK6 => ?_
    refine st0 2432 rfl (ok (mv (.d (eS v3)))) ?_
    refine st0 2496 rfl (ok (mv (.d (eS v3)))) ?_
    refine hK6 _ _ ?_
    simp only [n0, n1, n2, n3, n4, n5, n6, n7, n8, n9, n10, n11, n12, n13, n14, n15, n16, n17, n18, n19, reduceIte]
    refine hK5 _ _ _ ?_
    refine rwp_ret ?_
    obtain rfl := Option.some.inj h
    try simp only [thenK, blockK, reduceIte]
    exact Or.inl (end_ok trivial (rs_t (v := .d (eS v3)) rfl rs_nil) (en_d (to_d _) en_nil) ou_nil (by first | exact eok rfl rfl rfl rfl trivial | (refine eok ?_ ?_ ?_ ?_ ?_ <;> first | rfl | exact trivial | simp [retM, Mem.get, PV.renL, PV.ren, Blk.ren, comps, rhoR, rhoM, appN, PV.refsL, PV.refs, keys, nodupB, Blk.refs, allIn, Blk.bor])))
  · refine rwp_block fun K7 hK7 => ?_
    refine rwp_loop ([], []) 1472 (fun k env mem => ∃ (v8 : List (BitVec 8)), stringstrimRightByteL2 a1 k v8 = some res ∧ env = [(0, .d (eS v8)), (1, .d (eU8 a1))] ∧ mem = []) FUEL ⟨_, _, Settled.refl, _, _, ⟨_, h, rfl, rfl⟩, ⟨rfl, ⟨⟨rfl, rfl⟩, ⟨⟨rfl, rfl⟩, trivial⟩⟩, trivial⟩, rfl⟩ (fun k2 env1 mem1 hI K9 hK9 => ?_)
    obtain ⟨v8, h, rfl, rfl⟩ := hI
    cases k2 with
    | zero => simp [stringstrimRightByteL2] at h
    | succ k2 =>
      rw [stringstrimRightByteL2] at h
      refine rwp_seq fun K10 hK10 => ?_
      refine rwp_join ([], []) 2304 (fun env mem => ∃ (v11 : Bool), stringstrimRightByteJ3 (stringstrimRightByteL2 a1 k2) v8 v11 = some res ∧ env = [(0, .d (eS v8)), (1, .d (eU8 a1)), (16, .d (eB v11))] ∧ mem = []) (fun _ _ hI => ?_) (fun K12 hK12 => ?_)
      · obtain ⟨v11, h, rfl, rfl⟩ := hI
        unfold stringstrimRightByteJ3 at h
        rcases Bool.eq_false_or_eq_true (v11) with h13 | h13
        · replace h := ite_t h h13
          refine rwp_t (isT h13) ?_
          refine rwp_skip ?_
          refine hK10 _ _ _ ?_
          refine rwp_block fun K14 hK14 => ?_
          refine rwp_region fun K15 hK15 => ?_
          refine st0 2368 rfl (ok (mv (.d (eS v8)))) ?_
          refine st0 2432 rfl (ok (mv (.d (eS v8)))) ?_
          refine st0 2496 rfl (ok (lenS _)) ?_
          refine st0 2560 rfl (ok (subI _ (1 : Int))) ?_
          obtain ⟨h16, h⟩ := asq_inv h
          refine st0 2624 rfl (ok (sliS_h (x := v8) h16)) ?_
          refine st0 2688 rfl (ok (mv (.d (eS (dropTake 0 (w64 ((v8.length : Int) - (1 : Int))).toNat v8))))) ?_
          refine hK15 _ _ ?_
          simp only [n0, n1, n2, n3, n4, n5, n6, n7, n8, n9, n10, n11, n12, n13, n14, n15, n16, n17, n18, n19, reduceIte]
          refine hK14 _ _ _ ?_
          exact hK9.out _ _ _ k2 (Nat.lt_succ_self k2) ⟨_, _, Settled.refl, _, _, ⟨_, h, rfl, rfl⟩, ⟨rfl, ⟨⟨rfl, rfl⟩, ⟨⟨rfl, rfl⟩, trivial⟩⟩, trivial⟩, rfl⟩
        · replace h := ite_f h h13
          refine rwp_f (isF h13) ?_
          refine rwp_exit ?_
          refine hK7 _ _ _ ?_
          exact hK4 _ _ _ ⟨_, _, Settled.refl, _, _, ⟨_, h, rfl, rfl⟩, ⟨rfl, ⟨⟨rfl, rfl⟩, trivial⟩, trivial⟩, rfl⟩
      · refine rwp_region fun K17 hK17 => ?_
        refine st0 1536 rfl (ok (mv (.d (eS v8)))) ?_
        refine st0 1600 rfl (ok (lenS _)) ?_
        refine st0 1664 rfl (ok (gtrI _ (0 : Int))) ?_
        refine st0 1728 rfl (ok (mv (.d (eB (decide ((0 : Int) < (v8.length : Int))))))) ?_
        rcases Bool.eq_false_or_eq_true ((decide ((0 : Int) < (v8.length : Int)))) with h18 | h18
        · replace h := ite_t h h18
          refine stG (isT h18) ?_
          refine st0 1792 rfl (ok (mv (.d (eS v8)))) ?_
          refine stG (isT h18) ?_
          refine st0 1856 rfl (ok (mv (.d (eS v8)))) ?_
          refine stG (isT h18) ?_
          refine st0 1920 rfl (ok (lenS _)) ?_
          refine stG (isT h18) ?_
          refine st0 1984 rfl (ok (subI _ (1 : Int))) ?_
          refine stG (isT h18) ?_
          obtain ⟨h19, h⟩ := asq_inv h
          refine st0 2048 rfl (ok (idxS v8 h19)) ?_
          refine stG (isT h18) ?_
          refine st0 2112 rfl (ok (mv (.d (eU8 a1)))) ?_
          refine stG (isT h18) ?_
          refine st0 2176 rfl (ok (eql8 _ _)) ?_
          refine st0 2240 rfl (ok (pick_t h18 (.d (eB ((v8.getD (w64 ((v8.length : Int) - (1 : Int))).toNat 0#8) == a1))) _)) ?_
          refine hK17 _ _ ?_
          simp only [n0, n1, n2, n3, n4, n5, n6, n7, n8, n9, n10, n11, n12, n13, n14, n15, n16, n17, n18, n19, reduceIte]
          exact hK12 _ _ _ ⟨_, _, Settled.refl, _, _, ⟨_, h, rfl, rfl⟩, ⟨rfl, ⟨⟨rfl, rfl⟩, ⟨⟨rfl, rfl⟩, ⟨⟨rfl, rfl⟩, trivial⟩⟩⟩, trivial⟩, rfl⟩
        · replace h := ite_f h h18
          refine stGN 1792 rfl rfl h18 ?_
          refine stGN 1856 rfl rfl h18 ?_
          refine stGN 1920 rfl rfl h18 ?_
          refine stGN 1984 rfl rfl h18 ?_
          refine stGN 2048 rfl rfl h18 ?_
          refine stGN 2112 rfl rfl h18 ?_
          refine stGN 2176 rfl rfl h18 ?_
          refine st0 2240 rfl (ok (pick_f h18 _ (.d (eB false)))) ?_
          refine hK17 _ _ ?_
          simp only [n0, n1, n2, n3, n4, n5, n6, n7, n8, n9, n10, n11, n12, n13, n14, n15, n16, n17, n18, n19, reduceIte]
          exact hK12 _ _ _ ⟨_, _, Settled.refl, _, _, ⟨_, h, rfl, rfl⟩, ⟨rfl, ⟨⟨rfl, rfl⟩, ⟨⟨rfl, rfl⟩, ⟨⟨rfl, rfl⟩, trivial⟩⟩⟩, trivial⟩, rfl⟩

/-- strings.trimLeftByte -/
def stringstrimLeftByteH : Hints := ⟨[(0, [0, 1]), (1, [0, 1, 13]), (2, [0, 1]), (3, [4])], []⟩
def stringstrimLeftByteRc : RCode :=
  .seq (.region false [⟨some 4, .mv, [.k (.d (.str ⟨#[]⟩))], none, []⟩] [0, 1]) (.seq (.block 0 (.loop [] (.seq (.seq (.region false [⟨some 5, .mv, [.t 0], none, []⟩, ⟨some 6, .lens,
  [.t 5], none, []⟩, ⟨some 7, .bin .gtr, [.t 6, .k (.d (.int .i64 0))], none, []⟩, ⟨some 8, .mv, [.t 7], none, []⟩, ⟨some 9, .mv, [.t 0], some (8, true), []⟩, ⟨some 10, .sx, [.t 9,
  .k (.d (.int .i64 0))], some (8, true), []⟩, ⟨some 11, .mv, [.t 1], some (8, true), []⟩, ⟨some 12, .bin .eql, [.t 10, .t 11], some (8, true), []⟩, ⟨some 13, .pick, [.t 8, .t 12,
  .k (.d (.bool false))], none, []⟩] [0, 1, 13]) (.cond (.t 13) .skip (.exit 0))) (.block 1 (.region false [⟨some 14, .mv, [.t 0], none, []⟩, ⟨some 15, .sslice true false, [.t 14,
  .k (.d (.int .i64 1))], none, []⟩, ⟨some 0, .mv, [.t 15], none, []⟩] [0, 1]))))) (.seq (.region false [⟨some 16, .mv, [.t 0], none, []⟩, ⟨some 4, .mv, [.t 16], none, []⟩] [4])
  .ret))
def stringstrimLeftByteRr : List RR := [.t 4]
theorem stringstrimLeftByteC : compFn Tryd.prog 49 stringstrimLeftByteH = some (stringstrimLeftByteRc, stringstrimLeftByteRr, 17) := by kernel_rfl
theorem stringstrimLeftByteOK (a0 : List (BitVec 8)) (a1 : BitVec 8) (res : List (BitVec 8)) (h : stringstrimLeftByte a0 a1 = some res) : CallOK Tryd.prog 49 [.d (eS a0), .d (eU8 a1)] [] (.d (eS res)) [] := by
  unfold stringstrimLeftByte at h
  refine callOK stringstrimLeftByteC fm rfl ?_
  simp only [initE, initM, nbor, List.map_cons, List.map_nil, Nat.reduceAdd]
  unfold stringstrimLeftByteRc
  refine rwp_seq fun K1 hK1 => ?_
  refine rwp_region fun K2 hK2 => ?_
  refine st0 128 rfl (ok (mv (.d (eS ([] : List (BitVec 8)))))) ?_
  refine hK2 _ _ ?_
  simp only [n0, n1, n2, n3, n4, n5, n6, n7, n8, n9, n10, n11, n12, n13, n14, n15, n16, n17, n18, n19, reduceIte]
  refine hK1 _ _ _ ?_
  refine rwp_join ([], []) 1792 (fun env mem => ∃ (v3 : List (BitVec 8)), stringstrimLeftByteJ1 v3 = some res ∧ env = [(0, .d (eS v3))] ∧ mem = []) (fun _ _ hI => ?_) (fun K4 hK4 => ?_)
  · obtain ⟨v3, h, rfl, rfl⟩ := hI
    unfold stringstrimLeftByteJ1 at h
    refine rwp_seq fun K5 hK5 => ?_
    refine rwp_region fun K6 hK6 => ?_
    refine st0 1856 rfl (ok (mv (.d (eS v3)))) ?_
    refine st0 1920 rfl (ok (mv (.d (eS v3)))) ?_
    refine hK6 _ _ ?_
    simp only [n0, n1, n2, n3, n4, n5, n6, n7, n8, n9, n10, n11, n12, n13, n14, n15, n16, n17, n18, n19, reduceIte]
    refine hK5 _ _ _ ?_
    refine rwp_ret ?_
    obtain rfl := Option.some.inj h
    try simp only [thenK, blockK, reduceIte]
    exact Or.inl (end_ok trivial (rs_t (v := .d (eS v3)) rfl rs_nil) (en_d (to_d _) en_nil) ou_nil (by first | exact eok rfl rfl rfl rfl trivial | (refine eok ?_ ?_ ?_ ?_ ?_ <;> first | rfl | exact trivial | simp [retM, Mem.get, PV.renL, PV.ren, Blk.ren, comps, rhoR, rhoM, appN, PV.refsL, PV.refs, keys, nodupB, Blk.refs, allIn, Blk.bor])))
  · refine rwp_block fun K7 hK7 => ?_
    refine rwp_loop ([], []) 1088 (fun k env mem => ∃ (v8 : List (BitVec 8)), stringstrimLeftByteL2 a1 k v8 = some res ∧ env = [(0, .d (eS v8)), (1, .d (eU8 a1))] ∧ mem = []) FUEL ⟨_, _, Settled.refl, _, _, ⟨_, h, rfl, rfl⟩, ⟨rfl, ⟨⟨rfl, rfl⟩, ⟨⟨rfl, rfl⟩, trivial⟩⟩, trivial⟩, rfl⟩ (fun k2 env1 mem1 hI K9 hK9 => ?_)
    obtain ⟨v8, h, rfl, rfl⟩ := hI
    cases k2 with
    | zero => simp [stringstrimLeftByteL2] at h
    | succ k2 =>
      rw [stringstrimLeftByteL2] at h
      refine rwp_seq fun K10 hK10 => ?_
      refine rwp_join ([], []) 1728 (fun env mem => ∃ (v11 : Bool), stringstrimLeftByteJ3 (stringstrimLeftByteL2 a1 k2) v8 v11 = some res ∧ env = [(0, .d (eS v8)), (1, .d (eU8 a1)), (13, .d (eB v11))] ∧ mem = []) (fun _ _ hI => ?_) (fun K12 hK12 => ?_)
      · obtain ⟨v11, h, rfl, rfl⟩ := hI
        unfold stringstrimLeftByteJ3 at h
        rcases Bool.eq_false_or_eq_true (v11) with h13 | h13
        · replace h := ite_t h h13
          refine rwp_t (isT h13) ?_
          refine rwp_skip ?_
          refine hK10 _ _ _ ?_
          refine rwp_block fun K14 hK14 => ?_
          refine rwp_region fun K15 hK15 => ?_
          refine st0 1792 rfl (ok (mv (.d (eS v8)))) ?_
          obtain ⟨h16, h⟩ := asq_inv h
          refine st0 1856 rfl (ok (sliS_l (x := v8) h16)) ?_
          refine st0 1920 rfl (ok (mv (.d (eS (dropTake (1 : Int).toNat v8.length v8))))) ?_
          refine hK15 _ _ ?_
          simp only [n0, n1, n2, n3, n4, n5, n6, n7, n8, n9, n10, n11, n12, n13, n14, n15, n16, n17, n18, n19, reduceIte]
          refine hK14 _ _ _ ?_
          exact hK9.out _ _ _ k2 (Nat.lt_succ_self k2) ⟨_, _, Settled.refl, _, _, ⟨_, h, rfl, rfl⟩, ⟨rfl, ⟨⟨rfl, rfl⟩, ⟨⟨rfl, rfl⟩, trivial⟩⟩, trivial⟩, rfl⟩
        · replace h := ite_f h h13
          refine rwp_f (isF h13) ?_
          refine rwp_exit ?_
          refine hK7 _ _ _ ?_
          exact hK4 _ _ _ ⟨_, _, Settled.refl, _, _, ⟨_, h, rfl, rfl⟩, ⟨rfl, ⟨⟨rfl, rfl⟩, trivial⟩, trivial⟩, rfl⟩
      · refine rwp_region fun K17 hK17 => ?_
        refine st0 1152 rfl (ok (mv (.d (eS v8)))) ?_
        refine st0 1216 rfl (ok (lenS _)) ?_
        refine st0 1280 rfl (ok (gtrI _ (0 : Int))) ?_
        refine st0 1344 rfl (ok (mv (.d (eB (decide ((0 : Int) < (v8.length : Int))))))) ?_
        rcases Bool.eq_false_or_eq_true ((decide ((0 : Int) < (v8.length : Int)))) with h18 | h18
        · replace h := ite_t h h18
          refine stG (isT h18) ?_
          refine st0 1408 rfl (ok (mv (.d (eS v8)))) ?_
          refine stG (isT h18) ?_
          obtain ⟨h19, h⟩ := asq_inv h
          refine st0 1472 rfl (ok (idxS v8 h19)) ?_
          refine stG (isT h18) ?_
          refine st0 1536 rfl (ok (mv (.d (eU8 a1)))) ?_
          refine stG (isT h18) ?_
          refine st0 1600 rfl (ok (eql8 _ _)) ?_
          refine st0 1664 rfl (ok (pick_t h18 (.d (eB ((v8.getD (0 : Int).toNat 0#8) == a1))) _)) ?_
          refine hK17 _ _ ?_
          simp only [n0, n1, n2, n3, n4, n5, n6, n7, n8, n9, n10, n11, n12, n13, n14, n15, n16, n17, n18, n19, reduceIte]
          exact hK12 _ _ _ ⟨_, _, Settled.refl, _, _, ⟨_, h, rfl, rfl⟩, ⟨rfl, ⟨⟨rfl, rfl⟩, ⟨⟨rfl, rfl⟩, ⟨⟨rfl, rfl⟩, trivial⟩⟩⟩, trivial⟩, rfl⟩
        · replace h := ite_f h h18
          refine stGN 1408 rfl rfl h18 ?_
          refine stGN 1472 rfl rfl h18 ?_
          refine stGN 1536 rfl rfl h18 ?_
          refine stGN 1600 rfl rfl h18 ?_
          refine st0 1664 rfl (ok (pick_f h18 _ (.d (eB false)))) ?_
          refine hK17 _ _ ?_
          simp only [n0, n1, n2, n3, n4, n5, n6, n7, n8, n9, n10, n11, n12, n13, n14, n15, n16, n17, n18, n19, reduceIte]
          exact hK12 _ _ _ ⟨_, _, Settled.refl, _, _, ⟨_, h, rfl, rfl⟩, ⟨rfl, ⟨⟨rfl, rfl⟩, ⟨⟨rfl, rfl⟩, ⟨⟨rfl, rfl⟩, trivial⟩⟩⟩, trivial⟩, rfl⟩

end Go.Proofs.Ty
