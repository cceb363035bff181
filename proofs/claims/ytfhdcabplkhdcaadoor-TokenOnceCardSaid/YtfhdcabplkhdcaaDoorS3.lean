/- Each Go function comes to what its plain function says. PRINTED by a program of this session (ty.py). -/
import Derived.Test.YtfhdcabplkhdcaaDoorS2
set_option linter.unusedVariables false
set_option linter.unusedSimpArgs false
set_option maxHeartbeats 4000000
set_option maxRecDepth 10000
namespace Go.Proofs.Ty
open Go Go.RW Go.Proofs
open Go.RW renaming thenK → n0, blockK → n1, keepE → n2, updM → n3, envE → n4
open Go.RW.Mem renaming get → n5
open List renaming filter_cons → n6, filter_nil → n7, nil_append → n8, cons_append → n9, map_cons → n10, map_nil → n11, length_cons → n12, length_nil → n13
open Option renaming isNone_none → n14, isNone_some → n15
open Bool renaming false_eq_true → n16
open Nat renaming reduceEqDiff → n17, reduceAdd → n18, reduceMul → n19
/-- strings.makeASCIISet -/
def stringsmakeASCIISetH : Hints := ⟨[(0, [0, 2]), (1, [0, 2, 4]), (2, [0, 2, 4, 9]), (4, [0, 2, 4, 5]), (5, [0, 2, 4, 5, 16]), (6, [2, 3]), (7, [0, 2, 4]), (3, [0, 2, 4]), (8, [2, 3])], []⟩
def stringsmakeASCIISetRc : RCode :=
  .seq (.region false [⟨some 2, .alloc [.d (.bool false), .d (.bool false), .d (.bool false), .d (.bool false), .d (.bool false), .d (.bool false), .d (.bool false), .d (.bool
  false), .d (.bool false), .d (.bool false), .d (.bool false), .d (.bool false), .d (.bool false), .d (.bool false), .d (.bool false), .d (.bool false), .d (.bool false), .d
  (.bool false), .d (.bool false), .d (.bool false), .d (.bool false), .d (.bool false), .d (.bool false), .d (.bool false), .d (.bool false), .d (.bool false), .d (.bool false),
  .d (.bool false), .d (.bool false), .d (.bool false), .d (.bool false), .d (.bool false), .d (.bool false), .d (.bool false), .d (.bool false), .d (.bool false), .d (.bool
  false), .d (.bool false), .d (.bool false), .d (.bool false), .d (.bool false), .d (.bool false), .d (.bool false), .d (.bool false), .d (.bool false), .d (.bool false), .d
  (.bool false), .d (.bool false), .d (.bool false), .d (.bool false), .d (.bool false), .d (.bool false), .d (.bool false), .d (.bool false), .d (.bool false), .d (.bool false),
  .d (.bool false), .d (.bool false), .d (.bool false), .d (.bool false), .d (.bool false), .d (.bool false), .d (.bool false), .d (.bool false), .d (.bool false), .d (.bool
  false), .d (.bool false), .d (.bool false), .d (.bool false), .d (.bool false), .d (.bool false), .d (.bool false), .d (.bool false), .d (.bool false), .d (.bool false), .d
  (.bool false), .d (.bool false), .d (.bool false), .d (.bool false), .d (.bool false), .d (.bool false), .d (.bool false), .d (.bool false), .d (.bool false), .d (.bool false),
  .d (.bool false), .d (.bool false), .d (.bool false), .d (.bool false), .d (.bool false), .d (.bool false), .d (.bool false), .d (.bool false), .d (.bool false), .d (.bool
  false), .d (.bool false), .d (.bool false), .d (.bool false), .d (.bool false), .d (.bool false), .d (.bool false), .d (.bool false), .d (.bool false), .d (.bool false), .d
  (.bool false), .d (.bool false), .d (.bool false), .d (.bool false), .d (.bool false), .d (.bool false), .d (.bool false), .d (.bool false), .d (.bool false), .d (.bool false),
  .d (.bool false), .d (.bool false), .d (.bool false), .d (.bool false), .d (.bool false), .d (.bool false), .d (.bool false), .d (.bool false), .d (.bool false), .d (.bool
  false), .d (.bool false), .d (.bool false), .d (.bool false), .d (.bool false), .d (.bool false), .d (.bool false), .d (.bool false), .d (.bool false), .d (.bool false), .d
  (.bool false), .d (.bool false), .d (.bool false), .d (.bool false), .d (.bool false), .d (.bool false), .d (.bool false), .d (.bool false), .d (.bool false), .d (.bool false),
  .d (.bool false), .d (.bool false), .d (.bool false), .d (.bool false), .d (.bool false), .d (.bool false), .d (.bool false), .d (.bool false), .d (.bool false), .d (.bool
  false), .d (.bool false), .d (.bool false), .d (.bool false), .d (.bool false), .d (.bool false), .d (.bool false), .d (.bool false), .d (.bool false), .d (.bool false), .d
  (.bool false), .d (.bool false), .d (.bool false), .d (.bool false), .d (.bool false), .d (.bool false), .d (.bool false), .d (.bool false), .d (.bool false), .d (.bool false),
  .d (.bool false), .d (.bool false), .d (.bool false), .d (.bool false), .d (.bool false), .d (.bool false), .d (.bool false), .d (.bool false), .d (.bool false), .d (.bool
  false), .d (.bool false), .d (.bool false), .d (.bool false), .d (.bool false), .d (.bool false), .d (.bool false), .d (.bool false), .d (.bool false), .d (.bool false), .d
  (.bool false), .d (.bool false), .d (.bool false), .d (.bool false), .d (.bool false), .d (.bool false), .d (.bool false), .d (.bool false), .d (.bool false), .d (.bool false),
  .d (.bool false), .d (.bool false), .d (.bool false), .d (.bool false), .d (.bool false), .d (.bool false), .d (.bool false), .d (.bool false), .d (.bool false), .d (.bool
  false), .d (.bool false), .d (.bool false), .d (.bool false), .d (.bool false), .d (.bool false), .d (.bool false), .d (.bool false), .d (.bool false), .d (.bool false), .d
  (.bool false), .d (.bool false), .d (.bool false), .d (.bool false), .d (.bool false), .d (.bool false), .d (.bool false), .d (.bool false), .d (.bool false), .d (.bool false),
  .d (.bool false), .d (.bool false), .d (.bool false), .d (.bool false), .d (.bool false), .d (.bool false), .d (.bool false), .d (.bool false), .d (.bool false), .d (.bool
  false), .d (.bool false), .d (.bool false), .d (.bool false), .d (.bool false), .d (.bool false), .d (.bool false), .d (.bool false), .d (.bool false), .d (.bool false), .d
  (.bool false), .d (.bool false), .d (.bool false), .d (.bool false), .d (.bool false), .d (.bool false), .d (.bool false)], [], none, []⟩, ⟨some 3, .mv, [.k (.d (.bool false))],
  none, []⟩] [0, 2]) (.seq (.seq (.region false [⟨some 4, .mv, [.k (.d (.int .i64 0))], none, []⟩] [0, 2, 4]) (.block 0 (.loop [] (.seq (.seq (.region false [⟨some 6, .mv, [.t 4],
  none, []⟩, ⟨some 7, .mv, [.t 0], none, []⟩, ⟨some 8, .lens, [.t 7], none, []⟩, ⟨some 9, .bin .lss, [.t 6, .t 8], none, []⟩] [0, 2, 4, 9]) (.cond (.t 9) .skip (.exit 0))) (.seq
  (.block 1 (.seq (.region false [⟨some 12, .mv, [.t 0], none, []⟩, ⟨some 13, .mv, [.t 4], none, []⟩, ⟨some 14, .sx, [.t 12, .t 13], none, []⟩, ⟨some 5, .mv, [.t 14], none, []⟩]
  [0, 2, 4, 5]) (.seq (.seq (.region false [⟨some 15, .mv, [.t 5], none, []⟩, ⟨some 16, .bin .geq, [.t 15, .k (.d (.int .u8 128))], none, []⟩] [0, 2, 4, 5, 16]) (.cond (.t 16)
  (.seq (.region false [⟨some 17, .load 256 true, [.t 2], none, []⟩, ⟨none, .store 256, [.t 2, .t 17], none, []⟩, ⟨some 3, .mv, [.k (.d (.bool false))], none, []⟩] [2, 3]) .ret)
  .skip)) (.region false [⟨some 18, .mv, [.t 5], none, []⟩, ⟨some 19, .iarr 256 1, [.t 2, .t 18], none, []⟩, ⟨none, .store 1, [.t 19, .k (.d (.bool true))], none, []⟩] [0, 2,
  4])))) (.region false [⟨some 10, .mv, [.t 4], none, []⟩, ⟨some 11, .bin .add, [.t 10, .k (.d (.int .i64 1))], none, []⟩, ⟨some 4, .mv, [.t 11], none, []⟩] [0, 2, 4])))))) (.seq
  (.region false [⟨some 20, .load 256 true, [.t 2], none, []⟩, ⟨none, .store 256, [.t 2, .t 20], none, []⟩, ⟨some 3, .mv, [.k (.d (.bool true))], none, []⟩] [2, 3]) .ret))
def stringsmakeASCIISetRr : List RR := [.c 2 256 true, .t 3]
theorem stringsmakeASCIISetC : compFn Tryd.prog 51 stringsmakeASCIISetH = some (stringsmakeASCIISetRc, stringsmakeASCIISetRr, 21) := by kernel_rfl
theorem stringsmakeASCIISetOK (a0 : List (BitVec 8)) (res : (List (Bool)) × Bool) (h : stringsmakeASCIISet a0 = some res) : CallOK Tryd.prog 51 [.d (eS a0)] [] (.tup [.d ((eA eB) res.1), .d (eB res.2)]) [] := by
  unfold stringsmakeASCIISet at h
  refine callOK stringsmakeASCIISetC fm rfl ?_
  simp only [initE, initM, nbor, List.map_cons, List.map_nil, Nat.reduceAdd]
  unfold stringsmakeASCIISetRc
  refine rwp_seq fun K1 hK1 => ?_
  refine rwp_region fun K2 hK2 => ?_
  refine st1 128 rfl (mem' := [(64, .var .mine ((List.replicate 256 false).map fun x => .d (eB x)))]) (ok (alcA (e := eB) (xs := (List.replicate 256 false)) rfl)) rfl ?_
  refine st0 192 rfl (ok (mv (.d (eB false)))) ?_
  refine hK2 _ _ ?_
  simp only [n0, n1, n2, n3, n4, n5, n6, n7, n8, n9, n10, n11, n12, n13, n14, n15, n16, n17, n18, n19, reduceIte]
  refine hK1 _ _ _ ?_
  refine rwp_join ([], []) 1728 (fun env mem => ∃ (v3 : List (Bool)), stringsmakeASCIISetJ1 v3 = some res ∧ env = [(2, .ptr 64 0)] ∧ mem = [(64, .var .mine (v3.map fun x => .d (eB x)))]) (fun _ _ hI => ?_) (fun K4 hK4 => ?_)
  · obtain ⟨v3, h, rfl, rfl⟩ := hI
    unfold stringsmakeASCIISetJ1 at h
    refine rwp_seq fun K5 hK5 => ?_
    refine rwp_region fun K6 hK6 => ?_
    obtain ⟨h7, h⟩ := asq_inv h
    refine st0 1792 rfl (ok (ld_vA (e := eB) (xs := v3) rfl h7)) ?_
    obtain ⟨h8, h⟩ := asq_inv h
    refine stn 1856 rfl (mem' := [(64, .var .mine (v3.map fun x => .d (eB x)))]) (ok (stoA (e := eB) (xs := v3) (ys := v3) rfl rfl h8)) rfl ?_
    refine st0 1920 rfl (ok (mv (.d (eB true)))) ?_
    refine hK6 _ _ ?_
    simp only [n0, n1, n2, n3, n4, n5, n6, n7, n8, n9, n10, n11, n12, n13, n14, n15, n16, n17, n18, n19, reduceIte]
    refine hK5 _ _ _ ?_
    refine rwp_ret ?_
    obtain ⟨h9, h⟩ := asq_inv h
    obtain rfl := Option.some.inj h
    try simp only [thenK, blockK, reduceIte]
    exact Or.inl (end_ok trivial (rs_cA (e := eB) (xs := v3) (id := 64) rfl rfl h9 (rs_t (v := .d (eB true)) rfl rs_nil)) (en_d (to_d _) (en_d (to_d _) en_nil)) ou_nil (by first | exact eok rfl rfl rfl rfl trivial | (refine eok ?_ ?_ ?_ ?_ ?_ <;> first | rfl | exact trivial | simp [retM, Mem.get, PV.renL, PV.ren, Blk.ren, comps, rhoR, rhoM, appN, PV.refsL, PV.refs, keys, nodupB, Blk.refs, allIn, Blk.bor])))
  · refine rwp_seq fun K10 hK10 => ?_
    refine rwp_region fun K11 hK11 => ?_
    refine st0 256 rfl (ok (mv (.d (eI (0 : Int))))) ?_
    refine hK11 _ _ ?_
    simp only [n0, n1, n2, n3, n4, n5, n6, n7, n8, n9, n10, n11, n12, n13, n14, n15, n16, n17, n18, n19, reduceIte]
    refine hK10 _ _ _ ?_
    refine rwp_block fun K12 hK12 => ?_
    refine rwp_loop ([], []) 1408 (fun k env mem => ∃ (v13 : List (Bool)) (v14 : Int), stringsmakeASCIISetL2 a0 k v13 v14 = some res ∧ env = [(0, .d (eS a0)), (2, .ptr 64 0), (4, .d (eI v14))] ∧ mem = [(64, .var .mine (v13.map fun x => .d (eB x)))]) FUEL ⟨_, _, Settled.refl, _, _, ⟨_, _, h, rfl, rfl⟩, ⟨rfl, ⟨⟨rfl, rfl⟩, ⟨⟨rfl, rfl⟩, ⟨⟨rfl, rfl⟩, trivial⟩⟩⟩, ⟨(by first | exact vara_ret rfl rfl | exact ⟨rfl, rfl⟩), trivial⟩⟩, rfl⟩ (fun k2 env1 mem1 hI K15 hK15 => ?_)
    obtain ⟨v13, v14, h, rfl, rfl⟩ := hI
    cases k2 with
    | zero => simp [stringsmakeASCIISetL2] at h
    | succ k2 =>
      rw [stringsmakeASCIISetL2] at h
      refine rwp_seq fun K16 hK16 => ?_
      refine rwp_seq fun K17 hK17 => ?_
      refine rwp_region fun K18 hK18 => ?_
      refine st0 1472 rfl (ok (mv (.d (eI v14)))) ?_
      refine st0 1536 rfl (ok (mv (.d (eS a0)))) ?_
      refine st0 1600 rfl (ok (lenS _)) ?_
      refine st0 1664 rfl (ok (lssI _ _)) ?_
      refine hK18 _ _ ?_
      simp only [n0, n1, n2, n3, n4, n5, n6, n7, n8, n9, n10, n11, n12, n13, n14, n15, n16, n17, n18, n19, reduceIte]
      refine hK17 _ _ _ ?_
      rcases Bool.eq_false_or_eq_true ((decide (v14 < (a0.length : Int)))) with h19 | h19
      · replace h := ite_t h h19
        refine rwp_t (isT h19) ?_
        refine rwp_skip ?_
        refine hK16 _ _ _ ?_
        refine rwp_seq fun K20 hK20 => ?_
        refine rwp_block fun K21 hK21 => ?_
        refine rwp_seq fun K22 hK22 => ?_
        refine rwp_region fun K23 hK23 => ?_
        refine st0 1728 rfl (ok (mv (.d (eS a0)))) ?_
        refine st0 1792 rfl (ok (mv (.d (eI v14)))) ?_
        obtain ⟨h24, h⟩ := asq_inv h
        refine st0 1856 rfl (ok (idxS a0 h24)) ?_
        refine st0 1920 rfl (ok (mv (.d (eU8 (a0.getD v14.toNat 0#8))))) ?_
        refine hK23 _ _ ?_
        simp only [n0, n1, n2, n3, n4, n5, n6, n7, n8, n9, n10, n11, n12, n13, n14, n15, n16, n17, n18, n19, reduceIte]
        refine hK22 _ _ _ ?_
        refine rwp_seq fun K25 hK25 => ?_
        refine rwp_seq fun K26 hK26 => ?_
        refine rwp_region fun K27 hK27 => ?_
        refine st0 1984 rfl (ok (mv (.d (eU8 (a0.getD v14.toNat 0#8))))) ?_
        refine st0 2048 rfl (ok (geq8 _ (128#8))) ?_
        refine hK27 _ _ ?_
        simp only [n0, n1, n2, n3, n4, n5, n6, n7, n8, n9, n10, n11, n12, n13, n14, n15, n16, n17, n18, n19, reduceIte]
        refine hK26 _ _ _ ?_
        rcases Bool.eq_false_or_eq_true ((decide ((128#8).toNat ≤ (a0.getD v14.toNat 0#8).toNat))) with h28 | h28
        · replace h := ite_t h h28
          refine rwp_t (isT h28) ?_
          refine rwp_seq fun K29 hK29 => ?_
          refine rwp_region fun K30 hK30 => ?_
          obtain ⟨h31, h⟩ := asq_inv h
          refine st0 2112 rfl (ok (ld_vA (e := eB) (xs := v13) rfl h31)) ?_
          obtain ⟨h32, h⟩ := asq_inv h
          refine stn 2176 rfl (mem' := [(64, .var .mine (v13.map fun x => .d (eB x)))]) (ok (stoA (e := eB) (xs := v13) (ys := v13) rfl rfl h32)) rfl ?_
          refine st0 2240 rfl (ok (mv (.d (eB false)))) ?_
          refine hK30 _ _ ?_
          simp only [n0, n1, n2, n3, n4, n5, n6, n7, n8, n9, n10, n11, n12, n13, n14, n15, n16, n17, n18, n19, reduceIte]
          refine hK29 _ _ _ ?_
          refine rwp_ret ?_
          obtain ⟨h33, h⟩ := asq_inv h
          obtain rfl := Option.some.inj h
          try simp only [thenK, blockK, reduceIte]
          exact Or.inl (end_ok trivial (rs_cA (e := eB) (xs := v13) (id := 64) rfl rfl h33 (rs_t (v := .d (eB false)) rfl rs_nil)) (en_d (to_d _) (en_d (to_d _) en_nil)) ou_nil (by first | exact eok rfl rfl rfl rfl trivial | (refine eok ?_ ?_ ?_ ?_ ?_ <;> first | rfl | exact trivial | simp [retM, Mem.get, PV.renL, PV.ren, Blk.ren, comps, rhoR, rhoM, appN, PV.refsL, PV.refs, keys, nodupB, Blk.refs, allIn, Blk.bor])))
        · replace h := ite_f h h28
          refine rwp_f (isF h28) ?_
          refine rwp_skip ?_
          refine hK25 _ _ _ ?_
          refine rwp_region fun K34 hK34 => ?_
          refine st0 2112 rfl (ok (mv (.d (eU8 (a0.getD v14.toNat 0#8))))) ?_
          obtain ⟨h35, h⟩ := asq_inv h
          refine st0 2176 rfl (ok (iarr_1 h35)) ?_
          obtain ⟨h36, h⟩ := asq_inv h
          refine stn 2240 rfl (mem' := [(64, .var .mine ((v13.set (((a0.getD v14.toNat 0#8).toNat : Int).toNat) true).map fun x => .d (eB x)))]) (ok (sto_va (e := eB) (xs := v13) (y := true) rfl rfl h36 rfl)) rfl ?_
          refine hK34 _ _ ?_
          simp only [n0, n1, n2, n3, n4, n5, n6, n7, n8, n9, n10, n11, n12, n13, n14, n15, n16, n17, n18, n19, reduceIte]
          refine hK21 _ _ _ ?_
          refine hK20 _ _ _ ?_
          refine rwp_region fun K37 hK37 => ?_
          refine st0 2304 rfl (ok (mv (.d (eI v14)))) ?_
          refine st0 2368 rfl (ok (addI _ (1 : Int))) ?_
          refine st0 2432 rfl (ok (mv (.d (eI (w64 (v14 + (1 : Int))))))) ?_
          refine hK37 _ _ ?_
          simp only [n0, n1, n2, n3, n4, n5, n6, n7, n8, n9, n10, n11, n12, n13, n14, n15, n16, n17, n18, n19, reduceIte]
          exact hK15.out _ _ _ k2 (Nat.lt_succ_self k2) ⟨_, _, Settled.refl, _, _, ⟨_, _, h, rfl, rfl⟩, ⟨rfl, ⟨⟨rfl, rfl⟩, ⟨⟨rfl, rfl⟩, ⟨⟨rfl, rfl⟩, trivial⟩⟩⟩, ⟨(by first | exact vara_ret rfl rfl | exact ⟨rfl, rfl⟩), trivial⟩⟩, rfl⟩
      · replace h := ite_f h h19
        refine rwp_f (isF h19) ?_
        refine rwp_exit ?_
        refine hK12 _ _ _ ?_
        exact hK4 _ _ _ ⟨_, _, Settled.refl, _, _, ⟨_, h, rfl, rfl⟩, ⟨rfl, ⟨⟨rfl, rfl⟩, trivial⟩, ⟨(by first | exact vara_ret rfl rfl | exact ⟨rfl, rfl⟩), trivial⟩⟩, rfl⟩

/-- strings.Trim -/
def stringsTrimH : Hints := ⟨[(0, [0, 1]), (1, [0, 1, 12]), (2, [4]), (3, [0, 1, 21]), (4, [4]), (5, [0, 1, 5, 6]), (6, [0, 1, 5, 34]), (7, [4]), (8, [4])], []⟩
def stringsTrimRc : RCode :=
  .seq (.region false [⟨some 4, .mv, [.k (.d (.str ⟨#[]⟩))], none, []⟩] [0, 1]) (.seq (.seq (.region false [⟨some 7, .mv, [.t 0], none, []⟩, ⟨some 8, .bin .eql, [.t 7, .k (.d (.str
  ⟨#[]⟩))], none, []⟩, ⟨some 9, .mv, [.t 8], none, []⟩, ⟨some 10, .mv, [.t 1], some (9, false), []⟩, ⟨some 11, .bin .eql, [.t 10, .k (.d (.str ⟨#[]⟩))], some (9, false), []⟩, ⟨some
  12, .pick, [.t 9, .k (.d (.bool true)), .t 11], none, []⟩] [0, 1, 12]) (.cond (.t 12) (.seq (.region false [⟨some 13, .mv, [.t 0], none, []⟩, ⟨some 4, .mv, [.t 13], none, []⟩]
  [4]) .ret) .skip)) (.seq (.seq (.region false [⟨some 14, .mv, [.t 1], none, []⟩, ⟨some 15, .lens, [.t 14], none, []⟩, ⟨some 16, .bin .eql, [.t 15, .k (.d (.int .i64 1))], none,
  []⟩, ⟨some 17, .mv, [.t 16], none, []⟩, ⟨some 18, .mv, [.t 1], some (17, true), []⟩, ⟨some 19, .sx, [.t 18, .k (.d (.int .i64 0))], some (17, true), []⟩, ⟨some 20, .bin .lss, [.t
  19, .k (.d (.int .u8 128))], some (17, true), []⟩, ⟨some 21, .pick, [.t 17, .t 20, .k (.d (.bool false))], none, []⟩] [0, 1, 21]) (.cond (.t 21) (.seq (.region true [⟨some 22,
  .mv, [.t 0], none, []⟩, ⟨some 23, .mv, [.t 1], none, []⟩, ⟨some 24, .sx, [.t 23, .k (.d (.int .i64 0))], none, [1]⟩, ⟨some 25, .call 50 false, [.t 22, .t 24], none, [0, 1, 2]⟩,
  ⟨some 26, .mv, [.t 1], none, []⟩, ⟨some 27, .sx, [.t 26, .k (.d (.int .i64 0))], none, [4]⟩, ⟨some 28, .call 49 false, [.t 25, .t 27], none, [0, 1, 2, 3, 4, 5]⟩, ⟨some 4, .mv,
  [.t 28], none, [0, 1, 2, 3, 4, 5, 6]⟩] [4]) .ret) .skip)) (.seq (.seq (.region false [⟨some 30, .mv, [.t 1], none, []⟩, ⟨some 31, .call 51 false, [.t 30], none, []⟩, ⟨some 29,
  .mv, [.t 31], none, []⟩, ⟨some 32, .ext 0, [.t 29], none, []⟩, ⟨some 33, .ext 1, [.t 29], none, []⟩, ⟨some 5, .alloc [.d (.bool false), .d (.bool false), .d (.bool false), .d
  (.bool false), .d (.bool false), .d (.bool false), .d (.bool false), .d (.bool false), .d (.bool false), .d (.bool false), .d (.bool false), .d (.bool false), .d (.bool false),
  .d (.bool false), .d (.bool false), .d (.bool false), .d (.bool false), .d (.bool false), .d (.bool false), .d (.bool false), .d (.bool false), .d (.bool false), .d (.bool
  false), .d (.bool false), .d (.bool false), .d (.bool false), .d (.bool false), .d (.bool false), .d (.bool false), .d (.bool false), .d (.bool false), .d (.bool false), .d
  (.bool false), .d (.bool false), .d (.bool false), .d (.bool false), .d (.bool false), .d (.bool false), .d (.bool false), .d (.bool false), .d (.bool false), .d (.bool false),
  .d (.bool false), .d (.bool false), .d (.bool false), .d (.bool false), .d (.bool false), .d (.bool false), .d (.bool false), .d (.bool false), .d (.bool false), .d (.bool
  false), .d (.bool false), .d (.bool false), .d (.bool false), .d (.bool false), .d (.bool false), .d (.bool false), .d (.bool false), .d (.bool false), .d (.bool false), .d
  (.bool false), .d (.bool false), .d (.bool false), .d (.bool false), .d (.bool false), .d (.bool false), .d (.bool false), .d (.bool false), .d (.bool false), .d (.bool false),
  .d (.bool false), .d (.bool false), .d (.bool false), .d (.bool false), .d (.bool false), .d (.bool false), .d (.bool false), .d (.bool false), .d (.bool false), .d (.bool
  false), .d (.bool false), .d (.bool false), .d (.bool false), .d (.bool false), .d (.bool false), .d (.bool false), .d (.bool false), .d (.bool false), .d (.bool false), .d
  (.bool false), .d (.bool false), .d (.bool false), .d (.bool false), .d (.bool false), .d (.bool false), .d (.bool false), .d (.bool false), .d (.bool false), .d (.bool false),
  .d (.bool false), .d (.bool false), .d (.bool false), .d (.bool false), .d (.bool false), .d (.bool false), .d (.bool false), .d (.bool false), .d (.bool false), .d (.bool
  false), .d (.bool false), .d (.bool false), .d (.bool false), .d (.bool false), .d (.bool false), .d (.bool false), .d (.bool false), .d (.bool false), .d (.bool false), .d
  (.bool false), .d (.bool false), .d (.bool false), .d (.bool false), .d (.bool false), .d (.bool false), .d (.bool false), .d (.bool false), .d (.bool false), .d (.bool false),
  .d (.bool false), .d (.bool false), .d (.bool false), .d (.bool false), .d (.bool false), .d (.bool false), .d (.bool false), .d (.bool false), .d (.bool false), .d (.bool
  false), .d (.bool false), .d (.bool false), .d (.bool false), .d (.bool false), .d (.bool false), .d (.bool false), .d (.bool false), .d (.bool false), .d (.bool false), .d
  (.bool false), .d (.bool false), .d (.bool false), .d (.bool false), .d (.bool false), .d (.bool false), .d (.bool false), .d (.bool false), .d (.bool false), .d (.bool false),
  .d (.bool false), .d (.bool false), .d (.bool false), .d (.bool false), .d (.bool false), .d (.bool false), .d (.bool false), .d (.bool false), .d (.bool false), .d (.bool
  false), .d (.bool false), .d (.bool false), .d (.bool false), .d (.bool false), .d (.bool false), .d (.bool false), .d (.bool false), .d (.bool false), .d (.bool false), .d
  (.bool false), .d (.bool false), .d (.bool false), .d (.bool false), .d (.bool false), .d (.bool false), .d (.bool false), .d (.bool false), .d (.bool false), .d (.bool false),
  .d (.bool false), .d (.bool false), .d (.bool false), .d (.bool false), .d (.bool false), .d (.bool false), .d (.bool false), .d (.bool false), .d (.bool false), .d (.bool
  false), .d (.bool false), .d (.bool false), .d (.bool false), .d (.bool false), .d (.bool false), .d (.bool false), .d (.bool false), .d (.bool false), .d (.bool false), .d
  (.bool false), .d (.bool false), .d (.bool false), .d (.bool false), .d (.bool false), .d (.bool false), .d (.bool false), .d (.bool false), .d (.bool false), .d (.bool false),
  .d (.bool false), .d (.bool false), .d (.bool false), .d (.bool false), .d (.bool false), .d (.bool false), .d (.bool false), .d (.bool false), .d (.bool false), .d (.bool
  false), .d (.bool false), .d (.bool false), .d (.bool false), .d (.bool false), .d (.bool false), .d (.bool false), .d (.bool false), .d (.bool false), .d (.bool false), .d
  (.bool false), .d (.bool false), .d (.bool false), .d (.bool false), .d (.bool false), .d (.bool false), .d (.bool false), .d (.bool false), .d (.bool false), .d (.bool false),
  .d (.bool false), .d (.bool false), .d (.bool false), .d (.bool false), .d (.bool false), .d (.bool false), .d (.bool false), .d (.bool false), .d (.bool false), .d (.bool
  false), .d (.bool false)], [], none, []⟩, ⟨none, .store 256, [.t 5, .t 32], none, []⟩, ⟨some 6, .mv, [.t 33], none, []⟩] [0, 1, 5, 6]) (.seq (.region false [⟨some 34, .mv, [.t
  6], none, []⟩] [0, 1, 5, 34]) (.cond (.t 34) (.seq (.region false [⟨some 35, .mv, [.t 0], none, []⟩, ⟨some 36, .call 53 false, [.t 35, .t 5], none, []⟩, ⟨some 37, .call 52 false,
  [.t 36, .t 5], none, []⟩, ⟨some 4, .mv, [.t 37], none, []⟩] [4]) .ret) .skip))) (.seq (.region false [⟨some 38, .mv, [.t 0], none, []⟩, ⟨some 39, .mv, [.t 1], none, []⟩, ⟨some
  40, .call 55 false, [.t 38, .t 39], none, []⟩, ⟨some 41, .mv, [.t 1], none, []⟩, ⟨some 42, .call 54 false, [.t 40, .t 41], none, []⟩, ⟨some 4, .mv, [.t 42], none, []⟩] [4])
  .ret))))
def stringsTrimRr : List RR := [.t 4]
theorem stringsTrimC : compFn Tryd.prog 39 stringsTrimH = some (stringsTrimRc, stringsTrimRr, 43) := by kernel_rfl
theorem stringsTrimOK (a0 : List (BitVec 8)) (a1 : List (BitVec 8)) (res : List (BitVec 8)) (h : stringsTrim a0 a1 = some res) : CallOK Tryd.prog 39 [.d (eS a0), .d (eS a1)] [] (.d (eS res)) [] := by
  unfold stringsTrim at h
  refine callOK stringsTrimC fm rfl ?_
  simp only [initE, initM, nbor, List.map_cons, List.map_nil, Nat.reduceAdd]
  unfold stringsTrimRc
  refine rwp_seq fun K1 hK1 => ?_
  refine rwp_region fun K2 hK2 => ?_
  refine st0 128 rfl (ok (mv (.d (eS ([] : List (BitVec 8)))))) ?_
  refine hK2 _ _ ?_
  simp only [n0, n1, n2, n3, n4, n5, n6, n7, n8, n9, n10, n11, n12, n13, n14, n15, n16, n17, n18, n19, reduceIte]
  refine hK1 _ _ _ ?_
  refine rwp_seq fun K3 hK3 => ?_
  refine rwp_join ([], []) 576 (fun env mem => ∃ (v4 : Bool), stringsTrimJ1 a0 a1 v4 = some res ∧ env = [(0, .d (eS a0)), (1, .d (eS a1)), (12, .d (eB v4))] ∧ mem = []) (fun _ _ hI => ?_) (fun K5 hK5 => ?_)
  · obtain ⟨v4, h, rfl, rfl⟩ := hI
    unfold stringsTrimJ1 at h
    rcases Bool.eq_false_or_eq_true (v4) with h6 | h6
    · replace h := ite_t h h6
      refine rwp_t (isT h6) ?_
      refine rwp_seq fun K7 hK7 => ?_
      refine rwp_region fun K8 hK8 => ?_
      refine st0 640 rfl (ok (mv (.d (eS a0)))) ?_
      refine st0 704 rfl (ok (mv (.d (eS a0)))) ?_
      refine hK8 _ _ ?_
      simp only [n0, n1, n2, n3, n4, n5, n6, n7, n8, n9, n10, n11, n12, n13, n14, n15, n16, n17, n18, n19, reduceIte]
      refine hK7 _ _ _ ?_
      refine rwp_ret ?_
      obtain rfl := Option.some.inj h
      try simp only [thenK, blockK, reduceIte]
      exact Or.inl (end_ok trivial (rs_t (v := .d (eS a0)) rfl rs_nil) (en_d (to_d _) en_nil) ou_nil (by first | exact eok rfl rfl rfl rfl trivial | (refine eok ?_ ?_ ?_ ?_ ?_ <;> first | rfl | exact trivial | simp [retM, Mem.get, PV.renL, PV.ren, Blk.ren, comps, rhoR, rhoM, appN, PV.refsL, PV.refs, keys, nodupB, Blk.refs, allIn, Blk.bor])))
    · replace h := ite_f h h6
      refine rwp_f (isF h6) ?_
      refine rwp_skip ?_
      refine hK3 _ _ _ ?_
      refine rwp_seq fun K9 hK9 => ?_
      refine rwp_join ([], []) 1152 (fun env mem => ∃ (v10 : Bool), stringsTrimJ2 a0 a1 v10 = some res ∧ env = [(0, .d (eS a0)), (1, .d (eS a1)), (21, .d (eB v10))] ∧ mem = []) (fun _ _ hI => ?_) (fun K11 hK11 => ?_)
      · obtain ⟨v10, h, rfl, rfl⟩ := hI
        unfold stringsTrimJ2 at h
        rcases Bool.eq_false_or_eq_true (v10) with h12 | h12
        · replace h := ite_t h h12
          refine rwp_t (isT h12) ?_
          refine rwp_seq fun K13 hK13 => ?_
          refine rwp_draw fun K14 hK14 => ?_
          refine dr0 1216 rfl (ok (mv (.d (eS a0)))) (by kernel_rfl) ?_
          refine dr0 1280 rfl (ok (mv (.d (eS a1)))) (by kernel_rfl) ?_
          obtain ⟨h15, h⟩ := asq_inv h
          refine dr0 1344 rfl (ok (idxS a1 h15)) (by kernel_rfl) ?_
          obtain ⟨y16, h17, h⟩ := bind_inv h
          refine dr0 1408 rfl (call_ok (v := .d (eS y16)) (u := []) (ar_d (eS a0) (ar_d (eU8 (a1.getD (0 : Int).toNat 0#8)) ar_nil)) rfl (stringstrimRightByteOK a0 (a1.getD (0 : Int).toNat 0#8) y16 h17) rfl) (by kernel_rfl) ?_
          refine dr0 1472 rfl (ok (mv (.d (eS a1)))) (by kernel_rfl) ?_
          obtain ⟨h18, h⟩ := asq_inv h
          refine dr0 1536 rfl (ok (idxS a1 h18)) (by kernel_rfl) ?_
          obtain ⟨y19, h20, h⟩ := bind_inv h
          refine dr0 1600 rfl (call_ok (v := .d (eS y19)) (u := []) (ar_d (eS y16) (ar_d (eU8 (a1.getD (0 : Int).toNat 0#8)) ar_nil)) rfl (stringstrimLeftByteOK y16 (a1.getD (0 : Int).toNat 0#8) y19 h20) rfl) (by kernel_rfl) ?_
          refine dr0 1664 rfl (ok (mv (.d (eS y19)))) (by kernel_rfl) ?_
          refine hK14 _ _ ?_
          simp only [n0, n1, n2, n3, n4, n5, n6, n7, n8, n9, n10, n11, n12, n13, n14, n15, n16, n17, n18, n19, reduceIte]
          refine hK13 _ _ _ ?_
          refine rwp_ret ?_
          obtain rfl := Option.some.inj h
          try simp only [thenK, blockK, reduceIte]
          exact Or.inl (end_ok trivial (rs_t (v := .d (eS y19)) rfl rs_nil) (en_d (to_d _) en_nil) ou_nil (by first | exact eok rfl rfl rfl rfl trivial | (refine eok ?_ ?_ ?_ ?_ ?_ <;> first | rfl | exact trivial | simp [retM, Mem.get, PV.renL, PV.ren, Blk.ren, comps, rhoR, rhoM, appN, PV.refsL, PV.refs, keys, nodupB, Blk.refs, allIn, Blk.bor])))
        · replace h := ite_f h h12
          refine rwp_f (isF h12) ?_
          refine rwp_skip ?_
          refine hK9 _ _ _ ?_
          refine rwp_seq fun K21 hK21 => ?_
          refine rwp_seq fun K22 hK22 => ?_
          refine rwp_region fun K23 hK23 => ?_
          refine st0 1216 rfl (ok (mv (.d (eS a1)))) ?_
          exact nomatch h
      · refine rwp_region fun K26 hK26 => ?_
        refine st0 640 rfl (ok (mv (.d (eS a1)))) ?_
        refine st0 704 rfl (ok (lenS _)) ?_
        refine st0 768 rfl (ok (eqlI _ (1 : Int))) ?_
        refine st0 832 rfl (ok (mv (.d (eB ((a1.length : Int) == (1 : Int)))))) ?_
        rcases Bool.eq_false_or_eq_true (((a1.length : Int) == (1 : Int))) with h27 | h27
        · replace h := ite_t h h27
          refine stG (isT h27) ?_
          refine st0 896 rfl (ok (mv (.d (eS a1)))) ?_
          refine stG (isT h27) ?_
          obtain ⟨h28, h⟩ := asq_inv h
          refine st0 960 rfl (ok (idxS a1 h28)) ?_
          refine stG (isT h27) ?_
          refine st0 1024 rfl (ok (lss8 _ (128#8))) ?_
          refine st0 1088 rfl (ok (pick_t h27 (.d (eB (decide ((a1.getD (0 : Int).toNat 0#8).toNat < (128#8).toNat)))) _)) ?_
          refine hK26 _ _ ?_
          simp only [n0, n1, n2, n3, n4, n5, n6, n7, n8, n9, n10, n11, n12, n13, n14, n15, n16, n17, n18, n19, reduceIte]
          exact hK11 _ _ _ ⟨_, _, Settled.refl, _, _, ⟨_, h, rfl, rfl⟩, ⟨rfl, ⟨⟨rfl, rfl⟩, ⟨⟨rfl, rfl⟩, ⟨⟨rfl, rfl⟩, trivial⟩⟩⟩, trivial⟩, rfl⟩
        · replace h := ite_f h h27
          refine stGN 896 rfl rfl h27 ?_
          refine stGN 960 rfl rfl h27 ?_
          refine stGN 1024 rfl rfl h27 ?_
          refine st0 1088 rfl (ok (pick_f h27 _ (.d (eB false)))) ?_
          refine hK26 _ _ ?_
          simp only [n0, n1, n2, n3, n4, n5, n6, n7, n8, n9, n10, n11, n12, n13, n14, n15, n16, n17, n18, n19, reduceIte]
          exact hK11 _ _ _ ⟨_, _, Settled.refl, _, _, ⟨_, h, rfl, rfl⟩, ⟨rfl, ⟨⟨rfl, rfl⟩, ⟨⟨rfl, rfl⟩, ⟨⟨rfl, rfl⟩, trivial⟩⟩⟩, trivial⟩, rfl⟩
  · refine rwp_region fun K29 hK29 => ?_
    refine st0 192 rfl (ok (mv (.d (eS a0)))) ?_
    refine st0 256 rfl (ok (eqlS a0 ([] : List (BitVec 8)))) ?_
    refine st0 320 rfl (ok (mv (.d (eB (a0 == ([] : List (BitVec 8))))))) ?_
    rcases Bool.eq_false_or_eq_true ((a0 == ([] : List (BitVec 8)))) with h30 | h30
    · replace h := ite_t h h30
      refine stGN 384 rfl rfl h30 ?_
      refine stGN 448 rfl rfl h30 ?_
      refine st0 512 rfl (ok (pick_t h30 (.d (eB true)) _)) ?_
      refine hK29 _ _ ?_
      simp only [n0, n1, n2, n3, n4, n5, n6, n7, n8, n9, n10, n11, n12, n13, n14, n15, n16, n17, n18, n19, reduceIte]
      exact hK5 _ _ _ ⟨_, _, Settled.refl, _, _, ⟨_, h, rfl, rfl⟩, ⟨rfl, ⟨⟨rfl, rfl⟩, ⟨⟨rfl, rfl⟩, ⟨⟨rfl, rfl⟩, trivial⟩⟩⟩, trivial⟩, rfl⟩
    · replace h := ite_f h h30
      refine stG (isF h30) ?_
      refine st0 384 rfl (ok (mv (.d (eS a1)))) ?_
      refine stG (isF h30) ?_
      refine st0 448 rfl (ok (eqlS a1 ([] : List (BitVec 8)))) ?_
      refine st0 512 rfl (ok (pick_f h30 _ (.d (eB (a1 == ([] : List (BitVec 8))))))) ?_
      refine hK29 _ _ ?_
      simp only [n0, n1, n2, n3, n4, n5, n6, n7, n8, n9, n10, n11, n12, n13, n14, n15, n16, n17, n18, n19, reduceIte]
      exact hK5 _ _ _ ⟨_, _, Settled.refl, _, _, ⟨_, h, rfl, rfl⟩, ⟨rfl, ⟨⟨rfl, rfl⟩, ⟨⟨rfl, rfl⟩, ⟨⟨rfl, rfl⟩, trivial⟩⟩⟩, trivial⟩, rfl⟩

/-- passkey/token.OpenPin -/
def tokenOpenPinH : Hints := ⟨[(0, [0, 1]), (1, [6, 7]), (2, [6, 7, 17]), (3, [4, 5]), (4, [8]), (5, [8, 9]), (6, [8, 9, 36]), (7, [4, 5]), (8, [4, 5])], []⟩
def tokenOpenPinRc : RCode :=
  .seq (.region false [⟨some 4, .mv, [.k (.d (.str ⟨#[]⟩))], none, []⟩, ⟨some 5, .mv, [.k (.d (.int .i64 0))], none, []⟩] [0, 1]) (.seq (.region false [⟨some 11, .mv, [.t 0], none,
  []⟩, ⟨some 12, .mv, [.t 1], none, []⟩, ⟨some 13, .call 37 true, [.t 11, .k (.nil 1), .t 12], none, []⟩, ⟨some 10, .mv, [.t 13], none, []⟩, ⟨some 14, .ext 0, [.t 10], none, []⟩,
  ⟨some 15, .ext 1, [.t 10], none, []⟩, ⟨some 6, .mv, [.t 14], none, []⟩, ⟨some 7, .mv, [.t 15], none, []⟩] [6, 7]) (.seq (.seq (.region false [⟨some 16, .mv, [.t 7], none, []⟩,
  ⟨some 17, .bin .neq, [.t 16, .k (.d (.int .i64 0))], none, []⟩] [6, 7, 17]) (.cond (.t 17) (.seq (.region false [⟨some 18, .mv, [.t 7], none, []⟩, ⟨some 4, .mv, [.k (.d (.str
  ⟨#[]⟩))], none, []⟩, ⟨some 5, .mv, [.t 18], none, []⟩] [4, 5]) .ret) .skip)) (.seq (.region false [⟨some 19, .mv, [.t 6], none, []⟩, ⟨some 20, .b2s, [.t 19], none, []⟩, ⟨some 8,
  .mv, [.t 20], none, []⟩] [8]) (.seq (.region false [⟨some 21, .mv, [.t 8], none, []⟩, ⟨some 22, .call 38 false, [.t 21, .k (.d (.int .u8 0))], none, []⟩, ⟨some 9, .mv, [.t 22],
  none, []⟩] [8, 9]) (.seq (.seq (.region false [⟨some 23, .mv, [.t 8], none, []⟩, ⟨some 24, .lens, [.t 23], none, []⟩, ⟨some 25, .bin .neq, [.t 24, .k (.d (.int .i64 64))], none,
  []⟩, ⟨some 26, .mv, [.t 25], none, []⟩, ⟨some 27, .mv, [.t 9], some (26, false), []⟩, ⟨some 28, .bin .lss, [.t 27, .k (.d (.int .i64 0))], some (26, false), []⟩, ⟨some 29, .pick,
  [.t 26, .k (.d (.bool true)), .t 28], none, []⟩, ⟨some 30, .mv, [.t 29], none, []⟩, ⟨some 31, .mv, [.t 8], some (30, false), []⟩, ⟨some 32, .mv, [.t 9], some (30, false), []⟩,
  ⟨some 33, .sslice true false, [.t 31, .t 32], some (30, false), []⟩, ⟨some 34, .call 39 false, [.t 33, .k (.d (.str ⟨#[0]⟩))], some (30, false), []⟩, ⟨some 35, .bin .neq, [.t 34,
  .k (.d (.str ⟨#[]⟩))], some (30, false), []⟩, ⟨some 36, .pick, [.t 30, .k (.d (.bool true)), .t 35], none, []⟩] [8, 9, 36]) (.cond (.t 36) (.seq (.region false [⟨some 4, .mv, [.k
  (.d (.str ⟨#[]⟩))], none, []⟩, ⟨some 5, .mv, [.k (.d (.int .i64 2))], none, []⟩] [4, 5]) .ret) .skip)) (.seq (.region false [⟨some 37, .mv, [.t 8], none, []⟩, ⟨some 38, .mv, [.t
  9], none, []⟩, ⟨some 39, .sslice false true, [.t 37, .t 38], none, []⟩, ⟨some 4, .mv, [.t 39], none, []⟩, ⟨some 5, .mv, [.k (.d (.int .i64 0))], none, []⟩] [4, 5]) .ret))))))
def tokenOpenPinRr : List RR := [.t 4, .t 5]
theorem tokenOpenPinC : compFn Tryd.prog 24 tokenOpenPinH = some (tokenOpenPinRc, tokenOpenPinRr, 40) := by kernel_rfl
theorem tokenOpenPinOK (a0 : BitVec 64) (a1 : List (BitVec 8)) (res : (List (BitVec 8)) × Int) (h : tokenOpenPin a0 a1 = some res) : CallOK Tryd.prog 24 [.d (eU64 a0), .d ((eL 1 eU8) a1)] [] (.tup [.d (eS res.1), .d (eI res.2)]) [] := by
  unfold tokenOpenPin at h
  refine callOK tokenOpenPinC fm rfl ?_
  simp only [initE, initM, nbor, List.map_cons, List.map_nil, Nat.reduceAdd]
  unfold tokenOpenPinRc
  refine rwp_seq fun K1 hK1 => ?_
  refine rwp_region fun K2 hK2 => ?_
  refine st0 128 rfl (ok (mv (.d (eS ([] : List (BitVec 8)))))) ?_
  refine st0 192 rfl (ok (mv (.d (eI (0 : Int))))) ?_
  refine hK2 _ _ ?_
  simp only [n0, n1, n2, n3, n4, n5, n6, n7, n8, n9, n10, n11, n12, n13, n14, n15, n16, n17, n18, n19, reduceIte]
  refine hK1 _ _ _ ?_
  refine rwp_seq fun K3 hK3 => ?_
  refine rwp_region fun K4 hK4 => ?_
  refine st0 256 rfl (ok (mv (.d (eU64 a0)))) ?_
  refine st0 320 rfl (ok (mv (.d ((eL 1 eU8) a1)))) ?_
  obtain ⟨y5, h6, h⟩ := bind_inv h
  refine st1 384 rfl (mem' := [(320, .row true 1 (y5.1.map eU8))]) (call_ok (v := .tup [.ref 320 y5.1.length 0 y5.1.length, .d (eI y5.2)]) (u := [(320, .row true 1 (y5.1.map eU8))]) (ar_d (eU64 a0) (ar_to rfl (to_1 rfl (ds_n eU8 ds_nil)) (ar_d ((eL 1 eU8) a1) ar_nil))) rfl (sealOpenOK a0 ([] : List (BitVec 8)) a1 y5 h6) rfl) rfl ?_
  refine st0 448 rfl (ok (mv (.tup [.ref 320 y5.1.length 0 y5.1.length, .d (eI y5.2)]))) ?_
  refine st0 512 rfl (ok (extr (v := .ref 320 y5.1.length 0 y5.1.length) rfl rfl)) ?_
  refine st0 576 rfl (ok (extr (v := .d (eI y5.2)) rfl rfl)) ?_
  refine st0 640 rfl (ok (mv (.ref 320 y5.1.length 0 y5.1.length))) ?_
  refine st0 704 rfl (ok (mv (.d (eI y5.2)))) ?_
  refine hK4 _ _ ?_
  simp only [n0, n1, n2, n3, n4, n5, n6, n7, n8, n9, n10, n11, n12, n13, n14, n15, n16, n17, n18, n19, reduceIte]
  refine hK3 _ _ _ ?_
  refine rwp_seq fun K7 hK7 => ?_
  refine rwp_seq fun K8 hK8 => ?_
  refine rwp_region fun K9 hK9 => ?_
  refine st0 768 rfl (ok (mv (.d (eI y5.2)))) ?_
  refine st0 832 rfl (ok (neqI _ (0 : Int))) ?_
  refine hK9 _ _ ?_
  simp only [n0, n1, n2, n3, n4, n5, n6, n7, n8, n9, n10, n11, n12, n13, n14, n15, n16, n17, n18, n19, reduceIte]
  refine hK8 _ _ _ ?_
  rcases Bool.eq_false_or_eq_true ((y5.2 != (0 : Int))) with h10 | h10
  · replace h := ite_t h h10
    refine rwp_t (isT h10) ?_
    refine rwp_seq fun K11 hK11 => ?_
    refine rwp_region fun K12 hK12 => ?_
    refine st0 896 rfl (ok (mv (.d (eI y5.2)))) ?_
    refine st0 960 rfl (ok (mv (.d (eS ([] : List (BitVec 8)))))) ?_
    refine st0 1024 rfl (ok (mv (.d (eI y5.2)))) ?_
    refine hK12 _ _ ?_
    simp only [n0, n1, n2, n3, n4, n5, n6, n7, n8, n9, n10, n11, n12, n13, n14, n15, n16, n17, n18, n19, reduceIte]
    refine hK11 _ _ _ ?_
    refine rwp_ret ?_
    obtain rfl := Option.some.inj h
    try simp only [thenK, blockK, reduceIte]
    exact Or.inl (end_ok trivial (rs_t (v := .d (eS ([] : List (BitVec 8)))) rfl (rs_t (v := .d (eI y5.2)) rfl rs_nil)) (en_d (to_d _) (en_d (to_d _) en_nil)) ou_nil (by first | exact eok rfl rfl rfl rfl trivial | (refine eok ?_ ?_ ?_ ?_ ?_ <;> first | rfl | exact trivial | simp [retM, Mem.get, PV.renL, PV.ren, Blk.ren, comps, rhoR, rhoM, appN, PV.refsL, PV.refs, keys, nodupB, Blk.refs, allIn, Blk.bor])))
  · replace h := ite_f h h10
    refine rwp_f (isF h10) ?_
    refine rwp_skip ?_
    refine hK7 _ _ _ ?_
    refine rwp_seq fun K13 hK13 => ?_
    refine rwp_region fun K14 hK14 => ?_
    refine st0 896 rfl (ok (mv (.ref 320 y5.1.length 0 y5.1.length))) ?_
    refine st0 960 rfl (ok (b2s (contR (xs := y5.1) rfl rfl rfl))) ?_
    refine st0 1024 rfl (ok (mv (.d (eS y5.1)))) ?_
    refine hK14 _ _ ?_
    simp only [n0, n1, n2, n3, n4, n5, n6, n7, n8, n9, n10, n11, n12, n13, n14, n15, n16, n17, n18, n19, reduceIte]
    refine hK13 _ _ _ ?_
    refine rwp_seq fun K15 hK15 => ?_
    refine rwp_region fun K16 hK16 => ?_
    refine st0 1088 rfl (ok (mv (.d (eS y5.1)))) ?_
    obtain ⟨y17, h18, h⟩ := bind_inv h
    refine st0 1152 rfl (call_ok (v := .d (eI y17)) (u := []) (ar_d (eS y5.1) (ar_d (eU8 (0#8)) ar_nil)) rfl (stringsIndexByteOK y5.1 (0#8) y17 h18) rfl) ?_
    refine st0 1216 rfl (ok (mv (.d (eI y17)))) ?_
    refine hK16 _ _ ?_
    simp only [n0, n1, n2, n3, n4, n5, n6, n7, n8, n9, n10, n11, n12, n13, n14, n15, n16, n17, n18, n19, reduceIte]
    refine hK15 _ _ _ ?_
    refine rwp_seq fun K19 hK19 => ?_
    refine rwp_join ([], []) 2176 (fun env mem => ∃ (v20 : Bool), tokenOpenPinJ1 y5 y17 v20 = some res ∧ env = [(8, .d (eS y5.1)), (9, .d (eI y17)), (36, .d (eB v20))] ∧ mem = []) (fun _ _ hI => ?_) (fun K21 hK21 => ?_)
    · obtain ⟨v20, h, rfl, rfl⟩ := hI
      unfold tokenOpenPinJ1 at h
      rcases Bool.eq_false_or_eq_true (v20) with h22 | h22
      · replace h := ite_t h h22
        refine rwp_t (isT h22) ?_
        refine rwp_seq fun K23 hK23 => ?_
        refine rwp_region fun K24 hK24 => ?_
        refine st0 2240 rfl (ok (mv (.d (eS ([] : List (BitVec 8)))))) ?_
        refine st0 2304 rfl (ok (mv (.d (eI (2 : Int))))) ?_
        refine hK24 _ _ ?_
        simp only [n0, n1, n2, n3, n4, n5, n6, n7, n8, n9, n10, n11, n12, n13, n14, n15, n16, n17, n18, n19, reduceIte]
        refine hK23 _ _ _ ?_
        refine rwp_ret ?_
        obtain rfl := Option.some.inj h
        try simp only [thenK, blockK, reduceIte]
        exact Or.inl (end_ok trivial (rs_t (v := .d (eS ([] : List (BitVec 8)))) rfl (rs_t (v := .d (eI (2 : Int))) rfl rs_nil)) (en_d (to_d _) (en_d (to_d _) en_nil)) ou_nil (by first | exact eok rfl rfl rfl rfl trivial | (refine eok ?_ ?_ ?_ ?_ ?_ <;> first | rfl | exact trivial | simp [retM, Mem.get, PV.renL, PV.ren, Blk.ren, comps, rhoR, rhoM, appN, PV.refsL, PV.refs, keys, nodupB, Blk.refs, allIn, Blk.bor])))
      · replace h := ite_f h h22
        refine rwp_f (isF h22) ?_
        refine rwp_skip ?_
        refine hK19 _ _ _ ?_
        refine rwp_seq fun K25 hK25 => ?_
        refine rwp_region fun K26 hK26 => ?_
        refine st0 2240 rfl (ok (mv (.d (eS y5.1)))) ?_
        refine st0 2304 rfl (ok (mv (.d (eI y17)))) ?_
        obtain ⟨h27, h⟩ := asq_inv h
        refine st0 2368 rfl (ok (sliS_h (x := y5.1) h27)) ?_
        refine st0 2432 rfl (ok (mv (.d (eS (dropTake 0 y17.toNat y5.1))))) ?_
        refine st0 2496 rfl (ok (mv (.d (eI (0 : Int))))) ?_
        refine hK26 _ _ ?_
        simp only [n0, n1, n2, n3, n4, n5, n6, n7, n8, n9, n10, n11, n12, n13, n14, n15, n16, n17, n18, n19, reduceIte]
        refine hK25 _ _ _ ?_
        refine rwp_ret ?_
        obtain rfl := Option.some.inj h
        try simp only [thenK, blockK, reduceIte]
        exact Or.inl (end_ok trivial (rs_t (v := .d (eS (dropTake 0 y17.toNat y5.1))) rfl (rs_t (v := .d (eI (0 : Int))) rfl rs_nil)) (en_d (to_d _) (en_d (to_d _) en_nil)) ou_nil (by first | exact eok rfl rfl rfl rfl trivial | (refine eok ?_ ?_ ?_ ?_ ?_ <;> first | rfl | exact trivial | simp [retM, Mem.get, PV.renL, PV.ren, Blk.ren, comps, rhoR, rhoM, appN, PV.refsL, PV.refs, keys, nodupB, Blk.refs, allIn, Blk.bor])))
    · refine rwp_region fun K28 hK28 => ?_
      refine st0 1280 rfl (ok (mv (.d (eS y5.1)))) ?_
      refine st0 1344 rfl (ok (lenS _)) ?_
      refine st0 1408 rfl (ok (neqI _ (64 : Int))) ?_
      refine st0 1472 rfl (ok (mv (.d (eB ((y5.1.length : Int) != (64 : Int)))))) ?_
      rcases Bool.eq_false_or_eq_true (((y5.1.length : Int) != (64 : Int))) with h29 | h29
      · replace h := ite_t h h29
        refine stGN 1536 rfl rfl h29 ?_
        refine stGN 1600 rfl rfl h29 ?_
        refine st0 1664 rfl (ok (pick_t h29 (.d (eB true)) _)) ?_
        refine st0 1728 rfl (ok (mv (.d (eB true)))) ?_
        refine stGN 1792 rfl rfl rfl ?_
        refine stGN 1856 rfl rfl rfl ?_
        refine stGN 1920 rfl rfl rfl ?_
        refine stGN 1984 rfl rfl rfl ?_
        refine stGN 2048 rfl rfl rfl ?_
        refine st0 2112 rfl (ok (pick_t rfl (.d (eB true)) _)) ?_
        refine hK28 _ _ ?_
        simp only [n0, n1, n2, n3, n4, n5, n6, n7, n8, n9, n10, n11, n12, n13, n14, n15, n16, n17, n18, n19, reduceIte]
        exact hK21 _ _ _ ⟨_, _, Settled.refl, _, _, ⟨_, h, rfl, rfl⟩, ⟨rfl, ⟨⟨rfl, rfl⟩, ⟨⟨rfl, rfl⟩, ⟨⟨rfl, rfl⟩, trivial⟩⟩⟩, trivial⟩, rfl⟩
      · replace h := ite_f h h29
        refine stG (isF h29) ?_
        refine st0 1536 rfl (ok (mv (.d (eI y17)))) ?_
        refine stG (isF h29) ?_
        refine st0 1600 rfl (ok (lssI _ (0 : Int))) ?_
        refine st0 1664 rfl (ok (pick_f h29 _ (.d (eB (decide (y17 < (0 : Int))))))) ?_
        refine st0 1728 rfl (ok (mv (.d (eB (decide (y17 < (0 : Int))))))) ?_
        rcases Bool.eq_false_or_eq_true ((decide (y17 < (0 : Int)))) with h30 | h30
        · replace h := ite_t h h30
          refine stGN 1792 rfl rfl h30 ?_
          refine stGN 1856 rfl rfl h30 ?_
          refine stGN 1920 rfl rfl h30 ?_
          refine stGN 1984 rfl rfl h30 ?_
          refine stGN 2048 rfl rfl h30 ?_
          refine st0 2112 rfl (ok (pick_t h30 (.d (eB true)) _)) ?_
          refine hK28 _ _ ?_
          simp only [n0, n1, n2, n3, n4, n5, n6, n7, n8, n9, n10, n11, n12, n13, n14, n15, n16, n17, n18, n19, reduceIte]
          exact hK21 _ _ _ ⟨_, _, Settled.refl, _, _, ⟨_, h, rfl, rfl⟩, ⟨rfl, ⟨⟨rfl, rfl⟩, ⟨⟨rfl, rfl⟩, ⟨⟨rfl, rfl⟩, trivial⟩⟩⟩, trivial⟩, rfl⟩
        · replace h := ite_f h h30
          refine stG (isF h30) ?_
          refine st0 1792 rfl (ok (mv (.d (eS y5.1)))) ?_
          refine stG (isF h30) ?_
          refine st0 1856 rfl (ok (mv (.d (eI y17)))) ?_
          refine stG (isF h30) ?_
          obtain ⟨h31, h⟩ := asq_inv h
          refine st0 1920 rfl (ok (sliS_l (x := y5.1) h31)) ?_
          refine stG (isF h30) ?_
          obtain ⟨y32, h33, h⟩ := bind_inv h
          refine st0 1984 rfl (call_ok (v := .d (eS y32)) (u := []) (ar_d (eS (dropTake y17.toNat y5.1.length y5.1)) (ar_d (eS ([0#8] : List (BitVec 8))) ar_nil)) rfl (stringsTrimOK (dropTake y17.toNat y5.1.length y5.1) ([0#8] : List (BitVec 8)) y32 h33) rfl) ?_
          refine stG (isF h30) ?_
          refine st0 2048 rfl (ok (neqS y32 ([] : List (BitVec 8)))) ?_
          refine st0 2112 rfl (ok (pick_f h30 _ (.d (eB (!(y32 == ([] : List (BitVec 8)))))))) ?_
          refine hK28 _ _ ?_
          simp only [n0, n1, n2, n3, n4, n5, n6, n7, n8, n9, n10, n11, n12, n13, n14, n15, n16, n17, n18, n19, reduceIte]
          exact hK21 _ _ _ ⟨_, _, Settled.refl, _, _, ⟨_, h, rfl, rfl⟩, ⟨rfl, ⟨⟨rfl, rfl⟩, ⟨⟨rfl, rfl⟩, ⟨⟨rfl, rfl⟩, trivial⟩⟩⟩, trivial⟩, rfl⟩

/-- passkey/token.Start -/
def tokenStartH : Hints := ⟨[(0, [0, 2]), (1, [2])], []⟩
def tokenStartRc : RCode :=
  .seq (.region false [⟨some 2, .alloc [.d (.int .u64 0), .d (.bool false), .d (.int .u64 0), .d (.int .i64 0), .d (.str ⟨#[]⟩), .d (.int .i64 0)], [], none, []⟩] [0, 2]) (.seq
  (.region false [⟨some 3, .mv, [.t 0], none, []⟩, ⟨some 4, .build [.d (.int .u64 0), .d (.bool false), .d (.int .u64 0), .d (.int .i64 0), .d (.str ⟨#[]⟩), .d (.int .i64 0)] [(0,
  1)], [.t 3], none, []⟩, ⟨none, .store 6, [.t 2, .t 4], none, []⟩] [2]) .ret)
def tokenStartRr : List RR := [.c 2 6 true]
theorem tokenStartC : compFn Tryd.prog 17 tokenStartH = some (tokenStartRc, tokenStartRr, 5) := by kernel_rfl
theorem tokenStartOK (a0 : BitVec 64) (res : TApiToken) (h : tokenStart a0 = some res) : CallOK Tryd.prog 17 [.d (eU64 a0)] [] (.d (eTApiToken res)) [] := by
  unfold tokenStart at h
  refine callOK tokenStartC fm rfl ?_
  simp only [initE, initM, nbor, List.map_cons, List.map_nil, Nat.reduceAdd]
  unfold tokenStartRc
  refine rwp_seq fun K1 hK1 => ?_
  refine rwp_region fun K2 hK2 => ?_
  refine st1 128 rfl (mem' := [(64, .var .mine [.d (eU64 (0#64)), .d (eB false), .d (eU64 (0#64)), .d (eI (0 : Int)), .d (eS ([] : List (BitVec 8))), .d (eI (0 : Int))])]) (ok (alc (zs := [.d (eU64 (0#64)), .d (eB false), .d (eU64 (0#64)), .d (eI (0 : Int)), .d (eS ([] : List (BitVec 8))), .d (eI (0 : Int))]))) rfl ?_
  refine hK2 _ _ ?_
  simp only [n0, n1, n2, n3, n4, n5, n6, n7, n8, n9, n10, n11, n12, n13, n14, n15, n16, n17, n18, n19, reduceIte]
  refine hK1 _ _ _ ?_
  refine rwp_seq fun K3 hK3 => ?_
  refine rwp_region fun K4 hK4 => ?_
  refine st0 192 rfl (ok (mv (.d (eU64 a0)))) ?_
  refine st0 256 rfl (ok (bld (v := .d (.agg [eU64 a0, eB false, eU64 (0#64), eI (0 : Int), eS ([] : List (BitVec 8)), eI (0 : Int)])) rfl rfl)) ?_
  refine stn 320 rfl (mem' := [(64, .var .mine [.d (eU64 a0), .d (eB false), .d (eU64 (0#64)), .d (eI (0 : Int)), .d (eS ([] : List (BitVec 8))), .d (eI (0 : Int))])]) (ok (sto_v (ps' := [.d (eU64 a0), .d (eB false), .d (eU64 (0#64)), .d (eI (0 : Int)), .d (eS ([] : List (BitVec 8))), .d (eI (0 : Int))]) rfl rfl rfl rfl)) rfl ?_
  refine hK4 _ _ ?_
  simp only [n0, n1, n2, n3, n4, n5, n6, n7, n8, n9, n10, n11, n12, n13, n14, n15, n16, n17, n18, n19, reduceIte]
  refine hK3 _ _ _ ?_
  refine rwp_ret ?_
  obtain rfl := Option.some.inj h
  try simp only [thenK, blockK, reduceIte]
  exact Or.inl (end_ok trivial (rs_c (id := 64) (off := 0) (v := .d (.agg [eU64 a0, eB false, eU64 (0#64), eI (0 : Int), eS ([] : List (BitVec 8)), eI (0 : Int)])) rfl rfl rfl rfl rs_nil) (en_d (to_d _) en_nil) ou_nil (by first | exact eok rfl rfl rfl rfl trivial | (refine eok ?_ ?_ ?_ ?_ ?_ <;> first | rfl | exact trivial | simp [retM, Mem.get, PV.renL, PV.ren, Blk.ren, comps, rhoR, rhoM, appN, PV.refsL, PV.refs, keys, nodupB, Blk.refs, allIn, Blk.bor])))

end Go.Proofs.Ty
