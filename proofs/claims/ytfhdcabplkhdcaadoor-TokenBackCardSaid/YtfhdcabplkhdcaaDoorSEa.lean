/- Each Go function comes to what its plain function says. PRINTED by a program of this session (ty.py). -/
import Derived.Test.YtfhdcabplkhdcaaDoorS8
set_option linter.unusedVariables false
set_option linter.unusedSimpArgs false
set_option maxHeartbeats 4000000
set_option maxRecDepth 10000
namespace Go.Proofs.Ty
open Go Go.RW Go.Proofs
open Go.RW renaming thenK → n0, blockK → n1, keepE → n2, updM → n3, envE → n4
open Go.RW.Mem renaming get → n5
open List renaming filter_cons → n6, filter_nil → n7, nil_append → n8, cons_append → n9, map_cons → n10, map_nil → n11, length_cons → n12, length_nil → n13
open Option renaming isNone_none → n14, isNone_some → n15
open Bool renaming false_eq_true → n16
open Nat renaming reduceEqDiff → n17, reduceAdd → n18, reduceMul → n19
/-- passkey/passkeylaw12.TokenBack -/
def passkeylaw12TokenBackH : Hints := ⟨[(0, [0, 1, 2, 3]), (1, [0, 1, 2, 3, 9]), (2, [0, 1, 2, 3, 9, 19]), (4, [0, 1, 2, 3, 9, 30]), (5, [8]), (3, [0, 1, 2, 3, 9]), (6, [0, 1, 2, 3, 10, 11]), (7, [0, 1, 2, 3, 11, 12, 13]), (8, [2, 3, 11, 12, 13, 14, 15]), (9, [8])], []⟩
def passkeylaw12TokenBackRc : RCode :=
  .seq (.region false [⟨some 8, .mv, [.k (.d (.bool false))], none, []⟩] [0, 1, 2, 3]) (.seq (.seq (.region false [⟨some 9, .mv, [.k (.d (.int .i64 0))], none, []⟩] [0, 1, 2, 3, 9])
  (.block 0 (.loop [] (.seq (.seq (.region false [⟨some 16, .mv, [.t 9], none, []⟩, ⟨some 17, .mv, [.t 2], none, []⟩, ⟨some 18, .lens, [.t 17], none, []⟩, ⟨some 19, .bin .lss, [.t
  16, .t 18], none, []⟩] [0, 1, 2, 3, 9, 19]) (.cond (.t 19) .skip (.exit 0))) (.seq (.block 1 (.seq (.region false [⟨some 22, .mv, [.t 2], none, []⟩, ⟨some 23, .mv, [.t 9], none,
  []⟩, ⟨some 24, .sx, [.t 22, .t 23], none, []⟩, ⟨some 25, .bin .eql, [.t 24, .k (.d (.int .u8 0))], none, []⟩, ⟨some 26, .mv, [.t 25], none, []⟩, ⟨some 27, .mv, [.t 2], some (26,
  false), []⟩, ⟨some 28, .lens, [.t 27], some (26, false), []⟩, ⟨some 29, .bin .gtr, [.t 28, .k (.d (.int .i64 63))], some (26, false), []⟩, ⟨some 30, .pick, [.t 26, .k (.d (.bool
  true)), .t 29], none, []⟩] [0, 1, 2, 3, 9, 30]) (.cond (.t 30) (.seq (.region false [⟨some 31, .call 9 false, [], none, []⟩, ⟨some 8, .mv, [.t 31], none, []⟩] [8]) .ret) .skip)))
  (.region false [⟨some 20, .mv, [.t 9], none, []⟩, ⟨some 21, .bin .add, [.t 20, .k (.d (.int .i64 1))], none, []⟩, ⟨some 9, .mv, [.t 21], none, []⟩] [0, 1, 2, 3, 9])))))) (.seq
  (.region false [⟨some 33, .mv, [.t 0], none, []⟩, ⟨some 34, .mv, [.t 1], none, []⟩, ⟨some 35, .mv, [.t 2], none, []⟩, ⟨some 36, .call 10 true, [.t 33, .t 34, .t 35], none, []⟩,
  ⟨some 32, .mv, [.t 36], none, []⟩, ⟨some 37, .ext 0, [.t 32], none, []⟩, ⟨some 38, .ext 1, [.t 32], none, []⟩, ⟨some 10, .mv, [.t 37], none, []⟩, ⟨some 11, .mv, [.t 38], none,
  []⟩] [0, 1, 2, 3, 10, 11]) (.seq (.region false [⟨some 40, .mv, [.t 0], none, []⟩, ⟨some 41, .mv, [.t 10], none, []⟩, ⟨some 42, .call 24 false, [.t 40, .t 41], none, []⟩, ⟨some
  39, .mv, [.t 42], none, []⟩, ⟨some 43, .ext 0, [.t 39], none, []⟩, ⟨some 44, .ext 1, [.t 39], none, []⟩, ⟨some 12, .mv, [.t 43], none, []⟩, ⟨some 13, .mv, [.t 44], none, []⟩] [0,
  1, 2, 3, 11, 12, 13]) (.seq (.region false [⟨some 46, .mv, [.t 0], none, []⟩, ⟨some 47, .mv, [.t 0], none, []⟩, ⟨some 48, .mv, [.t 1], none, []⟩, ⟨some 49, .mv, [.t 3], none,
  []⟩, ⟨some 50, .call 26 true, [.t 47, .t 48, .t 49], none, []⟩, ⟨some 51, .call 25 false, [.t 46, .t 50], none, []⟩, ⟨some 45, .mv, [.t 51], none, []⟩, ⟨some 52, .ext 0, [.t 45],
  none, []⟩, ⟨some 53, .ext 1, [.t 45], none, []⟩, ⟨some 14, .mv, [.t 52], none, []⟩, ⟨some 15, .mv, [.t 53], none, []⟩] [2, 3, 11, 12, 13, 14, 15]) (.seq (.region false [⟨some 54,
  .mv, [.t 11], none, []⟩, ⟨some 55, .bin .eql, [.t 54, .k (.d (.int .i64 0))], none, []⟩, ⟨some 56, .mv, [.t 55], none, []⟩, ⟨some 57, .mv, [.t 13], some (56, true), []⟩, ⟨some
  58, .bin .eql, [.t 57, .k (.d (.int .i64 0))], some (56, true), []⟩, ⟨some 59, .pick, [.t 56, .t 58, .k (.d (.bool false))], none, []⟩, ⟨some 60, .mv, [.t 59], none, []⟩, ⟨some
  61, .mv, [.t 15], some (60, true), []⟩, ⟨some 62, .bin .eql, [.t 61, .k (.d (.int .i64 0))], some (60, true), []⟩, ⟨some 63, .pick, [.t 60, .t 62, .k (.d (.bool false))], none,
  []⟩, ⟨some 64, .mv, [.t 63], none, []⟩, ⟨some 65, .mv, [.t 2], some (64, true), []⟩, ⟨some 66, .mv, [.t 12], some (64, true), []⟩, ⟨some 67, .bin .eql, [.t 65, .t 66], some (64,
  true), []⟩, ⟨some 68, .pick, [.t 64, .t 67, .k (.d (.bool false))], none, []⟩, ⟨some 69, .mv, [.t 68], none, []⟩, ⟨some 70, .mv, [.t 14], some (69, true), []⟩, ⟨some 71, .mv, [.t
  3], some (69, true), []⟩, ⟨some 72, .bin .eql, [.t 70, .t 71], some (69, true), []⟩, ⟨some 73, .pick, [.t 69, .t 72, .k (.d (.bool false))], none, []⟩, ⟨some 74, .mv, [.t 73],
  none, []⟩, ⟨some 75, .call 9 false, [], some (74, true), []⟩, ⟨some 76, .pick, [.t 74, .t 75, .k (.d (.bool false))], none, []⟩, ⟨some 8, .mv, [.t 76], none, []⟩] [8]) .ret)))))
def passkeylaw12TokenBackRr : List RR := [.t 8]
theorem passkeylaw12TokenBackC : compFn Tryd.prog 7 passkeylaw12TokenBackH = some (passkeylaw12TokenBackRc, passkeylaw12TokenBackRr, 77) := by kernel_rfl
theorem passkeylaw12TokenBackOK (a0 : BitVec 64) (a1 : BitVec 64) (a2 : List (BitVec 8)) (a3 : BitVec 64) (res : Bool) (h : passkeylaw12TokenBack a0 a1 a2 a3 = some res) : CallOK Tryd.prog 7 [.d (eU64 a0), .d (eU64 a1), .d (eS a2), .d (eU64 a3)] [] (.d (eB res)) [] := by
  unfold passkeylaw12TokenBack at h
  refine callOK passkeylaw12TokenBackC fm rfl ?_
  simp only [initE, initM, nbor, List.map_cons, List.map_nil, Nat.reduceAdd]
  unfold passkeylaw12TokenBackRc
  refine rwp_seq fun K1 hK1 => ?_
  refine rwp_region fun K2 hK2 => ?_
  refine st0 128 rfl (ok (mv (.d (eB false)))) ?_
  refine hK2 _ _ ?_
  simp only [n0, n1, n2, n3, n4, n5, n6, n7, n8, n9, n10, n11, n12, n13, n14, n15, n16, n17, n18, n19, reduceIte]
  refine hK1 _ _ _ ?_
  refine rwp_join ([], []) 1728 (fun env mem => passkeylaw12TokenBackJ1 a0 a1 a2 a3 = some res ∧ env = [(0, .d (eU64 a0)), (1, .d (eU64 a1)), (2, .d (eS a2)), (3, .d (eU64 a3))] ∧ mem = []) (fun _ _ hI => ?_) (fun K3 hK3 => ?_)
  · obtain ⟨h, rfl, rfl⟩ := hI
    unfold passkeylaw12TokenBackJ1 at h
    refine rwp_seq fun K4 hK4 => ?_
    refine rwp_region fun K5 hK5 => ?_
    refine st0 1792 rfl (ok (mv (.d (eU64 a0)))) ?_
    refine st0 1856 rfl (ok (mv (.d (eU64 a1)))) ?_
    refine st0 1920 rfl (ok (mv (.d (eS a2)))) ?_
    obtain ⟨y6, h7, h⟩ := bind_inv h
    refine st1 1984 rfl (mem' := [(1920, .row true 1 (y6.1.map eU8))]) (call_ok (v := .tup [.ref 1920 y6.1.length 0 y6.1.length, .d (eI y6.2)]) (u := [(1920, .row true 1 (y6.1.map eU8))]) (ar_d (eU64 a0) (ar_d (eU64 a1) (ar_d (eS a2) ar_nil))) rfl (tokenSealPinOK a0 a1 a2 y6 h7) rfl) rfl ?_
    refine st0 2048 rfl (ok (mv (.tup [.ref 1920 y6.1.length 0 y6.1.length, .d (eI y6.2)]))) ?_
    refine st0 2112 rfl (ok (extr (v := .ref 1920 y6.1.length 0 y6.1.length) rfl rfl)) ?_
    refine st0 2176 rfl (ok (extr (v := .d (eI y6.2)) rfl rfl)) ?_
    refine st0 2240 rfl (ok (mv (.ref 1920 y6.1.length 0 y6.1.length))) ?_
    refine st0 2304 rfl (ok (mv (.d (eI y6.2)))) ?_
    refine hK5 _ _ ?_
    simp only [n0, n1, n2, n3, n4, n5, n6, n7, n8, n9, n10, n11, n12, n13, n14, n15, n16, n17, n18, n19, reduceIte]
    refine hK4 _ _ _ ?_
    refine rwp_seq fun K8 hK8 => ?_
    refine rwp_region fun K9 hK9 => ?_
    refine st0 2368 rfl (ok (mv (.d (eU64 a0)))) ?_
    refine st0 2432 rfl (ok (mv (.ref 1920 y6.1.length 0 y6.1.length))) ?_
    obtain ⟨y10, h11, h⟩ := bind_inv h
    refine st0 2496 rfl (call_ok (v := .tup [.d (eS y10.1), .d (eI y10.2)]) (u := []) (ar_d (eU64 a0) (ar_to rfl (to_1 rfl (ds_r (ys := y6.1) rfl rfl rfl ds_nil)) ar_nil)) rfl (tokenOpenPinOK a0 y6.1 y10 h11) rfl) ?_
    refine st0 2560 rfl (ok (mv (.tup [.d (eS y10.1), .d (eI y10.2)]))) ?_
    refine st0 2624 rfl (ok (extr (v := .d (eS y10.1)) rfl rfl)) ?_
    refine st0 2688 rfl (ok (extr (v := .d (eI y10.2)) rfl rfl)) ?_
    refine st0 2752 rfl (ok (mv (.d (eS y10.1)))) ?_
    refine st0 2816 rfl (ok (mv (.d (eI y10.2)))) ?_
    refine hK9 _ _ ?_
    simp only [n0, n1, n2, n3, n4, n5, n6, n7, n8, n9, n10, n11, n12, n13, n14, n15, n16, n17, n18, n19, reduceIte]
    refine hK8 _ _ _ ?_
    refine rwp_seq fun K12 hK12 => ?_
    refine rwp_region fun K13 hK13 => ?_
    refine st0 2880 rfl (ok (mv (.d (eU64 a0)))) ?_
    refine st0 2944 rfl (ok (mv (.d (eU64 a0)))) ?_
    refine st0 3008 rfl (ok (mv (.d (eU64 a1)))) ?_
    refine st0 3072 rfl (ok (mv (.d (eU64 a3)))) ?_
    obtain ⟨y14, h15, h⟩ := bind_inv h
    refine st1 3136 rfl (mem' := [(3072, .row true 1 (y14.map eU8)), (1920, .row true 1 (y6.1.map eU8))]) (call_ok (v := .ref 3072 y14.length 0 y14.length) (u := [(3072, .row true 1 (y14.map eU8))]) (ar_d (eU64 a0) (ar_d (eU64 a1) (ar_d (eU64 a3) ar_nil))) rfl (tokenSealWordOK a0 a1 a3 y14 h15) rfl) rfl ?_
    obtain ⟨y16, h17, h⟩ := bind_inv h
    refine st0 3200 rfl (call_ok (v := .tup [.d (eU64 y16.1), .d (eI y16.2)]) (u := []) (ar_d (eU64 a0) (ar_to rfl (to_1 rfl (ds_r (ys := y14) rfl rfl rfl ds_nil)) ar_nil)) rfl (tokenOpenWordOK a0 y14 y16 h17) rfl) ?_
    refine st0 3264 rfl (ok (mv (.tup [.d (eU64 y16.1), .d (eI y16.2)]))) ?_
    refine st0 3328 rfl (ok (extr (v := .d (eU64 y16.1)) rfl rfl)) ?_
    refine st0 3392 rfl (ok (extr (v := .d (eI y16.2)) rfl rfl)) ?_
    refine st0 3456 rfl (ok (mv (.d (eU64 y16.1)))) ?_
    refine st0 3520 rfl (ok (mv (.d (eI y16.2)))) ?_
    refine hK13 _ _ ?_
    simp only [n0, n1, n2, n3, n4, n5, n6, n7, n8, n9, n10, n11, n12, n13, n14, n15, n16, n17, n18, n19, reduceIte]
    refine hK12 _ _ _ ?_
    refine rwp_seq fun K18 hK18 => ?_
    refine rwp_region fun K19 hK19 => ?_
    refine st0 3584 rfl (ok (mv (.d (eI y6.2)))) ?_
    refine st0 3648 rfl (ok (eqlI _ (0 : Int))) ?_
    refine st0 3712 rfl (ok (mv (.d (eB (y6.2 == (0 : Int)))))) ?_
    rcases Bool.eq_false_or_eq_true ((y6.2 == (0 : Int))) with h20 | h20
    · replace h := ite_t h h20
      refine stG (isT h20) ?_
      refine st0 3776 rfl (ok (mv (.d (eI y10.2)))) ?_
      refine stG (isT h20) ?_
      refine st0 3840 rfl (ok (eqlI _ (0 : Int))) ?_
      refine st0 3904 rfl (ok (pick_t h20 (.d (eB (y10.2 == (0 : Int)))) _)) ?_
      refine st0 3968 rfl (ok (mv (.d (eB (y10.2 == (0 : Int)))))) ?_
      rcases Bool.eq_false_or_eq_true ((y10.2 == (0 : Int))) with h21 | h21
      · replace h := ite_t h h21
        refine stG (isT h21) ?_
        refine st0 4032 rfl (ok (mv (.d (eI y16.2)))) ?_
        refine stG (isT h21) ?_
        refine st0 4096 rfl (ok (eqlI _ (0 : Int))) ?_
        refine st0 4160 rfl (ok (pick_t h21 (.d (eB (y16.2 == (0 : Int)))) _)) ?_
        refine st0 4224 rfl (ok (mv (.d (eB (y16.2 == (0 : Int)))))) ?_
        rcases Bool.eq_false_or_eq_true ((y16.2 == (0 : Int))) with h22 | h22
        · replace h := ite_t h h22
          refine stG (isT h22) ?_
          refine st0 4288 rfl (ok (mv (.d (eS a2)))) ?_
          refine stG (isT h22) ?_
          refine st0 4352 rfl (ok (mv (.d (eS y10.1)))) ?_
          refine stG (isT h22) ?_
          refine st0 4416 rfl (ok (eqlS a2 y10.1)) ?_
          refine st0 4480 rfl (ok (pick_t h22 (.d (eB (a2 == y10.1))) _)) ?_
          refine st0 4544 rfl (ok (mv (.d (eB (a2 == y10.1))))) ?_
          rcases Bool.eq_false_or_eq_true ((a2 == y10.1)) with h23 | h23
          · replace h := ite_t h h23
            refine stG (isT h23) ?_
            refine st0 4608 rfl (ok (mv (.d (eU64 y16.1)))) ?_
            refine stG (isT h23) ?_
            refine st0 4672 rfl (ok (mv (.d (eU64 a3)))) ?_
            refine stG (isT h23) ?_
            refine st0 4736 rfl (ok (eql64 _ _)) ?_
            refine st0 4800 rfl (ok (pick_t h23 (.d (eB (y16.1 == a3))) _)) ?_
            refine st0 4864 rfl (ok (mv (.d (eB (y16.1 == a3))))) ?_
            rcases Bool.eq_false_or_eq_true ((y16.1 == a3)) with h24 | h24
            · replace h := ite_t h h24
              refine stG (isT h24) ?_
              obtain ⟨y25, h26, h⟩ := bind_inv h
              refine st0 4928 rfl (call_ok (v := .d (eB y25)) (u := []) ar_nil rfl (passkeylaw12awakeOK  y25 h26) rfl) ?_
              refine st0 4992 rfl (ok (pick_t h24 (.d (eB y25)) _)) ?_
              refine st0 5056 rfl (ok (mv (.d (eB y25)))) ?_
              refine hK19 _ _ ?_
              simp only [n0, n1, n2, n3, n4, n5, n6, n7, n8, n9, n10, n11, n12, n13, n14, n15, n16, n17, n18, n19, reduceIte]
              refine hK18 _ _ _ ?_
              refine rwp_ret ?_
              obtain rfl := Option.some.inj h
              try simp only [thenK, blockK, reduceIte]
              exact Or.inl (end_ok trivial (rs_t (v := .d (eB y25)) rfl rs_nil) (en_d (to_d _) en_nil) ou_nil (by first | exact eok rfl rfl rfl rfl trivial | (refine eok ?_ ?_ ?_ ?_ ?_ <;> first | rfl | exact trivial | simp [retM, Mem.get, PV.renL, PV.ren, Blk.ren, comps, rhoR, rhoM, appN, PV.refsL, PV.refs, keys, nodupB, Blk.refs, allIn, Blk.bor])))
            · replace h := ite_f h h24
              refine stGN 4928 rfl rfl h24 ?_
              refine st0 4992 rfl (ok (pick_f h24 _ (.d (eB false)))) ?_
              refine st0 5056 rfl (ok (mv (.d (eB false)))) ?_
              refine hK19 _ _ ?_
              simp only [n0, n1, n2, n3, n4, n5, n6, n7, n8, n9, n10, n11, n12, n13, n14, n15, n16, n17, n18, n19, reduceIte]
              refine hK18 _ _ _ ?_
              refine rwp_ret ?_
              obtain rfl := Option.some.inj h
              try simp only [thenK, blockK, reduceIte]
              exact Or.inl (end_ok trivial (rs_t (v := .d (eB false)) rfl rs_nil) (en_d (to_d _) en_nil) ou_nil (by first | exact eok rfl rfl rfl rfl trivial | (refine eok ?_ ?_ ?_ ?_ ?_ <;> first | rfl | exact trivial | simp [retM, Mem.get, PV.renL, PV.ren, Blk.ren, comps, rhoR, rhoM, appN, PV.refsL, PV.refs, keys, nodupB, Blk.refs, allIn, Blk.bor])))
          · replace h := ite_f h h23
            refine stGN 4608 rfl rfl h23 ?_
            refine stGN 4672 rfl rfl h23 ?_
            refine stGN 4736 rfl rfl h23 ?_
            refine st0 4800 rfl (ok (pick_f h23 _ (.d (eB false)))) ?_
            refine st0 4864 rfl (ok (mv (.d (eB false)))) ?_
            refine stGN 4928 rfl rfl rfl ?_
            refine st0 4992 rfl (ok (pick_f rfl _ (.d (eB false)))) ?_
            refine st0 5056 rfl (ok (mv (.d (eB false)))) ?_
            refine hK19 _ _ ?_
            simp only [n0, n1, n2, n3, n4, n5, n6, n7, n8, n9, n10, n11, n12, n13, n14, n15, n16, n17, n18, n19, reduceIte]
            refine hK18 _ _ _ ?_
            refine rwp_ret ?_
            obtain rfl := Option.some.inj h
            try simp only [thenK, blockK, reduceIte]
            exact Or.inl (end_ok trivial (rs_t (v := .d (eB false)) rfl rs_nil) (en_d (to_d _) en_nil) ou_nil (by first | exact eok rfl rfl rfl rfl trivial | (refine eok ?_ ?_ ?_ ?_ ?_ <;> first | rfl | exact trivial | simp [retM, Mem.get, PV.renL, PV.ren, Blk.ren, comps, rhoR, rhoM, appN, PV.refsL, PV.refs, keys, nodupB, Blk.refs, allIn, Blk.bor])))
        · replace h := ite_f h h22
          refine stGN 4288 rfl rfl h22 ?_
          refine stGN 4352 rfl rfl h22 ?_
          refine stGN 4416 rfl rfl h22 ?_
          refine st0 4480 rfl (ok (pick_f h22 _ (.d (eB false)))) ?_
          refine st0 4544 rfl (ok (mv (.d (eB false)))) ?_
          refine stGN 4608 rfl rfl rfl ?_
          refine stGN 4672 rfl rfl rfl ?_
          refine stGN 4736 rfl rfl rfl ?_
          refine st0 4800 rfl (ok (pick_f rfl _ (.d (eB false)))) ?_
          refine st0 4864 rfl (ok (mv (.d (eB false)))) ?_
          refine stGN 4928 rfl rfl rfl ?_
          refine st0 4992 rfl (ok (pick_f rfl _ (.d (eB false)))) ?_
          refine st0 5056 rfl (ok (mv (.d (eB false)))) ?_
          refine hK19 _ _ ?_
          simp only [n0, n1, n2, n3, n4, n5, n6, n7, n8, n9, n10, n11, n12, n13, n14, n15, n16, n17, n18, n19, reduceIte]
          refine hK18 _ _ _ ?_
          refine rwp_ret ?_
          obtain rfl := Option.some.inj h
          try simp only [thenK, blockK, reduceIte]
          exact Or.inl (end_ok trivial (rs_t (v := .d (eB false)) rfl rs_nil) (en_d (to_d _) en_nil) ou_nil (by first | exact eok rfl rfl rfl rfl trivial | (refine eok ?_ ?_ ?_ ?_ ?_ <;> first | rfl | exact trivial | simp [retM, Mem.get, PV.renL, PV.ren, Blk.ren, comps, rhoR, rhoM, appN, PV.refsL, PV.refs, keys, nodupB, Blk.refs, allIn, Blk.bor])))
      · replace h := ite_f h h21
        refine stGN 4032 rfl rfl h21 ?_
        refine stGN 4096 rfl rfl h21 ?_
        refine st0 4160 rfl (ok (pick_f h21 _ (.d (eB false)))) ?_
        refine st0 4224 rfl (ok (mv (.d (eB false)))) ?_
        refine stGN 4288 rfl rfl rfl ?_
        refine stGN 4352 rfl rfl rfl ?_
        refine stGN 4416 rfl rfl rfl ?_
        refine st0 4480 rfl (ok (pick_f rfl _ (.d (eB false)))) ?_
        refine st0 4544 rfl (ok (mv (.d (eB false)))) ?_
        refine stGN 4608 rfl rfl rfl ?_
        refine stGN 4672 rfl rfl rfl ?_
        refine stGN 4736 rfl rfl rfl ?_
        refine st0 4800 rfl (ok (pick_f rfl _ (.d (eB false)))) ?_
        refine st0 4864 rfl (ok (mv (.d (eB false)))) ?_
        refine stGN 4928 rfl rfl rfl ?_
        refine st0 4992 rfl (ok (pick_f rfl _ (.d (eB false)))) ?_
        refine st0 5056 rfl (ok (mv (.d (eB false)))) ?_
        refine hK19 _ _ ?_
        simp only [n0, n1, n2, n3, n4, n5, n6, n7, n8, n9, n10, n11, n12, n13, n14, n15, n16, n17, n18, n19, reduceIte]
        refine hK18 _ _ _ ?_
        refine rwp_ret ?_
        obtain rfl := Option.some.inj h
        try simp only [thenK, blockK, reduceIte]
        exact Or.inl (end_ok trivial (rs_t (v := .d (eB false)) rfl rs_nil) (en_d (to_d _) en_nil) ou_nil (by first | exact eok rfl rfl rfl rfl trivial | (refine eok ?_ ?_ ?_ ?_ ?_ <;> first | rfl | exact trivial | simp [retM, Mem.get, PV.renL, PV.ren, Blk.ren, comps, rhoR, rhoM, appN, PV.refsL, PV.refs, keys, nodupB, Blk.refs, allIn, Blk.bor])))
    · replace h := ite_f h h20
      refine stGN 3776 rfl rfl h20 ?_
      refine stGN 3840 rfl rfl h20 ?_
      refine st0 3904 rfl (ok (pick_f h20 _ (.d (eB false)))) ?_
      refine st0 3968 rfl (ok (mv (.d (eB false)))) ?_
      refine stGN 4032 rfl rfl rfl ?_
      refine stGN 4096 rfl rfl rfl ?_
      refine st0 4160 rfl (ok (pick_f rfl _ (.d (eB false)))) ?_
      refine st0 4224 rfl (ok (mv (.d (eB false)))) ?_
      refine stGN 4288 rfl rfl rfl ?_
      refine stGN 4352 rfl rfl rfl ?_
      refine stGN 4416 rfl rfl rfl ?_
      refine st0 4480 rfl (ok (pick_f rfl _ (.d (eB false)))) ?_
      refine st0 4544 rfl (ok (mv (.d (eB false)))) ?_
      refine stGN 4608 rfl rfl rfl ?_
      refine stGN 4672 rfl rfl rfl ?_
      refine stGN 4736 rfl rfl rfl ?_
      refine st0 4800 rfl (ok (pick_f rfl _ (.d (eB false)))) ?_
      refine st0 4864 rfl (ok (mv (.d (eB false)))) ?_
      refine stGN 4928 rfl rfl rfl ?_
      refine st0 4992 rfl (ok (pick_f rfl _ (.d (eB false)))) ?_
      refine st0 5056 rfl (ok (mv (.d (eB false)))) ?_
      refine hK19 _ _ ?_
      simp only [n0, n1, n2, n3, n4, n5, n6, n7, n8, n9, n10, n11, n12, n13, n14, n15, n16, n17, n18, n19, reduceIte]
      refine hK18 _ _ _ ?_
      refine rwp_ret ?_
      obtain rfl := Option.some.inj h
      try simp only [thenK, blockK, reduceIte]
      exact Or.inl (end_ok trivial (rs_t (v := .d (eB false)) rfl rs_nil) (en_d (to_d _) en_nil) ou_nil (by first | exact eok rfl rfl rfl rfl trivial | (refine eok ?_ ?_ ?_ ?_ ?_ <;> first | rfl | exact trivial | simp [retM, Mem.get, PV.renL, PV.ren, Blk.ren, comps, rhoR, rhoM, appN, PV.refsL, PV.refs, keys, nodupB, Blk.refs, allIn, Blk.bor])))
  · refine rwp_seq fun K27 hK27 => ?_
    refine rwp_region fun K28 hK28 => ?_
    refine st0 192 rfl (ok (mv (.d (eI (0 : Int))))) ?_
    refine hK28 _ _ ?_
    simp only [n0, n1, n2, n3, n4, n5, n6, n7, n8, n9, n10, n11, n12, n13, n14, n15, n16, n17, n18, n19, reduceIte]
    refine hK27 _ _ _ ?_
    refine rwp_block fun K29 hK29 => ?_
    refine rwp_loop ([], []) 1408 (fun k env mem => ∃ (v30 : Int), passkeylaw12TokenBackL2 a0 a1 a2 a3 k v30 = some res ∧ env = [(0, .d (eU64 a0)), (1, .d (eU64 a1)), (2, .d (eS a2)), (3, .d (eU64 a3)), (9, .d (eI v30))] ∧ mem = []) FUEL ⟨_, _, Settled.refl, _, _, ⟨_, h, rfl, rfl⟩, ⟨rfl, ⟨⟨rfl, rfl⟩, ⟨⟨rfl, rfl⟩, ⟨⟨rfl, rfl⟩, ⟨⟨rfl, rfl⟩, ⟨⟨rfl, rfl⟩, trivial⟩⟩⟩⟩⟩, trivial⟩, rfl⟩ (fun k2 env1 mem1 hI K31 hK31 => ?_)
    obtain ⟨v30, h, rfl, rfl⟩ := hI
    cases k2 with
    | zero => simp [passkeylaw12TokenBackL2] at h
    | succ k2 =>
      rw [passkeylaw12TokenBackL2] at h
      refine rwp_seq fun K32 hK32 => ?_
      refine rwp_seq fun K33 hK33 => ?_
      refine rwp_region fun K34 hK34 => ?_
      refine st0 1472 rfl (ok (mv (.d (eI v30)))) ?_
      refine st0 1536 rfl (ok (mv (.d (eS a2)))) ?_
      refine st0 1600 rfl (ok (lenS _)) ?_
      refine st0 1664 rfl (ok (lssI _ _)) ?_
      refine hK34 _ _ ?_
      simp only [n0, n1, n2, n3, n4, n5, n6, n7, n8, n9, n10, n11, n12, n13, n14, n15, n16, n17, n18, n19, reduceIte]
      refine hK33 _ _ _ ?_
      rcases Bool.eq_false_or_eq_true ((decide (v30 < (a2.length : Int)))) with h35 | h35
      · replace h := ite_t h h35
        refine rwp_t (isT h35) ?_
        refine rwp_skip ?_
        refine hK32 _ _ _ ?_
        refine rwp_seq fun K36 hK36 => ?_
        refine rwp_block fun K37 hK37 => ?_
        refine rwp_join ([], []) 2304 (fun env mem => ∃ (v38 : Bool), passkeylaw12TokenBackJ3 (passkeylaw12TokenBackL2 a0 a1 a2 a3 k2) v30 v38 = some res ∧ env = [(0, .d (eU64 a0)), (1, .d (eU64 a1)), (2, .d (eS a2)), (3, .d (eU64 a3)), (9, .d (eI v30)), (30, .d (eB v38))] ∧ mem = []) (fun _ _ hI => ?_) (fun K39 hK39 => ?_)
        · obtain ⟨v38, h, rfl, rfl⟩ := hI
          unfold passkeylaw12TokenBackJ3 at h
          rcases Bool.eq_false_or_eq_true (v38) with h40 | h40
          · replace h := ite_t h h40
            refine rwp_t (isT h40) ?_
            refine rwp_seq fun K41 hK41 => ?_
            refine rwp_region fun K42 hK42 => ?_
            obtain ⟨y43, h44, h⟩ := bind_inv h
            refine st0 2368 rfl (call_ok (v := .d (eB y43)) (u := []) ar_nil rfl (passkeylaw12awakeOK  y43 h44) rfl) ?_
            refine st0 2432 rfl (ok (mv (.d (eB y43)))) ?_
            refine hK42 _ _ ?_
            simp only [n0, n1, n2, n3, n4, n5, n6, n7, n8, n9, n10, n11, n12, n13, n14, n15, n16, n17, n18, n19, reduceIte]
            refine hK41 _ _ _ ?_
            refine rwp_ret ?_
            obtain rfl := Option.some.inj h
            try simp only [thenK, blockK, reduceIte]
            exact Or.inl (end_ok trivial (rs_t (v := .d (eB y43)) rfl rs_nil) (en_d (to_d _) en_nil) ou_nil (by first | exact eok rfl rfl rfl rfl trivial | (refine eok ?_ ?_ ?_ ?_ ?_ <;> first | rfl | exact trivial | simp [retM, Mem.get, PV.renL, PV.ren, Blk.ren, comps, rhoR, rhoM, appN, PV.refsL, PV.refs, keys, nodupB, Blk.refs, allIn, Blk.bor])))
          · replace h := ite_f h h40
            refine rwp_f (isF h40) ?_
            refine rwp_skip ?_
            refine hK37 _ _ _ ?_
            refine hK36 _ _ _ ?_
            refine rwp_region fun K45 hK45 => ?_
            refine st0 2368 rfl (ok (mv (.d (eI v30)))) ?_
            refine st0 2432 rfl (ok (addI _ (1 : Int))) ?_
            refine st0 2496 rfl (ok (mv (.d (eI (w64 (v30 + (1 : Int))))))) ?_
            refine hK45 _ _ ?_
            simp only [n0, n1, n2, n3, n4, n5, n6, n7, n8, n9, n10, n11, n12, n13, n14, n15, n16, n17, n18, n19, reduceIte]
            exact hK31.out _ _ _ k2 (Nat.lt_succ_self k2) ⟨_, _, Settled.refl, _, _, ⟨_, h, rfl, rfl⟩, ⟨rfl, ⟨⟨rfl, rfl⟩, ⟨⟨rfl, rfl⟩, ⟨⟨rfl, rfl⟩, ⟨⟨rfl, rfl⟩, ⟨⟨rfl, rfl⟩, trivial⟩⟩⟩⟩⟩, trivial⟩, rfl⟩
        · refine rwp_region fun K46 hK46 => ?_
          refine st0 1728 rfl (ok (mv (.d (eS a2)))) ?_
          refine st0 1792 rfl (ok (mv (.d (eI v30)))) ?_
          obtain ⟨h47, h⟩ := asq_inv h
          refine st0 1856 rfl (ok (idxS a2 h47)) ?_
          refine st0 1920 rfl (ok (eql8 _ (0#8))) ?_
          refine st0 1984 rfl (ok (mv (.d (eB ((a2.getD v30.toNat 0#8) == (0#8)))))) ?_
          rcases Bool.eq_false_or_eq_true (((a2.getD v30.toNat 0#8) == (0#8))) with h48 | h48
          · replace h := ite_t h h48
            refine stGN 2048 rfl rfl h48 ?_
            refine stGN 2112 rfl rfl h48 ?_
            refine stGN 2176 rfl rfl h48 ?_
            refine st0 2240 rfl (ok (pick_t h48 (.d (eB true)) _)) ?_
            refine hK46 _ _ ?_
            simp only [n0, n1, n2, n3, n4, n5, n6, n7, n8, n9, n10, n11, n12, n13, n14, n15, n16, n17, n18, n19, reduceIte]
            exact hK39 _ _ _ ⟨_, _, Settled.refl, _, _, ⟨_, h, rfl, rfl⟩, ⟨rfl, ⟨⟨rfl, rfl⟩, ⟨⟨rfl, rfl⟩, ⟨⟨rfl, rfl⟩, ⟨⟨rfl, rfl⟩, ⟨⟨rfl, rfl⟩, ⟨⟨rfl, rfl⟩, trivial⟩⟩⟩⟩⟩⟩, trivial⟩, rfl⟩
          · replace h := ite_f h h48
            refine stG (isF h48) ?_
            refine st0 2048 rfl (ok (mv (.d (eS a2)))) ?_
            refine stG (isF h48) ?_
            refine st0 2112 rfl (ok (lenS _)) ?_
            refine stG (isF h48) ?_
            refine st0 2176 rfl (ok (gtrI _ (63 : Int))) ?_
            refine st0 2240 rfl (ok (pick_f h48 _ (.d (eB (decide ((63 : Int) < (a2.length : Int))))))) ?_
            refine hK46 _ _ ?_
            simp only [n0, n1, n2, n3, n4, n5, n6, n7, n8, n9, n10, n11, n12, n13, n14, n15, n16, n17, n18, n19, reduceIte]
            exact hK39 _ _ _ ⟨_, _, Settled.refl, _, _, ⟨_, h, rfl, rfl⟩, ⟨rfl, ⟨⟨rfl, rfl⟩, ⟨⟨rfl, rfl⟩, ⟨⟨rfl, rfl⟩, ⟨⟨rfl, rfl⟩, ⟨⟨rfl, rfl⟩, ⟨⟨rfl, rfl⟩, trivial⟩⟩⟩⟩⟩⟩, trivial⟩, rfl⟩
      · replace h := ite_f h h35
        refine rwp_f (isF h35) ?_
        refine rwp_exit ?_
        refine hK29 _ _ _ ?_
        exact hK3 _ _ _ ⟨_, _, Settled.refl, _, _, ⟨h, rfl, rfl⟩, ⟨rfl, ⟨⟨rfl, rfl⟩, ⟨⟨rfl, rfl⟩, ⟨⟨rfl, rfl⟩, ⟨⟨rfl, rfl⟩, trivial⟩⟩⟩⟩, trivial⟩, rfl⟩

end Go.Proofs.Ty
