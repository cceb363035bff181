/- Each Go function comes to what its plain function says. PRINTED by a program of this session (ty.py). -/
import Derived.Test.YtfhdcabplkhdcaaDoorS4
set_option linter.unusedVariables false
set_option linter.unusedSimpArgs false
set_option maxHeartbeats 4000000
set_option maxRecDepth 10000
namespace Go.Proofs.Ty
open Go Go.RW Go.Proofs
open Go.RW renaming thenK → n0, blockK → n1, keepE → n2, updM → n3, envE → n4
open Go.RW.Mem renaming get → n5
open List renaming filter_cons → n6, filter_nil → n7, nil_append → n8, cons_append → n9, map_cons → n10, map_nil → n11, length_cons → n12, length_nil → n13
open Option renaming isNone_none → n14, isNone_some → n15
open Bool renaming false_eq_true → n16
open Nat renaming reduceEqDiff → n17, reduceAdd → n18, reduceMul → n19
/-- passkey/passkeylaw12.awake -/
def passkeylaw12awakeH : Hints := ⟨[(0, []), (1, [1, 2]), (2, [1, 2, 3, 4]), (3, [1, 2, 3, 4, 5, 6]), (4, [1, 2, 3, 4, 6, 7]), (5, [0])], []⟩
def passkeylaw12awakeRc : RCode :=
  .seq (.region false [⟨some 0, .mv, [.k (.d (.bool false))], none, []⟩] []) (.seq (.region false [⟨some 9, .call 10 true, [.k (.d (.int .u64 1)), .k (.d (.int .u64 2)), .k (.d (.str
  ⟨#[49, 50, 51, 52]⟩))], none, []⟩, ⟨some 8, .mv, [.t 9], none, []⟩, ⟨some 10, .ext 0, [.t 8], none, []⟩, ⟨some 11, .ext 1, [.t 8], none, []⟩, ⟨some 1, .mv, [.t 10], none, []⟩,
  ⟨some 2, .mv, [.t 11], none, []⟩] [1, 2]) (.seq (.region false [⟨some 13, .mv, [.t 1], none, []⟩, ⟨some 14, .call 24 false, [.k (.d (.int .u64 1)), .t 13], none, []⟩, ⟨some 12,
  .mv, [.t 14], none, []⟩, ⟨some 15, .ext 0, [.t 12], none, []⟩, ⟨some 16, .ext 1, [.t 12], none, []⟩, ⟨some 3, .mv, [.t 15], none, []⟩, ⟨some 4, .mv, [.t 16], none, []⟩] [1, 2, 3,
  4]) (.seq (.region false [⟨some 18, .call 17 false, [.k (.d (.int .u64 5))], none, []⟩, ⟨some 19, .call 15 false, [.t 18, .k (.d (.int .u64 6)), .k (.d (.int .i64 2)), .k (.d
  (.str ⟨#[]⟩)), .k (.d (.int .i64 10))], none, []⟩, ⟨some 17, .mv, [.t 19], none, []⟩, ⟨some 20, .ext 0, [.t 17], none, []⟩, ⟨some 21, .ext 1, [.t 17], none, []⟩, ⟨some 5, .alloc
  [.d (.int .u64 0), .d (.bool false), .d (.int .u64 0), .d (.int .i64 0), .d (.str ⟨#[]⟩), .d (.int .i64 0)], [], none, []⟩, ⟨none, .store 6, [.t 5, .t 20], none, []⟩, ⟨some 6,
  .mv, [.t 21], none, []⟩] [1, 2, 3, 4, 5, 6]) (.seq (.region true [⟨some 22, .load 6 true, [.t 5], none, []⟩, ⟨some 23, .call 22 false, [.k (.d (.int .u64 6)), .k (.d (.int .u64
  7))], none, []⟩, ⟨some 24, .call 20 false, [.t 22, .k (.d (.int .i64 10)), .k (.d (.int .i64 2)), .k (.d (.str ⟨#[97]⟩)), .k (.d (.int .u64 7)), .t 23], none, [0, 1]⟩, ⟨some 7,
  .mv, [.t 24], none, [0, 1, 2]⟩] [1, 2, 3, 4, 6, 7]) (.seq (.region false [⟨some 25, .mv, [.t 2], none, []⟩, ⟨some 26, .bin .eql, [.t 25, .k (.d (.int .i64 0))], none, []⟩, ⟨some
  27, .mv, [.t 26], none, []⟩, ⟨some 28, .mv, [.t 4], some (27, true), []⟩, ⟨some 29, .bin .eql, [.t 28, .k (.d (.int .i64 0))], some (27, true), []⟩, ⟨some 30, .pick, [.t 27, .t
  29, .k (.d (.bool false))], none, []⟩, ⟨some 31, .mv, [.t 30], none, []⟩, ⟨some 32, .mv, [.t 6], some (31, true), []⟩, ⟨some 33, .bin .eql, [.t 32, .k (.d (.int .i64 0))], some
  (31, true), []⟩, ⟨some 34, .pick, [.t 31, .t 33, .k (.d (.bool false))], none, []⟩, ⟨some 35, .mv, [.t 34], none, []⟩, ⟨some 36, .mv, [.t 1], some (35, true), []⟩, ⟨some 37,
  .len, [.t 36], some (35, true), []⟩, ⟨some 38, .bin .eql, [.t 37, .k (.d (.int .i64 80))], some (35, true), []⟩, ⟨some 39, .pick, [.t 35, .t 38, .k (.d (.bool false))], none,
  []⟩, ⟨some 40, .mv, [.t 39], none, []⟩, ⟨some 41, .mv, [.t 3], some (40, true), []⟩, ⟨some 42, .bin .eql, [.t 41, .k (.d (.str ⟨#[49, 50, 51, 52]⟩))], some (40, true), []⟩, ⟨some
  43, .pick, [.t 40, .t 42, .k (.d (.bool false))], none, []⟩, ⟨some 44, .mv, [.t 43], none, []⟩, ⟨some 45, .mv, [.t 7], some (44, true), []⟩, ⟨some 46, .bin .eql, [.t 45, .k (.d
  (.int .i64 0))], some (44, true), []⟩, ⟨some 47, .pick, [.t 44, .t 46, .k (.d (.bool false))], none, []⟩, ⟨some 48, .mv, [.t 47], none, []⟩, ⟨some 49, .call 17 false, [.k (.d
  (.int .u64 5))], some (48, true), []⟩, ⟨some 50, .call 20 false, [.t 49, .k (.d (.int .i64 10)), .k (.d (.int .i64 1)), .k (.d (.str ⟨#[]⟩)), .k (.d (.int .u64 7)), .k (.d (.int
  .u64 0))], some (48, true), []⟩, ⟨some 51, .bin .eql, [.t 50, .k (.d (.int .i64 29))], some (48, true), []⟩, ⟨some 52, .pick, [.t 48, .t 51, .k (.d (.bool false))], none, []⟩,
  ⟨some 0, .mv, [.t 52], none, []⟩] [0]) .ret)))))
def passkeylaw12awakeRr : List RR := [.t 0]
theorem passkeylaw12awakeC : compFn Tryd.prog 9 passkeylaw12awakeH = some (passkeylaw12awakeRc, passkeylaw12awakeRr, 53) := by kernel_rfl
theorem passkeylaw12awakeOK  (res : Bool) (h : passkeylaw12awake  = some res) : CallOK Tryd.prog 9 [] [] (.d (eB res)) [] := by
  unfold passkeylaw12awake at h
  refine callOK passkeylaw12awakeC fm rfl ?_
  simp only [initE, initM, nbor, List.map_cons, List.map_nil, Nat.reduceAdd]
  unfold passkeylaw12awakeRc
  refine rwp_seq fun K1 hK1 => ?_
  refine rwp_region fun K2 hK2 => ?_
  refine st0 128 rfl (ok (mv (.d (eB false)))) ?_
  refine hK2 _ _ ?_
  simp only [n0, n1, n2, n3, n4, n5, n6, n7, n8, n9, n10, n11, n12, n13, n14, n15, n16, n17, n18, n19, reduceIte]
  refine hK1 _ _ _ ?_
  refine rwp_seq fun K3 hK3 => ?_
  refine rwp_region fun K4 hK4 => ?_
  obtain ⟨y5, h6, h⟩ := bind_inv h
  refine st1 192 rfl (mem' := [(128, .row true 1 (y5.1.map eU8))]) (call_ok (v := .tup [.ref 128 y5.1.length 0 y5.1.length, .d (eI y5.2)]) (u := [(128, .row true 1 (y5.1.map eU8))]) (ar_d (eU64 (1#64)) (ar_d (eU64 (2#64)) (ar_d (eS ([49#8, 50#8, 51#8, 52#8] : List (BitVec 8))) ar_nil))) rfl (tokenSealPinOK (1#64) (2#64) ([49#8, 50#8, 51#8, 52#8] : List (BitVec 8)) y5 h6) rfl) rfl ?_
  refine st0 256 rfl (ok (mv (.tup [.ref 128 y5.1.length 0 y5.1.length, .d (eI y5.2)]))) ?_
  refine st0 320 rfl (ok (extr (v := .ref 128 y5.1.length 0 y5.1.length) rfl rfl)) ?_
  refine st0 384 rfl (ok (extr (v := .d (eI y5.2)) rfl rfl)) ?_
  refine st0 448 rfl (ok (mv (.ref 128 y5.1.length 0 y5.1.length))) ?_
  refine st0 512 rfl (ok (mv (.d (eI y5.2)))) ?_
  refine hK4 _ _ ?_
  simp only [n0, n1, n2, n3, n4, n5, n6, n7, n8, n9, n10, n11, n12, n13, n14, n15, n16, n17, n18, n19, reduceIte]
  refine hK3 _ _ _ ?_
  refine rwp_seq fun K7 hK7 => ?_
  refine rwp_region fun K8 hK8 => ?_
  refine st0 576 rfl (ok (mv (.ref 128 y5.1.length 0 y5.1.length))) ?_
  obtain ⟨y9, h10, h⟩ := bind_inv h
  refine st0 640 rfl (call_ok (v := .tup [.d (eS y9.1), .d (eI y9.2)]) (u := []) (ar_d (eU64 (1#64)) (ar_to rfl (to_1 rfl (ds_r (ys := y5.1) rfl rfl rfl ds_nil)) ar_nil)) rfl (tokenOpenPinOK (1#64) y5.1 y9 h10) rfl) ?_
  refine st0 704 rfl (ok (mv (.tup [.d (eS y9.1), .d (eI y9.2)]))) ?_
  refine st0 768 rfl (ok (extr (v := .d (eS y9.1)) rfl rfl)) ?_
  refine st0 832 rfl (ok (extr (v := .d (eI y9.2)) rfl rfl)) ?_
  refine st0 896 rfl (ok (mv (.d (eS y9.1)))) ?_
  refine st0 960 rfl (ok (mv (.d (eI y9.2)))) ?_
  refine hK8 _ _ ?_
  simp only [n0, n1, n2, n3, n4, n5, n6, n7, n8, n9, n10, n11, n12, n13, n14, n15, n16, n17, n18, n19, reduceIte]
  refine hK7 _ _ _ ?_
  refine rwp_seq fun K11 hK11 => ?_
  refine rwp_region fun K12 hK12 => ?_
  obtain ⟨y13, h14, h⟩ := bind_inv h
  refine st0 1024 rfl (call_ok (v := .d (eTApiToken y13)) (u := []) (ar_d (eU64 (5#64)) ar_nil) rfl (tokenStartOK (5#64) y13 h14) rfl) ?_
  obtain ⟨y15, h16, h⟩ := bind_inv h
  refine st0 1088 rfl (call_ok (v := .tup [.d (eTApiToken y15.1), .d (eI y15.2)]) (u := []) (ar_d (eTApiToken y13) (ar_d (eU64 (6#64)) (ar_d (eI (2 : Int)) (ar_d (eS ([] : List (BitVec 8))) (ar_d (eI (10 : Int)) ar_nil))))) rfl (tokenIssueOK y13 (6#64) (2 : Int) ([] : List (BitVec 8)) (10 : Int) y15 h16) rfl) ?_
  refine st0 1152 rfl (ok (mv (.tup [.d (eTApiToken y15.1), .d (eI y15.2)]))) ?_
  refine st0 1216 rfl (ok (extr (v := .d (eTApiToken y15.1)) rfl rfl)) ?_
  refine st0 1280 rfl (ok (extr (v := .d (eI y15.2)) rfl rfl)) ?_
  refine st1 1344 rfl (mem' := [(1280, .var .mine [.d (eU64 (0#64)), .d (eB false), .d (eU64 (0#64)), .d (eI (0 : Int)), .d (eS ([] : List (BitVec 8))), .d (eI (0 : Int))]), (128, .row true 1 (y5.1.map eU8))]) (ok (alc (zs := [.d (eU64 (0#64)), .d (eB false), .d (eU64 (0#64)), .d (eI (0 : Int)), .d (eS ([] : List (BitVec 8))), .d (eI (0 : Int))]))) rfl ?_
  refine stn 1408 rfl (mem' := [(1280, .var .mine [.d (eU64 y15.1.Secret), .d (eB y15.1.Active), .d (eU64 y15.1.Value), .d (eI y15.1.Permissions), .d (eS y15.1.RP), .d (eI y15.1.Since)]), (128, .row true 1 (y5.1.map eU8))]) (ok (sto_v (ps' := [.d (eU64 y15.1.Secret), .d (eB y15.1.Active), .d (eU64 y15.1.Value), .d (eI y15.1.Permissions), .d (eS y15.1.RP), .d (eI y15.1.Since)]) rfl rfl rfl rfl)) rfl ?_
  refine st0 1472 rfl (ok (mv (.d (eI y15.2)))) ?_
  refine hK12 _ _ ?_
  simp only [n0, n1, n2, n3, n4, n5, n6, n7, n8, n9, n10, n11, n12, n13, n14, n15, n16, n17, n18, n19, reduceIte]
  refine hK11 _ _ _ ?_
  refine rwp_seq fun K17 hK17 => ?_
  refine rwp_draw fun K18 hK18 => ?_
  refine dr0 1536 rfl (ok (ld_v (v := .d (.agg [eU64 y15.1.Secret, eB y15.1.Active, eU64 y15.1.Value, eI y15.1.Permissions, eS y15.1.RP, eI y15.1.Since])) rfl rfl rfl)) (by kernel_rfl) ?_
  obtain ⟨y19, h20, h⟩ := bind_inv h
  refine dr0 1600 rfl (call_ok (v := .d (eU64 y19)) (u := []) (ar_d (eU64 (6#64)) (ar_d (eU64 (7#64)) ar_nil)) rfl (tokenAuthorizeOK (6#64) (7#64) y19 h20) rfl) (by kernel_rfl) ?_
  obtain ⟨y21, h22, h⟩ := bind_inv h
  refine dr0 1664 rfl (call_ok (v := .d (eI y21)) (u := []) (ar_d (eTApiToken (TApiToken.mk y15.1.Secret y15.1.Active y15.1.Value y15.1.Permissions y15.1.RP y15.1.Since)) (ar_d (eI (10 : Int)) (ar_d (eI (2 : Int)) (ar_d (eS ([97#8] : List (BitVec 8))) (ar_d (eU64 (7#64)) (ar_d (eU64 y19) ar_nil)))))) rfl (tokenVerifyOK (TApiToken.mk y15.1.Secret y15.1.Active y15.1.Value y15.1.Permissions y15.1.RP y15.1.Since) (10 : Int) (2 : Int) ([97#8] : List (BitVec 8)) (7#64) y19 y21 h22) rfl) (by kernel_rfl) ?_
  refine dr0 1728 rfl (ok (mv (.d (eI y21)))) (by kernel_rfl) ?_
  refine hK18 _ _ ?_
  simp only [n0, n1, n2, n3, n4, n5, n6, n7, n8, n9, n10, n11, n12, n13, n14, n15, n16, n17, n18, n19, reduceIte]
  refine hK17 _ _ _ ?_
  refine rwp_seq fun K23 hK23 => ?_
  refine rwp_region fun K24 hK24 => ?_
  refine st0 1792 rfl (ok (mv (.d (eI y5.2)))) ?_
  refine st0 1856 rfl (ok (eqlI _ (0 : Int))) ?_
  refine st0 1920 rfl (ok (mv (.d (eB (y5.2 == (0 : Int)))))) ?_
  rcases Bool.eq_false_or_eq_true ((y5.2 == (0 : Int))) with h25 | h25
  · replace h := ite_t h h25
    refine stG (isT h25) ?_
    refine st0 1984 rfl (ok (mv (.d (eI y9.2)))) ?_
    refine stG (isT h25) ?_
    refine st0 2048 rfl (ok (eqlI _ (0 : Int))) ?_
    refine st0 2112 rfl (ok (pick_t h25 (.d (eB (y9.2 == (0 : Int)))) _)) ?_
    refine st0 2176 rfl (ok (mv (.d (eB (y9.2 == (0 : Int)))))) ?_
    rcases Bool.eq_false_or_eq_true ((y9.2 == (0 : Int))) with h26 | h26
    · replace h := ite_t h h26
      refine stG (isT h26) ?_
      refine st0 2240 rfl (ok (mv (.d (eI y15.2)))) ?_
      refine stG (isT h26) ?_
      refine st0 2304 rfl (ok (eqlI _ (0 : Int))) ?_
      refine st0 2368 rfl (ok (pick_t h26 (.d (eB (y15.2 == (0 : Int)))) _)) ?_
      refine st0 2432 rfl (ok (mv (.d (eB (y15.2 == (0 : Int)))))) ?_
      rcases Bool.eq_false_or_eq_true ((y15.2 == (0 : Int))) with h27 | h27
      · replace h := ite_t h h27
        refine stG (isT h27) ?_
        refine st0 2496 rfl (ok (mv (.ref 128 y5.1.length 0 y5.1.length))) ?_
        refine stG (isT h27) ?_
        refine st0 2560 rfl (ok (lenR _ _ _ _)) ?_
        refine stG (isT h27) ?_
        refine st0 2624 rfl (ok (eqlI _ (80 : Int))) ?_
        refine st0 2688 rfl (ok (pick_t h27 (.d (eB ((y5.1.length : Int) == (80 : Int)))) _)) ?_
        refine st0 2752 rfl (ok (mv (.d (eB ((y5.1.length : Int) == (80 : Int)))))) ?_
        rcases Bool.eq_false_or_eq_true (((y5.1.length : Int) == (80 : Int))) with h28 | h28
        · replace h := ite_t h h28
          refine stG (isT h28) ?_
          refine st0 2816 rfl (ok (mv (.d (eS y9.1)))) ?_
          refine stG (isT h28) ?_
          refine st0 2880 rfl (ok (eqlS y9.1 ([49#8, 50#8, 51#8, 52#8] : List (BitVec 8)))) ?_
          refine st0 2944 rfl (ok (pick_t h28 (.d (eB (y9.1 == ([49#8, 50#8, 51#8, 52#8] : List (BitVec 8))))) _)) ?_
          refine st0 3008 rfl (ok (mv (.d (eB (y9.1 == ([49#8, 50#8, 51#8, 52#8] : List (BitVec 8))))))) ?_
          rcases Bool.eq_false_or_eq_true ((y9.1 == ([49#8, 50#8, 51#8, 52#8] : List (BitVec 8)))) with h29 | h29
          · replace h := ite_t h h29
            refine stG (isT h29) ?_
            refine st0 3072 rfl (ok (mv (.d (eI y21)))) ?_
            refine stG (isT h29) ?_
            refine st0 3136 rfl (ok (eqlI _ (0 : Int))) ?_
            refine st0 3200 rfl (ok (pick_t h29 (.d (eB (y21 == (0 : Int)))) _)) ?_
            refine st0 3264 rfl (ok (mv (.d (eB (y21 == (0 : Int)))))) ?_
            rcases Bool.eq_false_or_eq_true ((y21 == (0 : Int))) with h30 | h30
            · replace h := ite_t h h30
              refine stG (isT h30) ?_
              obtain ⟨y31, h32, h⟩ := bind_inv h
              refine st0 3328 rfl (call_ok (v := .d (eTApiToken y31)) (u := []) (ar_d (eU64 (5#64)) ar_nil) rfl (tokenStartOK (5#64) y31 h32) rfl) ?_
              refine stG (isT h30) ?_
              obtain ⟨y33, h34, h⟩ := bind_inv h
              refine st0 3392 rfl (call_ok (v := .d (eI y33)) (u := []) (ar_d (eTApiToken y31) (ar_d (eI (10 : Int)) (ar_d (eI (1 : Int)) (ar_d (eS ([] : List (BitVec 8))) (ar_d (eU64 (7#64)) (ar_d (eU64 (0#64)) ar_nil)))))) rfl (tokenVerifyOK y31 (10 : Int) (1 : Int) ([] : List (BitVec 8)) (7#64) (0#64) y33 h34) rfl) ?_
              refine stG (isT h30) ?_
              refine st0 3456 rfl (ok (eqlI _ (29 : Int))) ?_
              refine st0 3520 rfl (ok (pick_t h30 (.d (eB (y33 == (29 : Int)))) _)) ?_
              refine st0 3584 rfl (ok (mv (.d (eB (y33 == (29 : Int)))))) ?_
              refine hK24 _ _ ?_
              simp only [n0, n1, n2, n3, n4, n5, n6, n7, n8, n9, n10, n11, n12, n13, n14, n15, n16, n17, n18, n19, reduceIte]
              refine hK23 _ _ _ ?_
              refine rwp_ret ?_
              obtain rfl := Option.some.inj h
              try simp only [thenK, blockK, reduceIte]
              exact Or.inl (end_ok trivial (rs_t (v := .d (eB (y33 == (29 : Int)))) rfl rs_nil) (en_d (to_d _) en_nil) ou_nil (by first | exact eok rfl rfl rfl rfl trivial | (refine eok ?_ ?_ ?_ ?_ ?_ <;> first | rfl | exact trivial | simp [retM, Mem.get, PV.renL, PV.ren, Blk.ren, comps, rhoR, rhoM, appN, PV.refsL, PV.refs, keys, nodupB, Blk.refs, allIn, Blk.bor])))
            · replace h := ite_f h h30
              refine stGN 3328 rfl rfl h30 ?_
              refine stGN 3392 rfl rfl h30 ?_
              refine stGN 3456 rfl rfl h30 ?_
              refine st0 3520 rfl (ok (pick_f h30 _ (.d (eB false)))) ?_
              refine st0 3584 rfl (ok (mv (.d (eB false)))) ?_
              refine hK24 _ _ ?_
              simp only [n0, n1, n2, n3, n4, n5, n6, n7, n8, n9, n10, n11, n12, n13, n14, n15, n16, n17, n18, n19, reduceIte]
              refine hK23 _ _ _ ?_
              refine rwp_ret ?_
              obtain rfl := Option.some.inj h
              try simp only [thenK, blockK, reduceIte]
              exact Or.inl (end_ok trivial (rs_t (v := .d (eB false)) rfl rs_nil) (en_d (to_d _) en_nil) ou_nil (by first | exact eok rfl rfl rfl rfl trivial | (refine eok ?_ ?_ ?_ ?_ ?_ <;> first | rfl | exact trivial | simp [retM, Mem.get, PV.renL, PV.ren, Blk.ren, comps, rhoR, rhoM, appN, PV.refsL, PV.refs, keys, nodupB, Blk.refs, allIn, Blk.bor])))
          · replace h := ite_f h h29
            refine stGN 3072 rfl rfl h29 ?_
            refine stGN 3136 rfl rfl h29 ?_
            refine st0 3200 rfl (ok (pick_f h29 _ (.d (eB false)))) ?_
            refine st0 3264 rfl (ok (mv (.d (eB false)))) ?_
            refine stGN 3328 rfl rfl rfl ?_
            refine stGN 3392 rfl rfl rfl ?_
            refine stGN 3456 rfl rfl rfl ?_
            refine st0 3520 rfl (ok (pick_f rfl _ (.d (eB false)))) ?_
            refine st0 3584 rfl (ok (mv (.d (eB false)))) ?_
            refine hK24 _ _ ?_
            simp only [n0, n1, n2, n3, n4, n5, n6, n7, n8, n9, n10, n11, n12, n13, n14, n15, n16, n17, n18, n19, reduceIte]
            refine hK23 _ _ _ ?_
            refine rwp_ret ?_
            obtain rfl := Option.some.inj h
            try simp only [thenK, blockK, reduceIte]
            exact Or.inl (end_ok trivial (rs_t (v := .d (eB false)) rfl rs_nil) (en_d (to_d _) en_nil) ou_nil (by first | exact eok rfl rfl rfl rfl trivial | (refine eok ?_ ?_ ?_ ?_ ?_ <;> first | rfl | exact trivial | simp [retM, Mem.get, PV.renL, PV.ren, Blk.ren, comps, rhoR, rhoM, appN, PV.refsL, PV.refs, keys, nodupB, Blk.refs, allIn, Blk.bor])))
        · replace h := ite_f h h28
          refine stGN 2816 rfl rfl h28 ?_
          refine stGN 2880 rfl rfl h28 ?_
          refine st0 2944 rfl (ok (pick_f h28 _ (.d (eB false)))) ?_
          refine st0 3008 rfl (ok (mv (.d (eB false)))) ?_
          refine stGN 3072 rfl rfl rfl ?_
          refine stGN 3136 rfl rfl rfl ?_
          refine st0 3200 rfl (ok (pick_f rfl _ (.d (eB false)))) ?_
          refine st0 3264 rfl (ok (mv (.d (eB false)))) ?_
          refine stGN 3328 rfl rfl rfl ?_
          refine stGN 3392 rfl rfl rfl ?_
          refine stGN 3456 rfl rfl rfl ?_
          refine st0 3520 rfl (ok (pick_f rfl _ (.d (eB false)))) ?_
          refine st0 3584 rfl (ok (mv (.d (eB false)))) ?_
          refine hK24 _ _ ?_
          simp only [n0, n1, n2, n3, n4, n5, n6, n7, n8, n9, n10, n11, n12, n13, n14, n15, n16, n17, n18, n19, reduceIte]
          refine hK23 _ _ _ ?_
          refine rwp_ret ?_
          obtain rfl := Option.some.inj h
          try simp only [thenK, blockK, reduceIte]
          exact Or.inl (end_ok trivial (rs_t (v := .d (eB false)) rfl rs_nil) (en_d (to_d _) en_nil) ou_nil (by first | exact eok rfl rfl rfl rfl trivial | (refine eok ?_ ?_ ?_ ?_ ?_ <;> first | rfl | exact trivial | simp [retM, Mem.get, PV.renL, PV.ren, Blk.ren, comps, rhoR, rhoM, appN, PV.refsL, PV.refs, keys, nodupB, Blk.refs, allIn, Blk.bor])))
      · replace h := ite_f h h27
        refine stGN 2496 rfl rfl h27 ?_
        refine stGN 2560 rfl rfl h27 ?_
        refine stGN 2624 rfl rfl h27 ?_
        refine st0 2688 rfl (ok (pick_f h27 _ (.d (eB false)))) ?_
        refine st0 2752 rfl (ok (mv (.d (eB false)))) ?_
        refine stGN 2816 rfl rfl rfl ?_
        refine stGN 2880 rfl rfl rfl ?_
        refine st0 2944 rfl (ok (pick_f rfl _ (.d (eB false)))) ?_
        refine st0 3008 rfl (ok (mv (.d (eB false)))) ?_
        refine stGN 3072 rfl rfl rfl ?_
        refine stGN 3136 rfl rfl rfl ?_
        refine st0 3200 rfl (ok (pick_f rfl _ (.d (eB false)))) ?_
        refine st0 3264 rfl (ok (mv (.d (eB false)))) ?_
        refine stGN 3328 rfl rfl rfl ?_
        refine stGN 3392 rfl rfl rfl ?_
        refine stGN 3456 rfl rfl rfl ?_
        refine st0 3520 rfl (ok (pick_f rfl _ (.d (eB false)))) ?_
        refine st0 3584 rfl (ok (mv (.d (eB false)))) ?_
        refine hK24 _ _ ?_
        simp only [n0, n1, n2, n3, n4, n5, n6, n7, n8, n9, n10, n11, n12, n13, n14, n15, n16, n17, n18, n19, reduceIte]
        refine hK23 _ _ _ ?_
        refine rwp_ret ?_
        obtain rfl := Option.some.inj h
        try simp only [thenK, blockK, reduceIte]
        exact Or.inl (end_ok trivial (rs_t (v := .d (eB false)) rfl rs_nil) (en_d (to_d _) en_nil) ou_nil (by first | exact eok rfl rfl rfl rfl trivial | (refine eok ?_ ?_ ?_ ?_ ?_ <;> first | rfl | exact trivial | simp [retM, Mem.get, PV.renL, PV.ren, Blk.ren, comps, rhoR, rhoM, appN, PV.refsL, PV.refs, keys, nodupB, Blk.refs, allIn, Blk.bor])))
    · replace h := ite_f h h26
      refine stGN 2240 rfl rfl h26 ?_
      refine stGN 2304 rfl rfl h26 ?_
      refine st0 2368 rfl (ok (pick_f h26 _ (.d (eB false)))) ?_
      refine st0 2432 rfl (ok (mv (.d (eB false)))) ?_
      refine stGN 2496 rfl rfl rfl ?_
      refine stGN 2560 rfl rfl rfl ?_
      refine stGN 2624 rfl rfl rfl ?_
      refine st0 2688 rfl (ok (pick_f rfl _ (.d (eB false)))) ?_
      refine st0 2752 rfl (ok (mv (.d (eB false)))) ?_
      refine stGN 2816 rfl rfl rfl ?_
      refine stGN 2880 rfl rfl rfl ?_
      refine st0 2944 rfl (ok (pick_f rfl _ (.d (eB false)))) ?_
      refine st0 3008 rfl (ok (mv (.d (eB false)))) ?_
      refine stGN 3072 rfl rfl rfl ?_
      refine stGN 3136 rfl rfl rfl ?_
      refine st0 3200 rfl (ok (pick_f rfl _ (.d (eB false)))) ?_
      refine st0 3264 rfl (ok (mv (.d (eB false)))) ?_
      refine stGN 3328 rfl rfl rfl ?_
      refine stGN 3392 rfl rfl rfl ?_
      refine stGN 3456 rfl rfl rfl ?_
      refine st0 3520 rfl (ok (pick_f rfl _ (.d (eB false)))) ?_
      refine st0 3584 rfl (ok (mv (.d (eB false)))) ?_
      refine hK24 _ _ ?_
      simp only [n0, n1, n2, n3, n4, n5, n6, n7, n8, n9, n10, n11, n12, n13, n14, n15, n16, n17, n18, n19, reduceIte]
      refine hK23 _ _ _ ?_
      refine rwp_ret ?_
      obtain rfl := Option.some.inj h
      try simp only [thenK, blockK, reduceIte]
      exact Or.inl (end_ok trivial (rs_t (v := .d (eB false)) rfl rs_nil) (en_d (to_d _) en_nil) ou_nil (by first | exact eok rfl rfl rfl rfl trivial | (refine eok ?_ ?_ ?_ ?_ ?_ <;> first | rfl | exact trivial | simp [retM, Mem.get, PV.renL, PV.ren, Blk.ren, comps, rhoR, rhoM, appN, PV.refsL, PV.refs, keys, nodupB, Blk.refs, allIn, Blk.bor])))
  · replace h := ite_f h h25
    refine stGN 1984 rfl rfl h25 ?_
    refine stGN 2048 rfl rfl h25 ?_
    refine st0 2112 rfl (ok (pick_f h25 _ (.d (eB false)))) ?_
    refine st0 2176 rfl (ok (mv (.d (eB false)))) ?_
    refine stGN 2240 rfl rfl rfl ?_
    refine stGN 2304 rfl rfl rfl ?_
    refine st0 2368 rfl (ok (pick_f rfl _ (.d (eB false)))) ?_
    refine st0 2432 rfl (ok (mv (.d (eB false)))) ?_
    refine stGN 2496 rfl rfl rfl ?_
    refine stGN 2560 rfl rfl rfl ?_
    refine stGN 2624 rfl rfl rfl ?_
    refine st0 2688 rfl (ok (pick_f rfl _ (.d (eB false)))) ?_
    refine st0 2752 rfl (ok (mv (.d (eB false)))) ?_
    refine stGN 2816 rfl rfl rfl ?_
    refine stGN 2880 rfl rfl rfl ?_
    refine st0 2944 rfl (ok (pick_f rfl _ (.d (eB false)))) ?_
    refine st0 3008 rfl (ok (mv (.d (eB false)))) ?_
    refine stGN 3072 rfl rfl rfl ?_
    refine stGN 3136 rfl rfl rfl ?_
    refine st0 3200 rfl (ok (pick_f rfl _ (.d (eB false)))) ?_
    refine st0 3264 rfl (ok (mv (.d (eB false)))) ?_
    refine stGN 3328 rfl rfl rfl ?_
    refine stGN 3392 rfl rfl rfl ?_
    refine stGN 3456 rfl rfl rfl ?_
    refine st0 3520 rfl (ok (pick_f rfl _ (.d (eB false)))) ?_
    refine st0 3584 rfl (ok (mv (.d (eB false)))) ?_
    refine hK24 _ _ ?_
    simp only [n0, n1, n2, n3, n4, n5, n6, n7, n8, n9, n10, n11, n12, n13, n14, n15, n16, n17, n18, n19, reduceIte]
    refine hK23 _ _ _ ?_
    refine rwp_ret ?_
    obtain rfl := Option.some.inj h
    try simp only [thenK, blockK, reduceIte]
    exact Or.inl (end_ok trivial (rs_t (v := .d (eB false)) rfl rs_nil) (en_d (to_d _) en_nil) ou_nil (by first | exact eok rfl rfl rfl rfl trivial | (refine eok ?_ ?_ ?_ ?_ ?_ <;> first | rfl | exact trivial | simp [retM, Mem.get, PV.renL, PV.ren, Blk.ren, comps, rhoR, rhoM, appN, PV.refsL, PV.refs, keys, nodupB, Blk.refs, allIn, Blk.bor])))

/-- passkey/passkeyref1.Words -/
def passkeyref1WordsH : Hints := ⟨[(0, [0]), (1, [0, 3]), (2, [0, 3, 4]), (3, [0, 3, 4, 9]), (5, [0, 3, 4, 5]), (6, [0, 3, 4, 5, 13]), (8, [0, 3, 4, 5]), (7, [0, 3, 4, 5]), (4, [0, 3, 4]), (9, [2])], []⟩
def passkeyref1WordsRc : RCode :=
  .seq (.region false [⟨some 2, .mv, [.k (.nil 1)], none, []⟩] [0]) (.seq (.region false [⟨some 3, .mv, [.k (.nil 1)], none, []⟩] [0, 3]) (.seq (.seq (.region false [⟨some 4, .mv,
  [.k (.d (.int .i64 0))], none, []⟩] [0, 3, 4]) (.block 0 (.loop [] (.seq (.seq (.region false [⟨some 6, .mv, [.t 4], none, []⟩, ⟨some 7, .mv, [.t 0], none, []⟩, ⟨some 8, .len,
  [.t 7], none, []⟩, ⟨some 9, .bin .lss, [.t 6, .t 8], none, []⟩] [0, 3, 4, 9]) (.cond (.t 9) .skip (.exit 0))) (.seq (.block 1 (.seq (.region false [⟨some 5, .mv, [.k (.d (.int
  .i64 7))], none, []⟩] [0, 3, 4, 5]) (.block 2 (.loop [] (.seq (.seq (.region false [⟨some 12, .mv, [.t 5], none, []⟩, ⟨some 13, .bin .geq, [.t 12, .k (.d (.int .i64 0))], none,
  []⟩] [0, 3, 4, 5, 13]) (.cond (.t 13) .skip (.exit 2))) (.seq (.block 3 (.region false [⟨some 16, .mv, [.t 3], none, []⟩, ⟨some 17, .mv, [.t 0], none, []⟩, ⟨some 18, .mv, [.t 4],
  none, []⟩, ⟨some 19, .ia 1, [.t 17, .t 18], none, []⟩, ⟨some 20, .load 1 false, [.t 19], none, []⟩, ⟨some 21, .mv, [.t 5], none, []⟩, ⟨some 22, .bin .mul, [.k (.d (.int .i64 8)),
  .t 21], none, []⟩, ⟨some 23, .cvt .u64, [.t 22], none, []⟩, ⟨some 24, .bin .shr, [.t 20, .t 23], none, []⟩, ⟨some 25, .cvt .u8, [.t 24], none, []⟩, ⟨some 26, .bslice 1 false 1
  [.d (.int .u8 0)] [0], [.t 25], none, []⟩, ⟨some 27, .app 1 140737488355328, [.t 16, .t 26], none, []⟩, ⟨some 3, .mv, [.t 27], none, []⟩] [0, 3, 4, 5])) (.region false [⟨some 14,
  .mv, [.t 5], none, []⟩, ⟨some 15, .bin .sub, [.t 14, .k (.d (.int .i64 1))], none, []⟩, ⟨some 5, .mv, [.t 15], none, []⟩] [0, 3, 4, 5]))))))) (.region false [⟨some 10, .mv, [.t
  4], none, []⟩, ⟨some 11, .bin .add, [.t 10, .k (.d (.int .i64 1))], none, []⟩, ⟨some 4, .mv, [.t 11], none, []⟩] [0, 3, 4])))))) (.seq (.region false [⟨some 28, .mv, [.t 3],
  none, []⟩, ⟨some 2, .mv, [.t 28], none, []⟩] [2]) .ret)))
def passkeyref1WordsRr : List RR := [.t 2]
theorem passkeyref1WordsC : compFn Tryd.prog 31 passkeyref1WordsH = some (passkeyref1WordsRc, passkeyref1WordsRr, 29) := by kernel_rfl
theorem passkeyref1WordsOK (a0 : List (BitVec 64)) (res : List (BitVec 8)) (h : passkeyref1Words a0 = some res) : CallOK Tryd.prog 31 [.d ((eL 1 eU64) a0)] [] (.ref 0 res.length 0 res.length) [(0, .row true 1 (res.map eU8))] := by
  unfold passkeyref1Words at h
  refine callOK passkeyref1WordsC fm rfl ?_
  simp only [initE, initM, nbor, List.map_cons, List.map_nil, Nat.reduceAdd]
  unfold passkeyref1WordsRc
  refine rwp_seq fun K1 hK1 => ?_
  refine rwp_region fun K2 hK2 => ?_
  refine st0 128 rfl (ok (mv (.nil 1))) ?_
  refine hK2 _ _ ?_
  simp only [n0, n1, n2, n3, n4, n5, n6, n7, n8, n9, n10, n11, n12, n13, n14, n15, n16, n17, n18, n19, reduceIte]
  refine hK1 _ _ _ ?_
  refine rwp_seq fun K3 hK3 => ?_
  refine rwp_region fun K4 hK4 => ?_
  refine st0 192 rfl (ok (mv (.nil 1))) ?_
  refine hK4 _ _ ?_
  simp only [n0, n1, n2, n3, n4, n5, n6, n7, n8, n9, n10, n11, n12, n13, n14, n15, n16, n17, n18, n19, reduceIte]
  refine hK3 _ _ _ ?_
  refine rwp_join ([], []) 2816 (fun env mem => ∃ (v5 : List (BitVec 8)), passkeyref1WordsJ1 v5 = some res ∧ env = [(3, .ref 2433 v5.length 0 v5.length)] ∧ mem = [(2433, .row true 1 (v5.map eU8))]) (fun _ _ hI => ?_) (fun K6 hK6 => ?_)
  · obtain ⟨v5, h, rfl, rfl⟩ := hI
    unfold passkeyref1WordsJ1 at h
    refine rwp_seq fun K7 hK7 => ?_
    refine rwp_region fun K8 hK8 => ?_
    refine st0 2880 rfl (ok (mv (.ref 2433 v5.length 0 v5.length))) ?_
    refine st0 2944 rfl (ok (mv (.ref 2433 v5.length 0 v5.length))) ?_
    refine hK8 _ _ ?_
    simp only [n0, n1, n2, n3, n4, n5, n6, n7, n8, n9, n10, n11, n12, n13, n14, n15, n16, n17, n18, n19, reduceIte]
    refine hK7 _ _ _ ?_
    refine rwp_ret ?_
    obtain rfl := Option.some.inj h
    try simp only [thenK, blockK, reduceIte]
    exact Or.inl (end_ok trivial (rs_t (v := .ref 2433 v5.length 0 v5.length) rfl rs_nil) (en_ref en_nil) ou_nil (by first | exact eok rfl rfl rfl rfl (And.intro (And.intro rfl rfl) trivial) | (refine eok ?_ ?_ ?_ ?_ ?_ <;> first | rfl | exact (And.intro (And.intro rfl rfl) trivial) | simp [retM, Mem.get, PV.renL, PV.ren, Blk.ren, comps, rhoR, rhoM, appN, PV.refsL, PV.refs, keys, nodupB, Blk.refs, allIn, Blk.bor])))
  · refine rwp_seq fun K9 hK9 => ?_
    refine rwp_region fun K10 hK10 => ?_
    refine st0 256 rfl (ok (mv (.d (eI (0 : Int))))) ?_
    refine hK10 _ _ ?_
    simp only [n0, n1, n2, n3, n4, n5, n6, n7, n8, n9, n10, n11, n12, n13, n14, n15, n16, n17, n18, n19, reduceIte]
    refine hK9 _ _ _ ?_
    refine rwp_block fun K11 hK11 => ?_
    refine rwp_loop ([(3, 2433)], []) 2496 (fun k env mem => ∃ (v12 : List (BitVec 8)) (v13 : Int), passkeyref1WordsL2 a0 k v12 v13 = some res ∧ env = [(0, .d ((eL 1 eU64) a0)), (3, .ref 2433 v12.length 0 v12.length), (4, .d (eI v13))] ∧ mem = [(2433, .row true 1 (v12.map eU8))]) FUEL ⟨_, _, Settled.refl, _, _, ⟨_, _, h, rfl, rfl⟩, ⟨rfl, ⟨⟨rfl, rfl⟩, ⟨⟨rfl, rfl⟩, ⟨⟨rfl, rfl⟩, trivial⟩⟩⟩, ⟨⟨rfl, rfl⟩, trivial⟩⟩, rfl⟩ (fun k2 env1 mem1 hI K14 hK14 => ?_)
    obtain ⟨v12, v13, h, rfl, rfl⟩ := hI
    cases k2 with
    | zero => simp [passkeyref1WordsL2] at h
    | succ k2 =>
      rw [passkeyref1WordsL2] at h
      refine rwp_seq fun K15 hK15 => ?_
      refine rwp_seq fun K16 hK16 => ?_
      refine rwp_region fun K17 hK17 => ?_
      refine st0 2560 rfl (ok (mv (.d (eI v13)))) ?_
      refine st0 2624 rfl (ok (mv (.d ((eL 1 eU64) a0)))) ?_
      refine st0 2688 rfl (ok (lenL _ _)) ?_
      refine st0 2752 rfl (ok (lssI _ _)) ?_
      refine hK17 _ _ ?_
      simp only [n0, n1, n2, n3, n4, n5, n6, n7, n8, n9, n10, n11, n12, n13, n14, n15, n16, n17, n18, n19, reduceIte]
      refine hK16 _ _ _ ?_
      rcases Bool.eq_false_or_eq_true ((decide (v13 < (a0.length : Int)))) with h18 | h18
      · replace h := ite_t h h18
        refine rwp_t (isT h18) ?_
        refine rwp_skip ?_
        refine hK15 _ _ _ ?_
        refine rwp_join ([], []) 4288 (fun env mem => ∃ (v19 : List (BitVec 8)), passkeyref1WordsJ3 (passkeyref1WordsL2 a0 k2) v13 v19 = some res ∧ env = [(0, .d ((eL 1 eU64) a0)), (3, .ref 2433 v19.length 0 v19.length), (4, .d (eI v13))] ∧ mem = [(2433, .row true 1 (v19.map eU8))]) (fun _ _ hI => ?_) (fun K20 hK20 => ?_)
        · obtain ⟨v19, h, rfl, rfl⟩ := hI
          unfold passkeyref1WordsJ3 at h
          refine rwp_region fun K21 hK21 => ?_
          refine st0 4352 rfl (ok (mv (.d (eI v13)))) ?_
          refine st0 4416 rfl (ok (addI _ (1 : Int))) ?_
          refine st0 4480 rfl (ok (mv (.d (eI (w64 (v13 + (1 : Int))))))) ?_
          refine hK21 _ _ ?_
          simp only [n0, n1, n2, n3, n4, n5, n6, n7, n8, n9, n10, n11, n12, n13, n14, n15, n16, n17, n18, n19, reduceIte]
          exact hK14.out _ _ _ k2 (Nat.lt_succ_self k2) ⟨_, _, Settled.refl, _, _, ⟨_, _, h, rfl, rfl⟩, ⟨rfl, ⟨⟨rfl, rfl⟩, ⟨⟨rfl, rfl⟩, ⟨⟨rfl, rfl⟩, trivial⟩⟩⟩, ⟨⟨rfl, rfl⟩, trivial⟩⟩, rfl⟩
        · refine rwp_block fun K22 hK22 => ?_
          refine rwp_seq fun K23 hK23 => ?_
          refine rwp_region fun K24 hK24 => ?_
          refine st0 2816 rfl (ok (mv (.d (eI (7 : Int))))) ?_
          refine hK24 _ _ ?_
          simp only [n0, n1, n2, n3, n4, n5, n6, n7, n8, n9, n10, n11, n12, n13, n14, n15, n16, n17, n18, n19, reduceIte]
          refine hK23 _ _ _ ?_
          refine rwp_block fun K25 hK25 => ?_
          refine rwp_loop ([], []) 4096 (fun k env mem => ∃ (v26 : List (BitVec 8)) (v27 : Int), passkeyref1WordsL4 (passkeyref1WordsL2 a0 k2) a0 v13 k v26 v27 = some res ∧ env = [(0, .d ((eL 1 eU64) a0)), (3, .ref 2433 v26.length 0 v26.length), (4, .d (eI v13)), (5, .d (eI v27))] ∧ mem = [(2433, .row true 1 (v26.map eU8))]) FUEL ⟨_, _, Settled.refl, _, _, ⟨_, _, h, rfl, rfl⟩, ⟨rfl, ⟨⟨rfl, rfl⟩, ⟨⟨rfl, rfl⟩, ⟨⟨rfl, rfl⟩, ⟨⟨rfl, rfl⟩, trivial⟩⟩⟩⟩, ⟨⟨rfl, rfl⟩, trivial⟩⟩, rfl⟩ (fun k4 env1 mem1 hI K28 hK28 => ?_)
          obtain ⟨v26, v27, h, rfl, rfl⟩ := hI
          cases k4 with
          | zero => simp [passkeyref1WordsL4] at h
          | succ k4 =>
            rw [passkeyref1WordsL4] at h
            refine rwp_seq fun K29 hK29 => ?_
            refine rwp_seq fun K30 hK30 => ?_
            refine rwp_region fun K31 hK31 => ?_
            refine st0 4160 rfl (ok (mv (.d (eI v27)))) ?_
            refine st0 4224 rfl (ok (geqI _ (0 : Int))) ?_
            refine hK31 _ _ ?_
            simp only [n0, n1, n2, n3, n4, n5, n6, n7, n8, n9, n10, n11, n12, n13, n14, n15, n16, n17, n18, n19, reduceIte]
            refine hK30 _ _ _ ?_
            rcases Bool.eq_false_or_eq_true ((decide ((0 : Int) ≤ v27))) with h32 | h32
            · replace h := ite_t h h32
              refine rwp_t (isT h32) ?_
              refine rwp_skip ?_
              refine hK29 _ _ _ ?_
              refine rwp_seq fun K33 hK33 => ?_
              refine rwp_block fun K34 hK34 => ?_
              refine rwp_region fun K35 hK35 => ?_
              refine st0 4288 rfl (ok (mv (.ref 2433 v26.length 0 v26.length))) ?_
              refine st0 4352 rfl (ok (mv (.d ((eL 1 eU64) a0)))) ?_
              refine st0 4416 rfl (ok (mv (.d (eI v13)))) ?_
              obtain ⟨h36, h⟩ := asq_inv h
              refine st0 4480 rfl (ok (iaL (e := eU64) (xs := a0) 0#64 h36)) ?_
              refine st0 4544 rfl (ok (ld_i (v := eU64 (a0.getD v13.toNat 0#64)) rfl rfl)) ?_
              refine st0 4608 rfl (ok (mv (.d (eI v27)))) ?_
              refine st0 4672 rfl (ok (mulI (8 : Int) _)) ?_
              refine st0 4736 rfl (ok (ofI64 _ (w64 ((8 : Int) * v27)))) ?_
              obtain ⟨v37, h38, h⟩ := lett_inv h
              refine st0e 4800 rfl (ok (shr64_64 _ _)) (congrArg (fun z => PV.d (eU64 z)) h38) ?_
              refine st0 4864 rfl (ok (cvt64_8 _)) ?_
              refine st1 4928 rfl (mem' := [(4864, .row true 1 (([(v37.setWidth 8)] : List (BitVec 8)).map eU8)), (2433, .row true 1 (v26.map eU8))]) (ok (bsl (e := eU8) (ys := ([(v37.setWidth 8)] : List (BitVec 8))) rfl rfl rfl)) rfl ?_
              obtain ⟨h39, h⟩ := asq_inv h
              refine st1 4992 rfl (mem' := [(2433, .row true 1 ((v26 ++ ([(v37.setWidth 8)] : List (BitVec 8))).map eU8)), (4864, .row true 1 (([(v37.setWidth 8)] : List (BitVec 8)).map eU8))]) (ok (appR (e := eU8) (xs := v26) (ys := ([(v37.setWidth 8)] : List (BitVec 8))) (contR (xs := ([(v37.setWidth 8)] : List (BitVec 8))) rfl rfl rfl) rfl rfl rfl h39)) rfl ?_
              refine st0 5056 rfl (ok (mv (.ref 2433 (((v26 ++ ([(v37.setWidth 8)] : List (BitVec 8)))).length) 0 (((v26 ++ ([(v37.setWidth 8)] : List (BitVec 8)))).length)))) ?_
              refine hK35 _ _ ?_
              simp only [n0, n1, n2, n3, n4, n5, n6, n7, n8, n9, n10, n11, n12, n13, n14, n15, n16, n17, n18, n19, reduceIte]
              refine hK34 _ _ _ ?_
              refine hK33 _ _ _ ?_
              refine rwp_region fun K40 hK40 => ?_
              refine st0 5120 rfl (ok (mv (.d (eI v27)))) ?_
              refine st0 5184 rfl (ok (subI _ (1 : Int))) ?_
              refine st0 5248 rfl (ok (mv (.d (eI (w64 (v27 - (1 : Int))))))) ?_
              refine hK40 _ _ ?_
              simp only [n0, n1, n2, n3, n4, n5, n6, n7, n8, n9, n10, n11, n12, n13, n14, n15, n16, n17, n18, n19, reduceIte]
              exact hK28.out _ _ _ k4 (Nat.lt_succ_self k4) ⟨_, _, Settled.refl, _, _, ⟨_, _, h, rfl, rfl⟩, ⟨rfl, ⟨⟨rfl, rfl⟩, ⟨⟨rfl, rfl⟩, ⟨⟨rfl, rfl⟩, ⟨⟨rfl, rfl⟩, trivial⟩⟩⟩⟩, ⟨⟨rfl, rfl⟩, trivial⟩⟩, rfl⟩
            · replace h := ite_f h h32
              refine rwp_f (isF h32) ?_
              refine rwp_exit ?_
              refine hK25 _ _ _ ?_
              refine hK22 _ _ _ ?_
              exact hK20 _ _ _ ⟨_, _, Settled.refl, _, _, ⟨_, h, rfl, rfl⟩, ⟨rfl, ⟨⟨rfl, rfl⟩, ⟨⟨rfl, rfl⟩, ⟨⟨rfl, rfl⟩, trivial⟩⟩⟩, ⟨⟨rfl, rfl⟩, trivial⟩⟩, rfl⟩
      · replace h := ite_f h h18
        refine rwp_f (isF h18) ?_
        refine rwp_exit ?_
        refine hK11 _ _ _ ?_
        exact hK6 _ _ _ ⟨_, _, Settled.refl, _, _, ⟨_, h, rfl, rfl⟩, ⟨rfl, ⟨⟨rfl, rfl⟩, trivial⟩, ⟨⟨rfl, rfl⟩, trivial⟩⟩, rfl⟩

/-- passkey/passkeyref1.rotl -/
def passkeyref1rotlH : Hints := ⟨[(0, [0, 1]), (1, [4])], []⟩
def passkeyref1rotlRc : RCode :=
  .seq (.region false [⟨some 4, .mv, [.k (.d (.int .u64 0))], none, []⟩] [0, 1]) (.seq (.region false [⟨some 5, .mv, [.t 0], none, []⟩, ⟨some 6, .mv, [.t 1], none, []⟩, ⟨some 7, .bin
  .shl, [.t 5, .t 6], none, []⟩, ⟨some 8, .mv, [.t 0], none, []⟩, ⟨some 9, .mv, [.t 1], none, []⟩, ⟨some 10, .bin .sub, [.k (.d (.int .u64 64)), .t 9], none, []⟩, ⟨some 11, .bin
  .shr, [.t 8, .t 10], none, []⟩, ⟨some 12, .bin .or, [.t 7, .t 11], none, []⟩, ⟨some 4, .mv, [.t 12], none, []⟩] [4]) .ret)
def passkeyref1rotlRr : List RR := [.t 4]
theorem passkeyref1rotlC : compFn Tryd.prog 67 passkeyref1rotlH = some (passkeyref1rotlRc, passkeyref1rotlRr, 13) := by kernel_rfl
theorem passkeyref1rotlOK (a0 : BitVec 64) (a1 : BitVec 64) (res : BitVec 64) (h : passkeyref1rotl a0 a1 = some res) : CallOK Tryd.prog 67 [.d (eU64 a0), .d (eU64 a1)] [] (.d (eU64 res)) [] := by
  unfold passkeyref1rotl at h
  refine callOK passkeyref1rotlC fm rfl ?_
  simp only [initE, initM, nbor, List.map_cons, List.map_nil, Nat.reduceAdd]
  unfold passkeyref1rotlRc
  refine rwp_seq fun K1 hK1 => ?_
  refine rwp_region fun K2 hK2 => ?_
  refine st0 128 rfl (ok (mv (.d (eU64 (0#64))))) ?_
  refine hK2 _ _ ?_
  simp only [n0, n1, n2, n3, n4, n5, n6, n7, n8, n9, n10, n11, n12, n13, n14, n15, n16, n17, n18, n19, reduceIte]
  refine hK1 _ _ _ ?_
  refine rwp_seq fun K3 hK3 => ?_
  refine rwp_region fun K4 hK4 => ?_
  refine st0 192 rfl (ok (mv (.d (eU64 a0)))) ?_
  refine st0 256 rfl (ok (mv (.d (eU64 a1)))) ?_
  refine st0 320 rfl (ok (shl64_64 _ _)) ?_
  refine st0 384 rfl (ok (mv (.d (eU64 a0)))) ?_
  refine st0 448 rfl (ok (mv (.d (eU64 a1)))) ?_
  refine st0 512 rfl (ok (sub64 (64#64) _)) ?_
  refine st0 576 rfl (ok (shr64_64 _ _)) ?_
  refine st0 640 rfl (ok (or64 _ _)) ?_
  refine st0 704 rfl (ok (mv (.d (eU64 ((a0 <<< a1.toNat) ||| (a0 >>> ((64#64) - a1).toNat)))))) ?_
  refine hK4 _ _ ?_
  simp only [n0, n1, n2, n3, n4, n5, n6, n7, n8, n9, n10, n11, n12, n13, n14, n15, n16, n17, n18, n19, reduceIte]
  refine hK3 _ _ _ ?_
  refine rwp_ret ?_
  obtain rfl := Option.some.inj h
  try simp only [thenK, blockK, reduceIte]
  exact Or.inl (end_ok trivial (rs_t (v := .d (eU64 ((a0 <<< a1.toNat) ||| (a0 >>> ((64#64) - a1).toNat)))) rfl rs_nil) (en_d (to_d _) en_nil) ou_nil (by first | exact eok rfl rfl rfl rfl trivial | (refine eok ?_ ?_ ?_ ?_ ?_ <;> first | rfl | exact trivial | simp [retM, Mem.get, PV.renL, PV.ren, Blk.ren, comps, rhoR, rhoM, appN, PV.refsL, PV.refs, keys, nodupB, Blk.refs, allIn, Blk.bor])))

/-- passkey/passkeyref1.round -/
def passkeyref1roundH : Hints := ⟨[(0, [1, 2]), (1, [1, 2]), (2, [1, 2]), (3, [1, 2]), (4, [1, 2]), (5, [1, 2]), (6, [1, 2]), (7, [1, 2]), (8, [1, 2]), (9, [1, 2]), (10, [1, 2]), (11, [2])], []⟩
def passkeyref1roundRc : RCode :=
  .seq (.region false [⟨some 1, .box, [.t 0], none, []⟩, ⟨some 2, .alloc [.d (.int .u64 0), .d (.int .u64 0), .d (.int .u64 0), .d (.int .u64 0)], [], none, []⟩] [1, 2]) (.seq
  (.region false [⟨some 3, .iarr 4 1, [.t 1, .k (.d (.int .i64 0))], none, []⟩, ⟨some 4, .load 1 false, [.t 3], none, []⟩, ⟨some 5, .iarr 4 1, [.t 1, .k (.d (.int .i64 1))], none,
  []⟩, ⟨some 6, .load 1 false, [.t 5], none, []⟩, ⟨some 7, .bin .add, [.t 4, .t 6], none, []⟩, ⟨some 8, .iarr 4 1, [.t 1, .k (.d (.int .i64 0))], none, []⟩, ⟨none, .store 1, [.t 8,
  .t 7], none, []⟩] [1, 2]) (.seq (.region true [⟨some 9, .iarr 4 1, [.t 1, .k (.d (.int .i64 1))], none, []⟩, ⟨some 10, .load 1 false, [.t 9], none, [0]⟩, ⟨some 11, .call 67
  false, [.t 10, .k (.d (.int .u64 13))], none, [0, 1]⟩, ⟨some 12, .iarr 4 1, [.t 1, .k (.d (.int .i64 0))], none, []⟩, ⟨some 13, .load 1 false, [.t 12], none, [3]⟩, ⟨some 14, .bin
  .xor, [.t 11, .t 13], none, [0, 1, 2, 3, 4]⟩, ⟨some 15, .iarr 4 1, [.t 1, .k (.d (.int .i64 1))], none, [0, 1, 2, 3, 4, 5]⟩, ⟨none, .store 1, [.t 15, .t 14], none, [0, 1, 2, 3,
  4, 5, 6]⟩] [1, 2]) (.seq (.region false [⟨some 16, .iarr 4 1, [.t 1, .k (.d (.int .i64 0))], none, []⟩, ⟨some 17, .load 1 false, [.t 16], none, []⟩, ⟨some 18, .call 67 false, [.t
  17, .k (.d (.int .u64 32))], none, []⟩, ⟨some 19, .iarr 4 1, [.t 1, .k (.d (.int .i64 0))], none, []⟩, ⟨none, .store 1, [.t 19, .t 18], none, []⟩] [1, 2]) (.seq (.region false
  [⟨some 20, .iarr 4 1, [.t 1, .k (.d (.int .i64 2))], none, []⟩, ⟨some 21, .load 1 false, [.t 20], none, []⟩, ⟨some 22, .iarr 4 1, [.t 1, .k (.d (.int .i64 3))], none, []⟩, ⟨some
  23, .load 1 false, [.t 22], none, []⟩, ⟨some 24, .bin .add, [.t 21, .t 23], none, []⟩, ⟨some 25, .iarr 4 1, [.t 1, .k (.d (.int .i64 2))], none, []⟩, ⟨none, .store 1, [.t 25, .t
  24], none, []⟩] [1, 2]) (.seq (.region true [⟨some 26, .iarr 4 1, [.t 1, .k (.d (.int .i64 3))], none, []⟩, ⟨some 27, .load 1 false, [.t 26], none, [0]⟩, ⟨some 28, .call 67
  false, [.t 27, .k (.d (.int .u64 16))], none, [0, 1]⟩, ⟨some 29, .iarr 4 1, [.t 1, .k (.d (.int .i64 2))], none, []⟩, ⟨some 30, .load 1 false, [.t 29], none, [3]⟩, ⟨some 31, .bin
  .xor, [.t 28, .t 30], none, [0, 1, 2, 3, 4]⟩, ⟨some 32, .iarr 4 1, [.t 1, .k (.d (.int .i64 3))], none, [0, 1, 2, 3, 4, 5]⟩, ⟨none, .store 1, [.t 32, .t 31], none, [0, 1, 2, 3,
  4, 5, 6]⟩] [1, 2]) (.seq (.region false [⟨some 33, .iarr 4 1, [.t 1, .k (.d (.int .i64 0))], none, []⟩, ⟨some 34, .load 1 false, [.t 33], none, []⟩, ⟨some 35, .iarr 4 1, [.t 1,
  .k (.d (.int .i64 3))], none, []⟩, ⟨some 36, .load 1 false, [.t 35], none, []⟩, ⟨some 37, .bin .add, [.t 34, .t 36], none, []⟩, ⟨some 38, .iarr 4 1, [.t 1, .k (.d (.int .i64
  0))], none, []⟩, ⟨none, .store 1, [.t 38, .t 37], none, []⟩] [1, 2]) (.seq (.region true [⟨some 39, .iarr 4 1, [.t 1, .k (.d (.int .i64 3))], none, []⟩, ⟨some 40, .load 1 false,
  [.t 39], none, [0]⟩, ⟨some 41, .call 67 false, [.t 40, .k (.d (.int .u64 21))], none, [0, 1]⟩, ⟨some 42, .iarr 4 1, [.t 1, .k (.d (.int .i64 0))], none, []⟩, ⟨some 43, .load 1
  false, [.t 42], none, [3]⟩, ⟨some 44, .bin .xor, [.t 41, .t 43], none, [0, 1, 2, 3, 4]⟩, ⟨some 45, .iarr 4 1, [.t 1, .k (.d (.int .i64 3))], none, [0, 1, 2, 3, 4, 5]⟩, ⟨none,
  .store 1, [.t 45, .t 44], none, [0, 1, 2, 3, 4, 5, 6]⟩] [1, 2]) (.seq (.region false [⟨some 46, .iarr 4 1, [.t 1, .k (.d (.int .i64 2))], none, []⟩, ⟨some 47, .load 1 false, [.t
  46], none, []⟩, ⟨some 48, .iarr 4 1, [.t 1, .k (.d (.int .i64 1))], none, []⟩, ⟨some 49, .load 1 false, [.t 48], none, []⟩, ⟨some 50, .bin .add, [.t 47, .t 49], none, []⟩, ⟨some
  51, .iarr 4 1, [.t 1, .k (.d (.int .i64 2))], none, []⟩, ⟨none, .store 1, [.t 51, .t 50], none, []⟩] [1, 2]) (.seq (.region true [⟨some 52, .iarr 4 1, [.t 1, .k (.d (.int .i64
  1))], none, []⟩, ⟨some 53, .load 1 false, [.t 52], none, [0]⟩, ⟨some 54, .call 67 false, [.t 53, .k (.d (.int .u64 17))], none, [0, 1]⟩, ⟨some 55, .iarr 4 1, [.t 1, .k (.d (.int
  .i64 2))], none, []⟩, ⟨some 56, .load 1 false, [.t 55], none, [3]⟩, ⟨some 57, .bin .xor, [.t 54, .t 56], none, [0, 1, 2, 3, 4]⟩, ⟨some 58, .iarr 4 1, [.t 1, .k (.d (.int .i64
  1))], none, [0, 1, 2, 3, 4, 5]⟩, ⟨none, .store 1, [.t 58, .t 57], none, [0, 1, 2, 3, 4, 5, 6]⟩] [1, 2]) (.seq (.region false [⟨some 59, .iarr 4 1, [.t 1, .k (.d (.int .i64 2))],
  none, []⟩, ⟨some 60, .load 1 false, [.t 59], none, []⟩, ⟨some 61, .call 67 false, [.t 60, .k (.d (.int .u64 32))], none, []⟩, ⟨some 62, .iarr 4 1, [.t 1, .k (.d (.int .i64 2))],
  none, []⟩, ⟨none, .store 1, [.t 62, .t 61], none, []⟩] [1, 2]) (.seq (.region false [⟨some 63, .load 4 true, [.t 1], none, []⟩, ⟨none, .store 4, [.t 2, .t 63], none, []⟩] [2])
  .ret)))))))))))
def passkeyref1roundRr : List RR := [.c 2 4 true]
theorem passkeyref1roundC : compFn Tryd.prog 58 passkeyref1roundH = some (passkeyref1roundRc, passkeyref1roundRr, 64) := by kernel_rfl
theorem passkeyref1roundOK (a0 : TA4BitVec64) (res : TA4BitVec64) (h : passkeyref1round a0 = some res) : CallOK Tryd.prog 58 [.d (eTA4BitVec64 a0)] [] (.d (eTA4BitVec64 res)) [] := by
  unfold passkeyref1round at h
  refine callOK passkeyref1roundC fm rfl ?_
  simp only [initE, initM, nbor, List.map_cons, List.map_nil, Nat.reduceAdd]
  unfold passkeyref1roundRc
  refine rwp_seq fun K1 hK1 => ?_
  refine rwp_region fun K2 hK2 => ?_
  refine st1 128 rfl (mem' := [(64, .var .mine [.d (eU64 a0.c0), .d (eU64 a0.c1), .d (eU64 a0.c2), .d (eU64 a0.c3)])]) (ok (bx (ps := [.d (eU64 a0.c0), .d (eU64 a0.c1), .d (eU64 a0.c2), .d (eU64 a0.c3)]) rfl rfl)) rfl ?_
  refine st1 192 rfl (mem' := [(128, .var .mine [.d (eU64 (0#64)), .d (eU64 (0#64)), .d (eU64 (0#64)), .d (eU64 (0#64))]), (64, .var .mine [.d (eU64 a0.c0), .d (eU64 a0.c1), .d (eU64 a0.c2), .d (eU64 a0.c3)])]) (ok (alc (zs := [.d (eU64 (0#64)), .d (eU64 (0#64)), .d (eU64 (0#64)), .d (eU64 (0#64))]))) rfl ?_
  refine hK2 _ _ ?_
  simp only [n0, n1, n2, n3, n4, n5, n6, n7, n8, n9, n10, n11, n12, n13, n14, n15, n16, n17, n18, n19, reduceIte]
  refine hK1 _ _ _ ?_
  refine rwp_seq fun K3 hK3 => ?_
  refine rwp_region fun K4 hK4 => ?_
  refine st0 256 rfl (ok (iarr_k 0 (by decide) rfl)) ?_
  refine st0 320 rfl (ok (ld_v (v := .d (eU64 a0.c0)) rfl rfl rfl)) ?_
  refine st0 384 rfl (ok (iarr_k 1 (by decide) rfl)) ?_
  refine st0 448 rfl (ok (ld_v (v := .d (eU64 a0.c1)) rfl rfl rfl)) ?_
  refine st0 512 rfl (ok (add64 _ _)) ?_
  refine st0 576 rfl (ok (iarr_k 0 (by decide) rfl)) ?_
  refine stn 640 rfl (mem' := [(64, .var .mine [.d (eU64 (a0.c0 + a0.c1)), .d (eU64 a0.c1), .d (eU64 a0.c2), .d (eU64 a0.c3)]), (128, .var .mine [.d (eU64 (0#64)), .d (eU64 (0#64)), .d (eU64 (0#64)), .d (eU64 (0#64))])]) (ok (sto_v (ps' := [.d (eU64 (a0.c0 + a0.c1)), .d (eU64 a0.c1), .d (eU64 a0.c2), .d (eU64 a0.c3)]) rfl rfl rfl rfl)) rfl ?_
  refine hK4 _ _ ?_
  simp only [n0, n1, n2, n3, n4, n5, n6, n7, n8, n9, n10, n11, n12, n13, n14, n15, n16, n17, n18, n19, reduceIte]
  refine hK3 _ _ _ ?_
  refine rwp_seq fun K5 hK5 => ?_
  refine rwp_draw fun K6 hK6 => ?_
  refine dr0 704 rfl (ok (iarr_k 1 (by decide) rfl)) (by kernel_rfl) ?_
  refine dr0 768 rfl (ok (ld_v (v := .d (eU64 a0.c1)) rfl rfl rfl)) (by kernel_rfl) ?_
  obtain ⟨y7, h8, h⟩ := bind_inv h
  refine dr0 832 rfl (call_ok (v := .d (eU64 y7)) (u := []) (ar_d (eU64 a0.c1) (ar_d (eU64 (13#64)) ar_nil)) rfl (passkeyref1rotlOK a0.c1 (13#64) y7 h8) rfl) (by kernel_rfl) ?_
  refine dr0 896 rfl (ok (iarr_k 0 (by decide) rfl)) (by kernel_rfl) ?_
  refine dr0 960 rfl (ok (ld_v (v := .d (eU64 (a0.c0 + a0.c1))) rfl rfl rfl)) (by kernel_rfl) ?_
  refine dr0 1024 rfl (ok (xor64 _ _)) (by kernel_rfl) ?_
  refine dr0 1088 rfl (ok (iarr_k 1 (by decide) rfl)) (by kernel_rfl) ?_
  refine drn 1152 rfl (mem' := [(64, .var .mine [.d (eU64 (a0.c0 + a0.c1)), .d (eU64 (y7 ^^^ (a0.c0 + a0.c1))), .d (eU64 a0.c2), .d (eU64 a0.c3)]), (128, .var .mine [.d (eU64 (0#64)), .d (eU64 (0#64)), .d (eU64 (0#64)), .d (eU64 (0#64))])]) (ok (sto_v (ps' := [.d (eU64 (a0.c0 + a0.c1)), .d (eU64 (y7 ^^^ (a0.c0 + a0.c1))), .d (eU64 a0.c2), .d (eU64 a0.c3)]) rfl rfl rfl rfl)) rfl (by kernel_rfl) ?_
  refine hK6 _ _ ?_
  simp only [n0, n1, n2, n3, n4, n5, n6, n7, n8, n9, n10, n11, n12, n13, n14, n15, n16, n17, n18, n19, reduceIte]
  refine hK5 _ _ _ ?_
  refine rwp_seq fun K9 hK9 => ?_
  refine rwp_region fun K10 hK10 => ?_
  refine st0 1216 rfl (ok (iarr_k 0 (by decide) rfl)) ?_
  refine st0 1280 rfl (ok (ld_v (v := .d (eU64 (a0.c0 + a0.c1))) rfl rfl rfl)) ?_
  obtain ⟨y11, h12, h⟩ := bind_inv h
  refine st0 1344 rfl (call_ok (v := .d (eU64 y11)) (u := []) (ar_d (eU64 (a0.c0 + a0.c1)) (ar_d (eU64 (32#64)) ar_nil)) rfl (passkeyref1rotlOK (a0.c0 + a0.c1) (32#64) y11 h12) rfl) ?_
  refine st0 1408 rfl (ok (iarr_k 0 (by decide) rfl)) ?_
  refine stn 1472 rfl (mem' := [(64, .var .mine [.d (eU64 y11), .d (eU64 (y7 ^^^ (a0.c0 + a0.c1))), .d (eU64 a0.c2), .d (eU64 a0.c3)]), (128, .var .mine [.d (eU64 (0#64)), .d (eU64 (0#64)), .d (eU64 (0#64)), .d (eU64 (0#64))])]) (ok (sto_v (ps' := [.d (eU64 y11), .d (eU64 (y7 ^^^ (a0.c0 + a0.c1))), .d (eU64 a0.c2), .d (eU64 a0.c3)]) rfl rfl rfl rfl)) rfl ?_
  refine hK10 _ _ ?_
  simp only [n0, n1, n2, n3, n4, n5, n6, n7, n8, n9, n10, n11, n12, n13, n14, n15, n16, n17, n18, n19, reduceIte]
  refine hK9 _ _ _ ?_
  refine rwp_seq fun K13 hK13 => ?_
  refine rwp_region fun K14 hK14 => ?_
  refine st0 1536 rfl (ok (iarr_k 2 (by decide) rfl)) ?_
  refine st0 1600 rfl (ok (ld_v (v := .d (eU64 a0.c2)) rfl rfl rfl)) ?_
  refine st0 1664 rfl (ok (iarr_k 3 (by decide) rfl)) ?_
  refine st0 1728 rfl (ok (ld_v (v := .d (eU64 a0.c3)) rfl rfl rfl)) ?_
  refine st0 1792 rfl (ok (add64 _ _)) ?_
  refine st0 1856 rfl (ok (iarr_k 2 (by decide) rfl)) ?_
  refine stn 1920 rfl (mem' := [(64, .var .mine [.d (eU64 y11), .d (eU64 (y7 ^^^ (a0.c0 + a0.c1))), .d (eU64 (a0.c2 + a0.c3)), .d (eU64 a0.c3)]), (128, .var .mine [.d (eU64 (0#64)), .d (eU64 (0#64)), .d (eU64 (0#64)), .d (eU64 (0#64))])]) (ok (sto_v (ps' := [.d (eU64 y11), .d (eU64 (y7 ^^^ (a0.c0 + a0.c1))), .d (eU64 (a0.c2 + a0.c3)), .d (eU64 a0.c3)]) rfl rfl rfl rfl)) rfl ?_
  refine hK14 _ _ ?_
  simp only [n0, n1, n2, n3, n4, n5, n6, n7, n8, n9, n10, n11, n12, n13, n14, n15, n16, n17, n18, n19, reduceIte]
  refine hK13 _ _ _ ?_
  refine rwp_seq fun K15 hK15 => ?_
  refine rwp_draw fun K16 hK16 => ?_
  refine dr0 1984 rfl (ok (iarr_k 3 (by decide) rfl)) (by kernel_rfl) ?_
  refine dr0 2048 rfl (ok (ld_v (v := .d (eU64 a0.c3)) rfl rfl rfl)) (by kernel_rfl) ?_
  obtain ⟨y17, h18, h⟩ := bind_inv h
  refine dr0 2112 rfl (call_ok (v := .d (eU64 y17)) (u := []) (ar_d (eU64 a0.c3) (ar_d (eU64 (16#64)) ar_nil)) rfl (passkeyref1rotlOK a0.c3 (16#64) y17 h18) rfl) (by kernel_rfl) ?_
  refine dr0 2176 rfl (ok (iarr_k 2 (by decide) rfl)) (by kernel_rfl) ?_
  refine dr0 2240 rfl (ok (ld_v (v := .d (eU64 (a0.c2 + a0.c3))) rfl rfl rfl)) (by kernel_rfl) ?_
  refine dr0 2304 rfl (ok (xor64 _ _)) (by kernel_rfl) ?_
  refine dr0 2368 rfl (ok (iarr_k 3 (by decide) rfl)) (by kernel_rfl) ?_
  refine drn 2432 rfl (mem' := [(64, .var .mine [.d (eU64 y11), .d (eU64 (y7 ^^^ (a0.c0 + a0.c1))), .d (eU64 (a0.c2 + a0.c3)), .d (eU64 (y17 ^^^ (a0.c2 + a0.c3)))]), (128, .var .mine [.d (eU64 (0#64)), .d (eU64 (0#64)), .d (eU64 (0#64)), .d (eU64 (0#64))])]) (ok (sto_v (ps' := [.d (eU64 y11), .d (eU64 (y7 ^^^ (a0.c0 + a0.c1))), .d (eU64 (a0.c2 + a0.c3)), .d (eU64 (y17 ^^^ (a0.c2 + a0.c3)))]) rfl rfl rfl rfl)) rfl (by kernel_rfl) ?_
  refine hK16 _ _ ?_
  simp only [n0, n1, n2, n3, n4, n5, n6, n7, n8, n9, n10, n11, n12, n13, n14, n15, n16, n17, n18, n19, reduceIte]
  refine hK15 _ _ _ ?_
  refine rwp_seq fun K19 hK19 => ?_
  refine rwp_region fun K20 hK20 => ?_
  refine st0 2496 rfl (ok (iarr_k 0 (by decide) rfl)) ?_
  refine st0 2560 rfl (ok (ld_v (v := .d (eU64 y11)) rfl rfl rfl)) ?_
  refine st0 2624 rfl (ok (iarr_k 3 (by decide) rfl)) ?_
  refine st0 2688 rfl (ok (ld_v (v := .d (eU64 (y17 ^^^ (a0.c2 + a0.c3)))) rfl rfl rfl)) ?_
  refine st0 2752 rfl (ok (add64 _ _)) ?_
  refine st0 2816 rfl (ok (iarr_k 0 (by decide) rfl)) ?_
  refine stn 2880 rfl (mem' := [(64, .var .mine [.d (eU64 (y11 + (y17 ^^^ (a0.c2 + a0.c3)))), .d (eU64 (y7 ^^^ (a0.c0 + a0.c1))), .d (eU64 (a0.c2 + a0.c3)), .d (eU64 (y17 ^^^ (a0.c2 + a0.c3)))]), (128, .var .mine [.d (eU64 (0#64)), .d (eU64 (0#64)), .d (eU64 (0#64)), .d (eU64 (0#64))])]) (ok (sto_v (ps' := [.d (eU64 (y11 + (y17 ^^^ (a0.c2 + a0.c3)))), .d (eU64 (y7 ^^^ (a0.c0 + a0.c1))), .d (eU64 (a0.c2 + a0.c3)), .d (eU64 (y17 ^^^ (a0.c2 + a0.c3)))]) rfl rfl rfl rfl)) rfl ?_
  refine hK20 _ _ ?_
  simp only [n0, n1, n2, n3, n4, n5, n6, n7, n8, n9, n10, n11, n12, n13, n14, n15, n16, n17, n18, n19, reduceIte]
  refine hK19 _ _ _ ?_
  refine rwp_seq fun K21 hK21 => ?_
  refine rwp_draw fun K22 hK22 => ?_
  refine dr0 2944 rfl (ok (iarr_k 3 (by decide) rfl)) (by kernel_rfl) ?_
  refine dr0 3008 rfl (ok (ld_v (v := .d (eU64 (y17 ^^^ (a0.c2 + a0.c3)))) rfl rfl rfl)) (by kernel_rfl) ?_
  obtain ⟨y23, h24, h⟩ := bind_inv h
  refine dr0 3072 rfl (call_ok (v := .d (eU64 y23)) (u := []) (ar_d (eU64 (y17 ^^^ (a0.c2 + a0.c3))) (ar_d (eU64 (21#64)) ar_nil)) rfl (passkeyref1rotlOK (y17 ^^^ (a0.c2 + a0.c3)) (21#64) y23 h24) rfl) (by kernel_rfl) ?_
  refine dr0 3136 rfl (ok (iarr_k 0 (by decide) rfl)) (by kernel_rfl) ?_
  refine dr0 3200 rfl (ok (ld_v (v := .d (eU64 (y11 + (y17 ^^^ (a0.c2 + a0.c3))))) rfl rfl rfl)) (by kernel_rfl) ?_
  refine dr0 3264 rfl (ok (xor64 _ _)) (by kernel_rfl) ?_
  refine dr0 3328 rfl (ok (iarr_k 3 (by decide) rfl)) (by kernel_rfl) ?_
  refine drn 3392 rfl (mem' := [(64, .var .mine [.d (eU64 (y11 + (y17 ^^^ (a0.c2 + a0.c3)))), .d (eU64 (y7 ^^^ (a0.c0 + a0.c1))), .d (eU64 (a0.c2 + a0.c3)), .d (eU64 (y23 ^^^ (y11 + (y17 ^^^ (a0.c2 + a0.c3)))))]), (128, .var .mine [.d (eU64 (0#64)), .d (eU64 (0#64)), .d (eU64 (0#64)), .d (eU64 (0#64))])]) (ok (sto_v (ps' := [.d (eU64 (y11 + (y17 ^^^ (a0.c2 + a0.c3)))), .d (eU64 (y7 ^^^ (a0.c0 + a0.c1))), .d (eU64 (a0.c2 + a0.c3)), .d (eU64 (y23 ^^^ (y11 + (y17 ^^^ (a0.c2 + a0.c3)))))]) rfl rfl rfl rfl)) rfl (by kernel_rfl) ?_
  refine hK22 _ _ ?_
  simp only [n0, n1, n2, n3, n4, n5, n6, n7, n8, n9, n10, n11, n12, n13, n14, n15, n16, n17, n18, n19, reduceIte]
  refine hK21 _ _ _ ?_
  refine rwp_seq fun K25 hK25 => ?_
  refine rwp_region fun K26 hK26 => ?_
  refine st0 3456 rfl (ok (iarr_k 2 (by decide) rfl)) ?_
  refine st0 3520 rfl (ok (ld_v (v := .d (eU64 (a0.c2 + a0.c3))) rfl rfl rfl)) ?_
  refine st0 3584 rfl (ok (iarr_k 1 (by decide) rfl)) ?_
  refine st0 3648 rfl (ok (ld_v (v := .d (eU64 (y7 ^^^ (a0.c0 + a0.c1)))) rfl rfl rfl)) ?_
  refine st0 3712 rfl (ok (add64 _ _)) ?_
  refine st0 3776 rfl (ok (iarr_k 2 (by decide) rfl)) ?_
  refine stn 3840 rfl (mem' := [(64, .var .mine [.d (eU64 (y11 + (y17 ^^^ (a0.c2 + a0.c3)))), .d (eU64 (y7 ^^^ (a0.c0 + a0.c1))), .d (eU64 ((a0.c2 + a0.c3) + (y7 ^^^ (a0.c0 + a0.c1)))), .d (eU64 (y23 ^^^ (y11 + (y17 ^^^ (a0.c2 + a0.c3)))))]), (128, .var .mine [.d (eU64 (0#64)), .d (eU64 (0#64)), .d (eU64 (0#64)), .d (eU64 (0#64))])]) (ok (sto_v (ps' := [.d (eU64 (y11 + (y17 ^^^ (a0.c2 + a0.c3)))), .d (eU64 (y7 ^^^ (a0.c0 + a0.c1))), .d (eU64 ((a0.c2 + a0.c3) + (y7 ^^^ (a0.c0 + a0.c1)))), .d (eU64 (y23 ^^^ (y11 + (y17 ^^^ (a0.c2 + a0.c3)))))]) rfl rfl rfl rfl)) rfl ?_
  refine hK26 _ _ ?_
  simp only [n0, n1, n2, n3, n4, n5, n6, n7, n8, n9, n10, n11, n12, n13, n14, n15, n16, n17, n18, n19, reduceIte]
  refine hK25 _ _ _ ?_
  refine rwp_seq fun K27 hK27 => ?_
  refine rwp_draw fun K28 hK28 => ?_
  refine dr0 3904 rfl (ok (iarr_k 1 (by decide) rfl)) (by kernel_rfl) ?_
  refine dr0 3968 rfl (ok (ld_v (v := .d (eU64 (y7 ^^^ (a0.c0 + a0.c1)))) rfl rfl rfl)) (by kernel_rfl) ?_
  obtain ⟨y29, h30, h⟩ := bind_inv h
  refine dr0 4032 rfl (call_ok (v := .d (eU64 y29)) (u := []) (ar_d (eU64 (y7 ^^^ (a0.c0 + a0.c1))) (ar_d (eU64 (17#64)) ar_nil)) rfl (passkeyref1rotlOK (y7 ^^^ (a0.c0 + a0.c1)) (17#64) y29 h30) rfl) (by kernel_rfl) ?_
  refine dr0 4096 rfl (ok (iarr_k 2 (by decide) rfl)) (by kernel_rfl) ?_
  refine dr0 4160 rfl (ok (ld_v (v := .d (eU64 ((a0.c2 + a0.c3) + (y7 ^^^ (a0.c0 + a0.c1))))) rfl rfl rfl)) (by kernel_rfl) ?_
  refine dr0 4224 rfl (ok (xor64 _ _)) (by kernel_rfl) ?_
  refine dr0 4288 rfl (ok (iarr_k 1 (by decide) rfl)) (by kernel_rfl) ?_
  refine drn 4352 rfl (mem' := [(64, .var .mine [.d (eU64 (y11 + (y17 ^^^ (a0.c2 + a0.c3)))), .d (eU64 (y29 ^^^ ((a0.c2 + a0.c3) + (y7 ^^^ (a0.c0 + a0.c1))))), .d (eU64 ((a0.c2 + a0.c3) + (y7 ^^^ (a0.c0 + a0.c1)))), .d (eU64 (y23 ^^^ (y11 + (y17 ^^^ (a0.c2 + a0.c3)))))]), (128, .var .mine [.d (eU64 (0#64)), .d (eU64 (0#64)), .d (eU64 (0#64)), .d (eU64 (0#64))])]) (ok (sto_v (ps' := [.d (eU64 (y11 + (y17 ^^^ (a0.c2 + a0.c3)))), .d (eU64 (y29 ^^^ ((a0.c2 + a0.c3) + (y7 ^^^ (a0.c0 + a0.c1))))), .d (eU64 ((a0.c2 + a0.c3) + (y7 ^^^ (a0.c0 + a0.c1)))), .d (eU64 (y23 ^^^ (y11 + (y17 ^^^ (a0.c2 + a0.c3)))))]) rfl rfl rfl rfl)) rfl (by kernel_rfl) ?_
  refine hK28 _ _ ?_
  simp only [n0, n1, n2, n3, n4, n5, n6, n7, n8, n9, n10, n11, n12, n13, n14, n15, n16, n17, n18, n19, reduceIte]
  refine hK27 _ _ _ ?_
  refine rwp_seq fun K31 hK31 => ?_
  refine rwp_region fun K32 hK32 => ?_
  refine st0 4416 rfl (ok (iarr_k 2 (by decide) rfl)) ?_
  refine st0 4480 rfl (ok (ld_v (v := .d (eU64 ((a0.c2 + a0.c3) + (y7 ^^^ (a0.c0 + a0.c1))))) rfl rfl rfl)) ?_
  obtain ⟨y33, h34, h⟩ := bind_inv h
  refine st0 4544 rfl (call_ok (v := .d (eU64 y33)) (u := []) (ar_d (eU64 ((a0.c2 + a0.c3) + (y7 ^^^ (a0.c0 + a0.c1)))) (ar_d (eU64 (32#64)) ar_nil)) rfl (passkeyref1rotlOK ((a0.c2 + a0.c3) + (y7 ^^^ (a0.c0 + a0.c1))) (32#64) y33 h34) rfl) ?_
  refine st0 4608 rfl (ok (iarr_k 2 (by decide) rfl)) ?_
  refine stn 4672 rfl (mem' := [(64, .var .mine [.d (eU64 (y11 + (y17 ^^^ (a0.c2 + a0.c3)))), .d (eU64 (y29 ^^^ ((a0.c2 + a0.c3) + (y7 ^^^ (a0.c0 + a0.c1))))), .d (eU64 y33), .d (eU64 (y23 ^^^ (y11 + (y17 ^^^ (a0.c2 + a0.c3)))))]), (128, .var .mine [.d (eU64 (0#64)), .d (eU64 (0#64)), .d (eU64 (0#64)), .d (eU64 (0#64))])]) (ok (sto_v (ps' := [.d (eU64 (y11 + (y17 ^^^ (a0.c2 + a0.c3)))), .d (eU64 (y29 ^^^ ((a0.c2 + a0.c3) + (y7 ^^^ (a0.c0 + a0.c1))))), .d (eU64 y33), .d (eU64 (y23 ^^^ (y11 + (y17 ^^^ (a0.c2 + a0.c3)))))]) rfl rfl rfl rfl)) rfl ?_
  refine hK32 _ _ ?_
  simp only [n0, n1, n2, n3, n4, n5, n6, n7, n8, n9, n10, n11, n12, n13, n14, n15, n16, n17, n18, n19, reduceIte]
  refine hK31 _ _ _ ?_
  refine rwp_seq fun K35 hK35 => ?_
  refine rwp_region fun K36 hK36 => ?_
  refine st0 4736 rfl (ok (ld_v (v := .d (.agg [eU64 (y11 + (y17 ^^^ (a0.c2 + a0.c3))), eU64 (y29 ^^^ ((a0.c2 + a0.c3) + (y7 ^^^ (a0.c0 + a0.c1)))), eU64 y33, eU64 (y23 ^^^ (y11 + (y17 ^^^ (a0.c2 + a0.c3))))])) rfl rfl rfl)) ?_
  refine stn 4800 rfl (mem' := [(128, .var .mine [.d (eU64 (y11 + (y17 ^^^ (a0.c2 + a0.c3)))), .d (eU64 (y29 ^^^ ((a0.c2 + a0.c3) + (y7 ^^^ (a0.c0 + a0.c1))))), .d (eU64 y33), .d (eU64 (y23 ^^^ (y11 + (y17 ^^^ (a0.c2 + a0.c3)))))]), (64, .var .mine [.d (eU64 (y11 + (y17 ^^^ (a0.c2 + a0.c3)))), .d (eU64 (y29 ^^^ ((a0.c2 + a0.c3) + (y7 ^^^ (a0.c0 + a0.c1))))), .d (eU64 y33), .d (eU64 (y23 ^^^ (y11 + (y17 ^^^ (a0.c2 + a0.c3)))))])]) (ok (sto_v (ps' := [.d (eU64 (y11 + (y17 ^^^ (a0.c2 + a0.c3)))), .d (eU64 (y29 ^^^ ((a0.c2 + a0.c3) + (y7 ^^^ (a0.c0 + a0.c1))))), .d (eU64 y33), .d (eU64 (y23 ^^^ (y11 + (y17 ^^^ (a0.c2 + a0.c3)))))]) rfl rfl rfl rfl)) rfl ?_
  refine hK36 _ _ ?_
  simp only [n0, n1, n2, n3, n4, n5, n6, n7, n8, n9, n10, n11, n12, n13, n14, n15, n16, n17, n18, n19, reduceIte]
  refine hK35 _ _ _ ?_
  refine rwp_ret ?_
  obtain rfl := Option.some.inj h
  try simp only [thenK, blockK, reduceIte]
  exact Or.inl (end_ok trivial (rs_c (id := 128) (off := 0) (v := .d (.agg [eU64 (y11 + (y17 ^^^ (a0.c2 + a0.c3))), eU64 (y29 ^^^ ((a0.c2 + a0.c3) + (y7 ^^^ (a0.c0 + a0.c1)))), eU64 y33, eU64 (y23 ^^^ (y11 + (y17 ^^^ (a0.c2 + a0.c3))))])) rfl rfl rfl rfl rs_nil) (en_d (to_d _) en_nil) ou_nil (by first | exact eok rfl rfl rfl rfl trivial | (refine eok ?_ ?_ ?_ ?_ ?_ <;> first | rfl | exact trivial | simp [retM, Mem.get, PV.renL, PV.ren, Blk.ren, comps, rhoR, rhoM, appN, PV.refsL, PV.refs, keys, nodupB, Blk.refs, allIn, Blk.bor])))

end Go.Proofs.Ty
