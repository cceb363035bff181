/- Each Go function comes to what its plain function says. PRINTED by a program of this session (ty.py). -/
import Derived.Test.YtfhdcabplkhdcaaDoorSAa
set_option linter.unusedVariables false
set_option linter.unusedSimpArgs false
set_option maxHeartbeats 4000000
set_option maxRecDepth 10000
namespace Go.Proofs.Ty
open Go Go.RW Go.Proofs
open Go.RW renaming thenK → n0, blockK → n1, keepE → n2, updM → n3, envE → n4
open Go.RW.Mem renaming get → n5
open List renaming filter_cons → n6, filter_nil → n7, nil_append → n8, cons_append → n9, map_cons → n10, map_nil → n11, length_cons → n12, length_nil → n13
open Option renaming isNone_none → n14, isNone_some → n15
open Bool renaming false_eq_true → n16
open Nat renaming reduceEqDiff → n17, reduceAdd → n18, reduceMul → n19
/-- passkey/passkeylaw12.TokenPins -/
def passkeylaw12TokenPinsH : Hints := ⟨[(0, [0, 1, 2, 3, 4]), (1, [0, 1, 2, 3, 4, 26]), (2, [10]), (3, [0, 1, 2, 3, 4, 11, 12]), (4, [0, 1, 3, 4, 11, 12, 13, 14]), (5, [0, 1, 3, 4, 11, 12, 13, 14, 15]), (6, [0, 1, 3, 4, 11, 12, 13, 14, 15, 16]), (7, [0, 1, 3, 4, 11, 12, 13, 14, 15, 16, 50]), (9, [0, 1, 3, 4, 11, 12, 13, 14, 15, 16]), (8, [0, 1, 3, 4, 11, 12, 13, 14, 15, 16]), (10, [0, 1, 3, 4, 11, 12, 13, 14, 15, 59]), (11, [0, 1, 3, 11, 12, 13, 14, 15]), (12, [0, 3, 11, 12, 13, 14, 17]), (13, [10])], []⟩
def passkeylaw12TokenPinsRc : RCode :=
  .seq (.region false [⟨some 10, .mv, [.k (.d (.bool false))], none, []⟩] [0, 1, 2, 3, 4]) (.seq (.seq (.region false [⟨some 19, .mv, [.t 2], none, []⟩, ⟨some 20, .lens, [.t 19],
  none, []⟩, ⟨some 21, .bin .gtr, [.t 20, .k (.d (.int .i64 300))], none, []⟩, ⟨some 22, .mv, [.t 21], none, []⟩, ⟨some 23, .mv, [.t 3], some (22, false), []⟩, ⟨some 24, .len, [.t
  23], some (22, false), []⟩, ⟨some 25, .bin .gtr, [.t 24, .k (.d (.int .i64 300))], some (22, false), []⟩, ⟨some 26, .pick, [.t 22, .k (.d (.bool true)), .t 25], none, []⟩] [0, 1,
  2, 3, 4, 26]) (.cond (.t 26) (.seq (.region false [⟨some 27, .call 9 false, [], none, []⟩, ⟨some 10, .mv, [.t 27], none, []⟩] [10]) .ret) .skip)) (.seq (.region false [⟨some 29,
  .mv, [.t 0], none, []⟩, ⟨some 30, .mv, [.t 1], none, []⟩, ⟨some 31, .mv, [.t 2], none, []⟩, ⟨some 32, .call 10 true, [.t 29, .t 30, .t 31], none, []⟩, ⟨some 28, .mv, [.t 32],
  none, []⟩, ⟨some 33, .ext 0, [.t 28], none, []⟩, ⟨some 34, .ext 1, [.t 28], none, []⟩, ⟨some 11, .mv, [.t 33], none, []⟩, ⟨some 12, .mv, [.t 34], none, []⟩] [0, 1, 2, 3, 4, 11,
  12]) (.seq (.region false [⟨some 36, .mv, [.t 0], none, []⟩, ⟨some 37, .mv, [.t 1], none, []⟩, ⟨some 38, .mv, [.t 2], none, []⟩, ⟨some 39, .call 11 true, [.t 36, .t 37, .t 38],
  none, []⟩, ⟨some 35, .mv, [.t 39], none, []⟩, ⟨some 40, .ext 0, [.t 35], none, []⟩, ⟨some 41, .ext 1, [.t 35], none, []⟩, ⟨some 13, .mv, [.t 40], none, []⟩, ⟨some 14, .mv, [.t
  41], none, []⟩] [0, 1, 3, 4, 11, 12, 13, 14]) (.seq (.region false [⟨some 42, .mv, [.t 4], none, []⟩, ⟨some 43, .bin .and, [.t 42, .k (.d (.int .i64 3))], none, []⟩, ⟨some 44,
  .bin .add, [.k (.d (.int .i64 63)), .t 43], none, []⟩, ⟨some 45, .mks 1 false [.d (.int .u8 0)] 281474976710656, [.t 44, .t 44], none, []⟩, ⟨some 15, .mv, [.t 45], none, []⟩] [0,
  1, 3, 4, 11, 12, 13, 14, 15]) (.seq (.seq (.region false [⟨some 16, .mv, [.k (.d (.int .i64 0))], none, []⟩] [0, 1, 3, 4, 11, 12, 13, 14, 15, 16]) (.block 0 (.loop [] (.seq (.seq
  (.region false [⟨some 46, .mv, [.t 16], none, []⟩, ⟨some 47, .mv, [.t 4], none, []⟩, ⟨some 48, .bin .shr, [.t 47, .k (.d (.int .u64 2))], none, []⟩, ⟨some 49, .bin .and, [.t 48,
  .k (.d (.int .i64 63))], none, []⟩, ⟨some 50, .bin .lss, [.t 46, .t 49], none, []⟩] [0, 1, 3, 4, 11, 12, 13, 14, 15, 16, 50]) (.cond (.t 50) .skip (.exit 0))) (.seq (.block 1
  (.region false [⟨some 53, .mv, [.t 15], none, []⟩, ⟨some 54, .mv, [.t 16], none, []⟩, ⟨some 55, .ia 1, [.t 53, .t 54], none, []⟩, ⟨none, .store 1, [.t 55, .k (.d (.int .u8
  120))], none, []⟩] [0, 1, 3, 4, 11, 12, 13, 14, 15, 16])) (.region false [⟨some 51, .mv, [.t 16], none, []⟩, ⟨some 52, .bin .add, [.t 51, .k (.d (.int .i64 1))], none, []⟩, ⟨some
  16, .mv, [.t 52], none, []⟩] [0, 1, 3, 4, 11, 12, 13, 14, 15, 16])))))) (.seq (.seq (.region false [⟨some 56, .mv, [.t 4], none, []⟩, ⟨some 57, .bin .shr, [.t 56, .k (.d (.int
  .u64 8))], none, []⟩, ⟨some 58, .bin .and, [.t 57, .k (.d (.int .i64 3))], none, []⟩, ⟨some 59, .bin .eql, [.t 58, .k (.d (.int .i64 0))], none, []⟩] [0, 1, 3, 4, 11, 12, 13, 14,
  15, 59]) (.cond (.t 59) (.region false [⟨some 60, .mv, [.t 15], none, []⟩, ⟨some 61, .mv, [.t 4], none, []⟩, ⟨some 62, .bin .shr, [.t 61, .k (.d (.int .u64 10))], none, []⟩,
  ⟨some 63, .bin .and, [.t 62, .k (.d (.int .i64 63))], none, []⟩, ⟨some 64, .mv, [.t 15], none, []⟩, ⟨some 65, .len, [.t 64], none, []⟩, ⟨some 66, .bin .rem, [.t 63, .t 65], none,
  []⟩, ⟨some 67, .ia 1, [.t 60, .t 66], none, []⟩, ⟨none, .store 1, [.t 67, .k (.d (.int .u8 121))], none, []⟩] [0, 1, 3, 11, 12, 13, 14, 15]) .skip)) (.seq (.region false [⟨some
  69, .mv, [.t 0], none, []⟩, ⟨some 70, .mv, [.t 1], none, []⟩, ⟨some 71, .mv, [.t 15], none, []⟩, ⟨some 72, .call 12 true, [.t 69, .t 70, .k (.nil 1), .t 71], none, []⟩, ⟨some 68,
  .mv, [.t 72], none, []⟩, ⟨some 73, .ext 0, [.t 68], none, []⟩, ⟨some 74, .ext 1, [.t 68], none, []⟩, ⟨some 17, .mv, [.t 73], none, []⟩, ⟨some 18, .mv, [.t 74], none, []⟩] [0, 3,
  11, 12, 13, 14, 17]) (.seq (.region false [⟨some 75, .mv, [.t 12], none, []⟩, ⟨some 76, .mv, [.t 14], none, []⟩, ⟨some 77, .bin .eql, [.t 75, .t 76], none, []⟩, ⟨some 78, .mv,
  [.t 77], none, []⟩, ⟨some 79, .mv, [.t 11], some (78, true), []⟩, ⟨some 80, .b2s, [.t 79], some (78, true), []⟩, ⟨some 81, .mv, [.t 13], some (78, true), []⟩, ⟨some 82, .b2s, [.t
  81], some (78, true), []⟩, ⟨some 83, .bin .eql, [.t 80, .t 82], some (78, true), []⟩, ⟨some 84, .pick, [.t 78, .t 83, .k (.d (.bool false))], none, []⟩, ⟨some 85, .mv, [.t 84],
  none, []⟩, ⟨some 86, .mv, [.t 0], some (85, true), []⟩, ⟨some 87, .mv, [.t 3], some (85, true), []⟩, ⟨some 88, .call 13 false, [.t 86, .t 87], some (85, true), []⟩, ⟨some 89,
  .pick, [.t 85, .t 88, .k (.d (.bool false))], none, []⟩, ⟨some 90, .mv, [.t 89], none, []⟩, ⟨some 91, .mv, [.t 0], some (90, true), []⟩, ⟨some 92, .mv, [.t 11], some (90, true),
  []⟩, ⟨some 93, .call 13 false, [.t 91, .t 92], some (90, true), []⟩, ⟨some 94, .pick, [.t 90, .t 93, .k (.d (.bool false))], none, []⟩, ⟨some 95, .mv, [.t 94], none, []⟩, ⟨some
  96, .mv, [.t 0], some (95, true), []⟩, ⟨some 97, .mv, [.t 17], some (95, true), []⟩, ⟨some 98, .call 13 false, [.t 96, .t 97], some (95, true), []⟩, ⟨some 99, .pick, [.t 95, .t
  98, .k (.d (.bool false))], none, []⟩, ⟨some 100, .mv, [.t 99], none, []⟩, ⟨some 101, .mv, [.t 0], some (100, true), []⟩, ⟨some 102, .bin .add, [.t 101, .k (.d (.int .u64 1))],
  some (100, true), []⟩, ⟨some 103, .mv, [.t 11], some (100, true), []⟩, ⟨some 104, .call 13 false, [.t 102, .t 103], some (100, true), []⟩, ⟨some 105, .pick, [.t 100, .t 104, .k
  (.d (.bool false))], none, []⟩, ⟨some 106, .mv, [.t 105], none, []⟩, ⟨some 107, .call 9 false, [], some (106, true), []⟩, ⟨some 108, .pick, [.t 106, .t 107, .k (.d (.bool
  false))], none, []⟩, ⟨some 10, .mv, [.t 108], none, []⟩] [10]) .ret))))))))
def passkeylaw12TokenPinsRr : List RR := [.t 10]
theorem passkeylaw12TokenPinsC : compFn Tryd.prog 3 passkeylaw12TokenPinsH = some (passkeylaw12TokenPinsRc, passkeylaw12TokenPinsRr, 109) := by kernel_rfl
theorem passkeylaw12TokenPinsOK (a0 : BitVec 64) (a1 : BitVec 64) (a2 : List (BitVec 8)) (a3 : List (BitVec 8)) (a4 : Int) (res : Bool) (h : passkeylaw12TokenPins a0 a1 a2 a3 a4 = some res) : CallOK Tryd.prog 3 [.d (eU64 a0), .d (eU64 a1), .d (eS a2), .d ((eL 1 eU8) a3), .d (eI a4)] [] (.d (eB res)) [] := by
  unfold passkeylaw12TokenPins at h
  refine callOK passkeylaw12TokenPinsC fm rfl ?_
  simp only [initE, initM, nbor, List.map_cons, List.map_nil, Nat.reduceAdd]
  unfold passkeylaw12TokenPinsRc
  refine rwp_seq fun K1 hK1 => ?_
  refine rwp_region fun K2 hK2 => ?_
  refine st0 128 rfl (ok (mv (.d (eB false)))) ?_
  refine hK2 _ _ ?_
  simp only [n0, n1, n2, n3, n4, n5, n6, n7, n8, n9, n10, n11, n12, n13, n14, n15, n16, n17, n18, n19, reduceIte]
  refine hK1 _ _ _ ?_
  refine rwp_seq fun K3 hK3 => ?_
  refine rwp_join ([], []) 704 (fun env mem => ∃ (v4 : Bool), passkeylaw12TokenPinsJ1 a0 a1 a2 a3 a4 v4 = some res ∧ env = [(0, .d (eU64 a0)), (1, .d (eU64 a1)), (2, .d (eS a2)), (3, .d ((eL 1 eU8) a3)), (4, .d (eI a4)), (26, .d (eB v4))] ∧ mem = []) (fun _ _ hI => ?_) (fun K5 hK5 => ?_)
  · obtain ⟨v4, h, rfl, rfl⟩ := hI
    unfold passkeylaw12TokenPinsJ1 at h
    rcases Bool.eq_false_or_eq_true (v4) with h6 | h6
    · replace h := ite_t h h6
      refine rwp_t (isT h6) ?_
      refine rwp_seq fun K7 hK7 => ?_
      refine rwp_region fun K8 hK8 => ?_
      obtain ⟨y9, h10, h⟩ := bind_inv h
      refine st0 768 rfl (call_ok (v := .d (eB y9)) (u := []) ar_nil rfl (passkeylaw12awakeOK  y9 h10) rfl) ?_
      refine st0 832 rfl (ok (mv (.d (eB y9)))) ?_
      refine hK8 _ _ ?_
      simp only [n0, n1, n2, n3, n4, n5, n6, n7, n8, n9, n10, n11, n12, n13, n14, n15, n16, n17, n18, n19, reduceIte]
      refine hK7 _ _ _ ?_
      refine rwp_ret ?_
      obtain rfl := Option.some.inj h
      try simp only [thenK, blockK, reduceIte]
      exact Or.inl (end_ok trivial (rs_t (v := .d (eB y9)) rfl rs_nil) (en_d (to_d _) en_nil) ou_nil (by first | exact eok rfl rfl rfl rfl trivial | (refine eok ?_ ?_ ?_ ?_ ?_ <;> first | rfl | exact trivial | simp [retM, Mem.get, PV.renL, PV.ren, Blk.ren, comps, rhoR, rhoM, appN, PV.refsL, PV.refs, keys, nodupB, Blk.refs, allIn, Blk.bor])))
    · replace h := ite_f h h6
      refine rwp_f (isF h6) ?_
      refine rwp_skip ?_
      refine hK3 _ _ _ ?_
      refine rwp_seq fun K11 hK11 => ?_
      refine rwp_region fun K12 hK12 => ?_
      refine st0 768 rfl (ok (mv (.d (eU64 a0)))) ?_
      refine st0 832 rfl (ok (mv (.d (eU64 a1)))) ?_
      refine st0 896 rfl (ok (mv (.d (eS a2)))) ?_
      obtain ⟨y13, h14, h⟩ := bind_inv h
      refine st1 960 rfl (mem' := [(896, .row true 1 (y13.1.map eU8))]) (call_ok (v := .tup [.ref 896 y13.1.length 0 y13.1.length, .d (eI y13.2)]) (u := [(896, .row true 1 (y13.1.map eU8))]) (ar_d (eU64 a0) (ar_d (eU64 a1) (ar_d (eS a2) ar_nil))) rfl (tokenSealPinOK a0 a1 a2 y13 h14) rfl) rfl ?_
      refine st0 1024 rfl (ok (mv (.tup [.ref 896 y13.1.length 0 y13.1.length, .d (eI y13.2)]))) ?_
      refine st0 1088 rfl (ok (extr (v := .ref 896 y13.1.length 0 y13.1.length) rfl rfl)) ?_
      refine st0 1152 rfl (ok (extr (v := .d (eI y13.2)) rfl rfl)) ?_
      refine st0 1216 rfl (ok (mv (.ref 896 y13.1.length 0 y13.1.length))) ?_
      refine st0 1280 rfl (ok (mv (.d (eI y13.2)))) ?_
      refine hK12 _ _ ?_
      simp only [n0, n1, n2, n3, n4, n5, n6, n7, n8, n9, n10, n11, n12, n13, n14, n15, n16, n17, n18, n19, reduceIte]
      refine hK11 _ _ _ ?_
      refine rwp_seq fun K15 hK15 => ?_
      refine rwp_region fun K16 hK16 => ?_
      refine st0 1344 rfl (ok (mv (.d (eU64 a0)))) ?_
      refine st0 1408 rfl (ok (mv (.d (eU64 a1)))) ?_
      refine st0 1472 rfl (ok (mv (.d (eS a2)))) ?_
      obtain ⟨y17, h18, h⟩ := bind_inv h
      refine st1 1536 rfl (mem' := [(1472, .row true 1 (y17.1.map eU8)), (896, .row true 1 (y13.1.map eU8))]) (call_ok (v := .tup [.ref 1472 y17.1.length 0 y17.1.length, .d (eI y17.2)]) (u := [(1472, .row true 1 (y17.1.map eU8))]) (ar_d (eU64 a0) (ar_d (eU64 a1) (ar_d (eS a2) ar_nil))) rfl (passkeyref10SealPinOK a0 a1 a2 y17 h18) rfl) rfl ?_
      refine st0 1600 rfl (ok (mv (.tup [.ref 1472 y17.1.length 0 y17.1.length, .d (eI y17.2)]))) ?_
      refine st0 1664 rfl (ok (extr (v := .ref 1472 y17.1.length 0 y17.1.length) rfl rfl)) ?_
      refine st0 1728 rfl (ok (extr (v := .d (eI y17.2)) rfl rfl)) ?_
      refine st0 1792 rfl (ok (mv (.ref 1472 y17.1.length 0 y17.1.length))) ?_
      refine st0 1856 rfl (ok (mv (.d (eI y17.2)))) ?_
      refine hK16 _ _ ?_
      simp only [n0, n1, n2, n3, n4, n5, n6, n7, n8, n9, n10, n11, n12, n13, n14, n15, n16, n17, n18, n19, reduceIte]
      refine hK15 _ _ _ ?_
      refine rwp_seq fun K19 hK19 => ?_
      refine rwp_region fun K20 hK20 => ?_
      refine st0 1920 rfl (ok (mv (.d (eI a4)))) ?_
      refine st0 1984 rfl (ok (andI _ (3 : Int))) ?_
      refine st0 2048 rfl (ok (addI (63 : Int) _)) ?_
      obtain ⟨h21, h⟩ := asq_inv h
      refine st1 2112 rfl (mem' := [(2048, .row true 1 ((List.replicate (w64 ((63 : Int) + (ibits .and .i64 a4 (3 : Int)))).toNat 0#8).map eU8)), (1472, .row true 1 (y17.1.map eU8)), (896, .row true 1 (y13.1.map eU8))]) (ok (mks1 (e := eU8) 0#8 rfl rfl h21)) rfl ?_
      refine st0 2176 rfl (ok (mv (.ref 2048 (((List.replicate (w64 ((63 : Int) + (ibits .and .i64 a4 (3 : Int)))).toNat 0#8)).length) 0 (((List.replicate (w64 ((63 : Int) + (ibits .and .i64 a4 (3 : Int)))).toNat 0#8)).length)))) ?_
      refine hK20 _ _ ?_
      simp only [n0, n1, n2, n3, n4, n5, n6, n7, n8, n9, n10, n11, n12, n13, n14, n15, n16, n17, n18, n19, reduceIte]
      refine hK19 _ _ _ ?_
      refine rwp_join ([], []) 3520 (fun env mem => ∃ (v22 : List (BitVec 8)), passkeylaw12TokenPinsJ2 a0 a1 a3 a4 y13 y17 v22 = some res ∧ env = [(0, .d (eU64 a0)), (1, .d (eU64 a1)), (3, .d ((eL 1 eU8) a3)), (4, .d (eI a4)), (11, .ref 896 y13.1.length 0 y13.1.length), (12, .d (eI y13.2)), (13, .ref 1472 y17.1.length 0 y17.1.length), (14, .d (eI y17.2)), (15, .ref 2048 v22.length 0 v22.length)] ∧ mem = [(896, .row true 1 (y13.1.map eU8)), (1472, .row true 1 (y17.1.map eU8)), (2048, .row true 1 (v22.map eU8))]) (fun _ _ hI => ?_) (fun K23 hK23 => ?_)
      · obtain ⟨v22, h, rfl, rfl⟩ := hI
        unfold passkeylaw12TokenPinsJ2 at h
        refine rwp_join ([], []) 4416 (fun env mem => ∃ (v24 : List (BitVec 8)), passkeylaw12TokenPinsJ3 a0 a1 a3 y13 y17 v24 = some res ∧ env = [(0, .d (eU64 a0)), (1, .d (eU64 a1)), (3, .d ((eL 1 eU8) a3)), (11, .ref 896 y13.1.length 0 y13.1.length), (12, .d (eI y13.2)), (13, .ref 1472 y17.1.length 0 y17.1.length), (14, .d (eI y17.2)), (15, .ref 2048 v24.length 0 v24.length)] ∧ mem = [(896, .row true 1 (y13.1.map eU8)), (1472, .row true 1 (y17.1.map eU8)), (2048, .row true 1 (v24.map eU8))]) (fun _ _ hI => ?_) (fun K25 hK25 => ?_)
        · obtain ⟨v24, h, rfl, rfl⟩ := hI
          unfold passkeylaw12TokenPinsJ3 at h
          refine rwp_seq fun K26 hK26 => ?_
          refine rwp_region fun K27 hK27 => ?_
          refine st0 4480 rfl (ok (mv (.d (eU64 a0)))) ?_
          refine st0 4544 rfl (ok (mv (.d (eU64 a1)))) ?_
          refine st0 4608 rfl (ok (mv (.ref 2048 v24.length 0 v24.length))) ?_
          obtain ⟨y28, h29, h⟩ := bind_inv h
          refine st1 4672 rfl (mem' := [(4608, .row true 1 (y28.1.map eU8)), (2048, .row false 1 (v24.map eU8)), (896, .row true 1 (y13.1.map eU8)), (1472, .row true 1 (y17.1.map eU8))]) (call_ok (v := .tup [.ref 4608 y28.1.length 0 y28.1.length, .d (eI y28.2)]) (u := [(4608, .row true 1 (y28.1.map eU8)), (2048, .row false 1 (v24.map eU8))]) (ar_d (eU64 a0) (ar_d (eU64 a1) (ar_to rfl (to_1 rfl (ds_n eU8 ds_nil)) (ar_to rfl (to_1 rfl (ds_r (ys := v24) rfl rfl rfl ds_nil)) ar_nil)))) rfl (passkeyref3SealOK a0 a1 ([] : List (BitVec 8)) v24 y28 h29) rfl) rfl ?_
          refine st0 4736 rfl (ok (mv (.tup [.ref 4608 y28.1.length 0 y28.1.length, .d (eI y28.2)]))) ?_
          refine st0 4800 rfl (ok (extr (v := .ref 4608 y28.1.length 0 y28.1.length) rfl rfl)) ?_
          refine st0 4864 rfl (ok (extr (v := .d (eI y28.2)) rfl rfl)) ?_
          refine st0 4928 rfl (ok (mv (.ref 4608 y28.1.length 0 y28.1.length))) ?_
          refine st0 4992 rfl (ok (mv (.d (eI y28.2)))) ?_
          refine hK27 _ _ ?_
          simp only [n0, n1, n2, n3, n4, n5, n6, n7, n8, n9, n10, n11, n12, n13, n14, n15, n16, n17, n18, n19, reduceIte]
          refine hK26 _ _ _ ?_
          refine rwp_seq fun K30 hK30 => ?_
          refine rwp_region fun K31 hK31 => ?_
          refine st0 5056 rfl (ok (mv (.d (eI y13.2)))) ?_
          refine st0 5120 rfl (ok (mv (.d (eI y17.2)))) ?_
          refine st0 5184 rfl (ok (eqlI _ _)) ?_
          refine st0 5248 rfl (ok (mv (.d (eB (y13.2 == y17.2))))) ?_
          rcases Bool.eq_false_or_eq_true ((y13.2 == y17.2)) with h32 | h32
          · replace h := ite_t h h32
            refine stG (isT h32) ?_
            refine st0 5312 rfl (ok (mv (.ref 896 y13.1.length 0 y13.1.length))) ?_
            refine stG (isT h32) ?_
            refine st0 5376 rfl (ok (b2s (contR (xs := y13.1) rfl rfl rfl))) ?_
            refine stG (isT h32) ?_
            refine st0 5440 rfl (ok (mv (.ref 1472 y17.1.length 0 y17.1.length))) ?_
            refine stG (isT h32) ?_
            refine st0 5504 rfl (ok (b2s (contR (xs := y17.1) rfl rfl rfl))) ?_
            refine stG (isT h32) ?_
            refine st0 5568 rfl (ok (eqlS y13.1 y17.1)) ?_
            refine st0 5632 rfl (ok (pick_t h32 (.d (eB (y13.1 == y17.1))) _)) ?_
            refine st0 5696 rfl (ok (mv (.d (eB (y13.1 == y17.1))))) ?_
            rcases Bool.eq_false_or_eq_true ((y13.1 == y17.1)) with h33 | h33
            · replace h := ite_t h h33
              refine stG (isT h33) ?_
              refine st0 5760 rfl (ok (mv (.d (eU64 a0)))) ?_
              refine stG (isT h33) ?_
              refine st0 5824 rfl (ok (mv (.d ((eL 1 eU8) a3)))) ?_
              refine stG (isT h33) ?_
              obtain ⟨y34, h35, h⟩ := bind_inv h
              refine st0 5888 rfl (call_ok (v := .d (eB y34)) (u := []) (ar_d (eU64 a0) (ar_d ((eL 1 eU8) a3) ar_nil)) rfl (passkeylaw12pinsOK a0 a3 y34 h35) rfl) ?_
              refine st0 5952 rfl (ok (pick_t h33 (.d (eB y34)) _)) ?_
              refine st0 6016 rfl (ok (mv (.d (eB y34)))) ?_
              rcases Bool.eq_false_or_eq_true (y34) with h36 | h36
              · replace h := ite_t h h36
                refine stG (isT h36) ?_
                refine st0 6080 rfl (ok (mv (.d (eU64 a0)))) ?_
                refine stG (isT h36) ?_
                refine st0 6144 rfl (ok (mv (.ref 896 y13.1.length 0 y13.1.length))) ?_
                refine stG (isT h36) ?_
                obtain ⟨y37, h38, h⟩ := bind_inv h
                refine st0 6208 rfl (call_ok (v := .d (eB y37)) (u := []) (ar_d (eU64 a0) (ar_to rfl (to_1 rfl (ds_r (ys := y13.1) rfl rfl rfl ds_nil)) ar_nil)) rfl (passkeylaw12pinsOK a0 y13.1 y37 h38) rfl) ?_
                refine st0 6272 rfl (ok (pick_t h36 (.d (eB y37)) _)) ?_
                refine st0 6336 rfl (ok (mv (.d (eB y37)))) ?_
                rcases Bool.eq_false_or_eq_true (y37) with h39 | h39
                · replace h := ite_t h h39
                  refine stG (isT h39) ?_
                  refine st0 6400 rfl (ok (mv (.d (eU64 a0)))) ?_
                  refine stG (isT h39) ?_
                  refine st0 6464 rfl (ok (mv (.ref 4608 y28.1.length 0 y28.1.length))) ?_
                  refine stG (isT h39) ?_
                  obtain ⟨y40, h41, h⟩ := bind_inv h
                  refine st0 6528 rfl (call_ok (v := .d (eB y40)) (u := []) (ar_d (eU64 a0) (ar_to rfl (to_1 rfl (ds_r (ys := y28.1) rfl rfl rfl ds_nil)) ar_nil)) rfl (passkeylaw12pinsOK a0 y28.1 y40 h41) rfl) ?_
                  refine st0 6592 rfl (ok (pick_t h39 (.d (eB y40)) _)) ?_
                  refine st0 6656 rfl (ok (mv (.d (eB y40)))) ?_
                  rcases Bool.eq_false_or_eq_true (y40) with h42 | h42
                  · replace h := ite_t h h42
                    refine stG (isT h42) ?_
                    refine st0 6720 rfl (ok (mv (.d (eU64 a0)))) ?_
                    refine stG (isT h42) ?_
                    refine st0 6784 rfl (ok (add64 _ (1#64))) ?_
                    refine stG (isT h42) ?_
                    refine st0 6848 rfl (ok (mv (.ref 896 y13.1.length 0 y13.1.length))) ?_
                    refine stG (isT h42) ?_
                    obtain ⟨y43, h44, h⟩ := bind_inv h
                    refine st0 6912 rfl (call_ok (v := .d (eB y43)) (u := []) (ar_d (eU64 (a0 + (1#64))) (ar_to rfl (to_1 rfl (ds_r (ys := y13.1) rfl rfl rfl ds_nil)) ar_nil)) rfl (passkeylaw12pinsOK (a0 + (1#64)) y13.1 y43 h44) rfl) ?_
                    refine st0 6976 rfl (ok (pick_t h42 (.d (eB y43)) _)) ?_
                    refine st0 7040 rfl (ok (mv (.d (eB y43)))) ?_
                    rcases Bool.eq_false_or_eq_true (y43) with h45 | h45
                    · replace h := ite_t h h45
                      refine stG (isT h45) ?_
                      obtain ⟨y46, h47, h⟩ := bind_inv h
                      refine st0 7104 rfl (call_ok (v := .d (eB y46)) (u := []) ar_nil rfl (passkeylaw12awakeOK  y46 h47) rfl) ?_
                      refine st0 7168 rfl (ok (pick_t h45 (.d (eB y46)) _)) ?_
                      refine st0 7232 rfl (ok (mv (.d (eB y46)))) ?_
                      refine hK31 _ _ ?_
                      simp only [n0, n1, n2, n3, n4, n5, n6, n7, n8, n9, n10, n11, n12, n13, n14, n15, n16, n17, n18, n19, reduceIte]
                      refine hK30 _ _ _ ?_
                      refine rwp_ret ?_
                      obtain rfl := Option.some.inj h
                      try simp only [thenK, blockK, reduceIte]
                      exact Or.inl (end_ok trivial (rs_t (v := .d (eB y46)) rfl rs_nil) (en_d (to_d _) en_nil) ou_nil (by first | exact eok rfl rfl rfl rfl trivial | (refine eok ?_ ?_ ?_ ?_ ?_ <;> first | rfl | exact trivial | simp [retM, Mem.get, PV.renL, PV.ren, Blk.ren, comps, rhoR, rhoM, appN, PV.refsL, PV.refs, keys, nodupB, Blk.refs, allIn, Blk.bor])))
                    · replace h := ite_f h h45
                      refine stGN 7104 rfl rfl h45 ?_
                      refine st0 7168 rfl (ok (pick_f h45 _ (.d (eB false)))) ?_
                      refine st0 7232 rfl (ok (mv (.d (eB false)))) ?_
                      refine hK31 _ _ ?_
                      simp only [n0, n1, n2, n3, n4, n5, n6, n7, n8, n9, n10, n11, n12, n13, n14, n15, n16, n17, n18, n19, reduceIte]
                      refine hK30 _ _ _ ?_
                      refine rwp_ret ?_
                      obtain rfl := Option.some.inj h
                      try simp only [thenK, blockK, reduceIte]
                      exact Or.inl (end_ok trivial (rs_t (v := .d (eB false)) rfl rs_nil) (en_d (to_d _) en_nil) ou_nil (by first | exact eok rfl rfl rfl rfl trivial | (refine eok ?_ ?_ ?_ ?_ ?_ <;> first | rfl | exact trivial | simp [retM, Mem.get, PV.renL, PV.ren, Blk.ren, comps, rhoR, rhoM, appN, PV.refsL, PV.refs, keys, nodupB, Blk.refs, allIn, Blk.bor])))
                  · replace h := ite_f h h42
                    refine stGN 6720 rfl rfl h42 ?_
                    refine stGN 6784 rfl rfl h42 ?_
                    refine stGN 6848 rfl rfl h42 ?_
                    refine stGN 6912 rfl rfl h42 ?_
                    refine st0 6976 rfl (ok (pick_f h42 _ (.d (eB false)))) ?_
                    refine st0 7040 rfl (ok (mv (.d (eB false)))) ?_
                    refine stGN 7104 rfl rfl rfl ?_
                    refine st0 7168 rfl (ok (pick_f rfl _ (.d (eB false)))) ?_
                    refine st0 7232 rfl (ok (mv (.d (eB false)))) ?_
                    refine hK31 _ _ ?_
                    simp only [n0, n1, n2, n3, n4, n5, n6, n7, n8, n9, n10, n11, n12, n13, n14, n15, n16, n17, n18, n19, reduceIte]
                    refine hK30 _ _ _ ?_
                    refine rwp_ret ?_
                    obtain rfl := Option.some.inj h
                    try simp only [thenK, blockK, reduceIte]
                    exact Or.inl (end_ok trivial (rs_t (v := .d (eB false)) rfl rs_nil) (en_d (to_d _) en_nil) ou_nil (by first | exact eok rfl rfl rfl rfl trivial | (refine eok ?_ ?_ ?_ ?_ ?_ <;> first | rfl | exact trivial | simp [retM, Mem.get, PV.renL, PV.ren, Blk.ren, comps, rhoR, rhoM, appN, PV.refsL, PV.refs, keys, nodupB, Blk.refs, allIn, Blk.bor])))
                · replace h := ite_f h h39
                  refine stGN 6400 rfl rfl h39 ?_
                  refine stGN 6464 rfl rfl h39 ?_
                  refine stGN 6528 rfl rfl h39 ?_
                  refine st0 6592 rfl (ok (pick_f h39 _ (.d (eB false)))) ?_
                  refine st0 6656 rfl (ok (mv (.d (eB false)))) ?_
                  refine stGN 6720 rfl rfl rfl ?_
                  refine stGN 6784 rfl rfl rfl ?_
                  refine stGN 6848 rfl rfl rfl ?_
                  refine stGN 6912 rfl rfl rfl ?_
                  refine st0 6976 rfl (ok (pick_f rfl _ (.d (eB false)))) ?_
                  refine st0 7040 rfl (ok (mv (.d (eB false)))) ?_
                  refine stGN 7104 rfl rfl rfl ?_
                  refine st0 7168 rfl (ok (pick_f rfl _ (.d (eB false)))) ?_
                  refine st0 7232 rfl (ok (mv (.d (eB false)))) ?_
                  refine hK31 _ _ ?_
                  simp only [n0, n1, n2, n3, n4, n5, n6, n7, n8, n9, n10, n11, n12, n13, n14, n15, n16, n17, n18, n19, reduceIte]
                  refine hK30 _ _ _ ?_
                  refine rwp_ret ?_
                  obtain rfl := Option.some.inj h
                  try simp only [thenK, blockK, reduceIte]
                  exact Or.inl (end_ok trivial (rs_t (v := .d (eB false)) rfl rs_nil) (en_d (to_d _) en_nil) ou_nil (by first | exact eok rfl rfl rfl rfl trivial | (refine eok ?_ ?_ ?_ ?_ ?_ <;> first | rfl | exact trivial | simp [retM, Mem.get, PV.renL, PV.ren, Blk.ren, comps, rhoR, rhoM, appN, PV.refsL, PV.refs, keys, nodupB, Blk.refs, allIn, Blk.bor])))
              · replace h := ite_f h h36
                refine stGN 6080 rfl rfl h36 ?_
                refine stGN 6144 rfl rfl h36 ?_
                refine stGN 6208 rfl rfl h36 ?_
                refine st0 6272 rfl (ok (pick_f h36 _ (.d (eB false)))) ?_
                refine st0 6336 rfl (ok (mv (.d (eB false)))) ?_
                refine stGN 6400 rfl rfl rfl ?_
                refine stGN 6464 rfl rfl rfl ?_
                refine stGN 6528 rfl rfl rfl ?_
                refine st0 6592 rfl (ok (pick_f rfl _ (.d (eB false)))) ?_
                refine st0 6656 rfl (ok (mv (.d (eB false)))) ?_
                refine stGN 6720 rfl rfl rfl ?_
                refine stGN 6784 rfl rfl rfl ?_
                refine stGN 6848 rfl rfl rfl ?_
                refine stGN 6912 rfl rfl rfl ?_
                refine st0 6976 rfl (ok (pick_f rfl _ (.d (eB false)))) ?_
                refine st0 7040 rfl (ok (mv (.d (eB false)))) ?_
                refine stGN 7104 rfl rfl rfl ?_
                refine st0 7168 rfl (ok (pick_f rfl _ (.d (eB false)))) ?_
                refine st0 7232 rfl (ok (mv (.d (eB false)))) ?_
                refine hK31 _ _ ?_
                simp only [n0, n1, n2, n3, n4, n5, n6, n7, n8, n9, n10, n11, n12, n13, n14, n15, n16, n17, n18, n19, reduceIte]
                refine hK30 _ _ _ ?_
                refine rwp_ret ?_
                obtain rfl := Option.some.inj h
                try simp only [thenK, blockK, reduceIte]
                exact Or.inl (end_ok trivial (rs_t (v := .d (eB false)) rfl rs_nil) (en_d (to_d _) en_nil) ou_nil (by first | exact eok rfl rfl rfl rfl trivial | (refine eok ?_ ?_ ?_ ?_ ?_ <;> first | rfl | exact trivial | simp [retM, Mem.get, PV.renL, PV.ren, Blk.ren, comps, rhoR, rhoM, appN, PV.refsL, PV.refs, keys, nodupB, Blk.refs, allIn, Blk.bor])))
            · replace h := ite_f h h33
              refine stGN 5760 rfl rfl h33 ?_
              refine stGN 5824 rfl rfl h33 ?_
              refine stGN 5888 rfl rfl h33 ?_
              refine st0 5952 rfl (ok (pick_f h33 _ (.d (eB false)))) ?_
              refine st0 6016 rfl (ok (mv (.d (eB false)))) ?_
              refine stGN 6080 rfl rfl rfl ?_
              refine stGN 6144 rfl rfl rfl ?_
              refine stGN 6208 rfl rfl rfl ?_
              refine st0 6272 rfl (ok (pick_f rfl _ (.d (eB false)))) ?_
              refine st0 6336 rfl (ok (mv (.d (eB false)))) ?_
              refine stGN 6400 rfl rfl rfl ?_
              refine stGN 6464 rfl rfl rfl ?_
              refine stGN 6528 rfl rfl rfl ?_
              refine st0 6592 rfl (ok (pick_f rfl _ (.d (eB false)))) ?_
              refine st0 6656 rfl (ok (mv (.d (eB false)))) ?_
              refine stGN 6720 rfl rfl rfl ?_
              refine stGN 6784 rfl rfl rfl ?_
              refine stGN 6848 rfl rfl rfl ?_
              refine stGN 6912 rfl rfl rfl ?_
              refine st0 6976 rfl (ok (pick_f rfl _ (.d (eB false)))) ?_
              refine st0 7040 rfl (ok (mv (.d (eB false)))) ?_
              refine stGN 7104 rfl rfl rfl ?_
              refine st0 7168 rfl (ok (pick_f rfl _ (.d (eB false)))) ?_
              refine st0 7232 rfl (ok (mv (.d (eB false)))) ?_
              refine hK31 _ _ ?_
              simp only [n0, n1, n2, n3, n4, n5, n6, n7, n8, n9, n10, n11, n12, n13, n14, n15, n16, n17, n18, n19, reduceIte]
              refine hK30 _ _ _ ?_
              refine rwp_ret ?_
              obtain rfl := Option.some.inj h
              try simp only [thenK, blockK, reduceIte]
              exact Or.inl (end_ok trivial (rs_t (v := .d (eB false)) rfl rs_nil) (en_d (to_d _) en_nil) ou_nil (by first | exact eok rfl rfl rfl rfl trivial | (refine eok ?_ ?_ ?_ ?_ ?_ <;> first | rfl | exact trivial | simp [retM, Mem.get, PV.renL, PV.ren, Blk.ren, comps, rhoR, rhoM, appN, PV.refsL, PV.refs, keys, nodupB, Blk.refs, allIn, Blk.bor])))
          · replace h := ite_f h h32
            refine stGN 5312 rfl rfl h32 ?_
            refine stGN 5376 rfl rfl h32 ?_
            refine stGN 5440 rfl rfl h32 ?_
            refine stGN 5504 rfl rfl h32 ?_
            refine stGN 5568 rfl rfl h32 ?_
            refine st0 5632 rfl (ok (pick_f h32 _ (.d (eB false)))) ?_
            refine st0 5696 rfl (ok (mv (.d (eB false)))) ?_
            refine stGN 5760 rfl rfl rfl ?_
            refine stGN 5824 rfl rfl rfl ?_
            refine stGN 5888 rfl rfl rfl ?_
            refine st0 5952 rfl (ok (pick_f rfl _ (.d (eB false)))) ?_
            refine st0 6016 rfl (ok (mv (.d (eB false)))) ?_
            refine stGN 6080 rfl rfl rfl ?_
            refine stGN 6144 rfl rfl rfl ?_
            refine stGN 6208 rfl rfl rfl ?_
            refine st0 6272 rfl (ok (pick_f rfl _ (.d (eB false)))) ?_
            refine st0 6336 rfl (ok (mv (.d (eB false)))) ?_
            refine stGN 6400 rfl rfl rfl ?_
            refine stGN 6464 rfl rfl rfl ?_
            refine stGN 6528 rfl rfl rfl ?_
            refine st0 6592 rfl (ok (pick_f rfl _ (.d (eB false)))) ?_
            refine st0 6656 rfl (ok (mv (.d (eB false)))) ?_
            refine stGN 6720 rfl rfl rfl ?_
            refine stGN 6784 rfl rfl rfl ?_
            refine stGN 6848 rfl rfl rfl ?_
            refine stGN 6912 rfl rfl rfl ?_
            refine st0 6976 rfl (ok (pick_f rfl _ (.d (eB false)))) ?_
            refine st0 7040 rfl (ok (mv (.d (eB false)))) ?_
            refine stGN 7104 rfl rfl rfl ?_
            refine st0 7168 rfl (ok (pick_f rfl _ (.d (eB false)))) ?_
            refine st0 7232 rfl (ok (mv (.d (eB false)))) ?_
            refine hK31 _ _ ?_
            simp only [n0, n1, n2, n3, n4, n5, n6, n7, n8, n9, n10, n11, n12, n13, n14, n15, n16, n17, n18, n19, reduceIte]
            refine hK30 _ _ _ ?_
            refine rwp_ret ?_
            obtain rfl := Option.some.inj h
            try simp only [thenK, blockK, reduceIte]
            exact Or.inl (end_ok trivial (rs_t (v := .d (eB false)) rfl rs_nil) (en_d (to_d _) en_nil) ou_nil (by first | exact eok rfl rfl rfl rfl trivial | (refine eok ?_ ?_ ?_ ?_ ?_ <;> first | rfl | exact trivial | simp [retM, Mem.get, PV.renL, PV.ren, Blk.ren, comps, rhoR, rhoM, appN, PV.refsL, PV.refs, keys, nodupB, Blk.refs, allIn, Blk.bor])))
        · refine rwp_seq fun K48 hK48 => ?_
          refine rwp_region fun K49 hK49 => ?_
          refine st0 3584 rfl (ok (mv (.d (eI a4)))) ?_
          refine st0 3648 rfl (ok (shrII _ (by decide))) ?_
          refine st0 3712 rfl (ok (andI _ (3 : Int))) ?_
          refine st0 3776 rfl (ok (eqlI _ (0 : Int))) ?_
          refine hK49 _ _ ?_
          simp only [n0, n1, n2, n3, n4, n5, n6, n7, n8, n9, n10, n11, n12, n13, n14, n15, n16, n17, n18, n19, reduceIte]
          refine hK48 _ _ _ ?_
          rcases Bool.eq_false_or_eq_true (((ibits .and .i64 (ishr .i64 a4 (8 : Int)) (3 : Int)) == (0 : Int))) with h50 | h50
          · replace h := ite_t h h50
            refine rwp_t (isT h50) ?_
            refine rwp_region fun K51 hK51 => ?_
            refine st0 3840 rfl (ok (mv (.ref 2048 v22.length 0 v22.length))) ?_
            refine st0 3904 rfl (ok (mv (.d (eI a4)))) ?_
            refine st0 3968 rfl (ok (shrII _ (by decide))) ?_
            refine st0 4032 rfl (ok (andI _ (63 : Int))) ?_
            refine st0 4096 rfl (ok (mv (.ref 2048 v22.length 0 v22.length))) ?_
            refine st0 4160 rfl (ok (lenR _ _ _ _)) ?_
            obtain ⟨h52, h⟩ := asq_inv h
            obtain ⟨v53, h54, h⟩ := lett_inv h
            refine st0e 4224 rfl (ok (remI _ _ h52)) (congrArg (fun z => PV.d (eI z)) h54) ?_
            obtain ⟨h55, h⟩ := asq_inv h
            refine st0 4288 rfl (ok (iaR (xs := v22) (e := eU8) rfl rfl h55)) ?_
            refine stn 4352 rfl (mem' := [(2048, .row true 1 ((v22.set (0 + v53.toNat) (121#8)).map eU8)), (896, .row true 1 (y13.1.map eU8)), (1472, .row true 1 (y17.1.map eU8))]) (ok (sto_r (e := eU8) (xs := v22) (y := (121#8)) rfl rfl rfl)) rfl ?_
            refine hK51 _ _ ?_
            simp only [n0, n1, n2, n3, n4, n5, n6, n7, n8, n9, n10, n11, n12, n13, n14, n15, n16, n17, n18, n19, reduceIte]
            exact hK25 _ _ _ ⟨_, _, Settled.refl, _, _, ⟨_, h, rfl, rfl⟩, (by refine ⟨rfl, ⟨⟨?_, rfl⟩, ⟨⟨?_, rfl⟩, ⟨⟨?_, rfl⟩, ⟨⟨?_, rfl⟩, ⟨⟨?_, rfl⟩, ⟨⟨?_, rfl⟩, ⟨⟨?_, rfl⟩, ⟨⟨?_, rfl⟩, trivial⟩⟩⟩⟩⟩⟩⟩⟩, ⟨⟨?_, rfl⟩, ⟨⟨?_, rfl⟩, ⟨⟨?_, rfl⟩, trivial⟩⟩⟩⟩ <;> first | rfl | (exact refEq rfl (by simp) rfl (by simp)) | simp [envE, Mem.get, liftE, liftV, rhoOf, rhoE, rhoM, appN, PV.refs, PV.refsL, Blk.refs, PV.ren, PV.renL, Blk.ren]), rfl⟩
          · replace h := ite_f h h50
            refine rwp_f (isF h50) ?_
            refine rwp_skip ?_
            exact hK25 _ _ _ ⟨_, _, Settled.refl, _, _, ⟨_, h, rfl, rfl⟩, ⟨rfl, ⟨⟨rfl, rfl⟩, ⟨⟨rfl, rfl⟩, ⟨⟨rfl, rfl⟩, ⟨⟨rfl, rfl⟩, ⟨⟨rfl, rfl⟩, ⟨⟨rfl, rfl⟩, ⟨⟨rfl, rfl⟩, ⟨⟨rfl, rfl⟩, trivial⟩⟩⟩⟩⟩⟩⟩⟩, ⟨⟨rfl, rfl⟩, ⟨⟨rfl, rfl⟩, ⟨⟨rfl, rfl⟩, trivial⟩⟩⟩⟩, rfl⟩
      · refine rwp_seq fun K56 hK56 => ?_
        refine rwp_region fun K57 hK57 => ?_
        refine st0 2240 rfl (ok (mv (.d (eI (0 : Int))))) ?_
        refine hK57 _ _ ?_
        simp only [n0, n1, n2, n3, n4, n5, n6, n7, n8, n9, n10, n11, n12, n13, n14, n15, n16, n17, n18, n19, reduceIte]
        refine hK56 _ _ _ ?_
        refine rwp_block fun K58 hK58 => ?_
        refine rwp_loop ([], []) 3136 (fun k env mem => ∃ (v59 : List (BitVec 8)) (v60 : Int), passkeylaw12TokenPinsL4 a0 a1 a3 a4 y13 y17 k v59 v60 = some res ∧ env = [(0, .d (eU64 a0)), (1, .d (eU64 a1)), (3, .d ((eL 1 eU8) a3)), (4, .d (eI a4)), (11, .ref 896 y13.1.length 0 y13.1.length), (12, .d (eI y13.2)), (13, .ref 1472 y17.1.length 0 y17.1.length), (14, .d (eI y17.2)), (15, .ref 2048 v59.length 0 v59.length), (16, .d (eI v60))] ∧ mem = [(896, .row true 1 (y13.1.map eU8)), (1472, .row true 1 (y17.1.map eU8)), (2048, .row true 1 (v59.map eU8))]) FUEL ⟨_, _, Settled.refl, _, _, ⟨_, _, h, rfl, rfl⟩, ⟨rfl, ⟨⟨rfl, rfl⟩, ⟨⟨rfl, rfl⟩, ⟨⟨rfl, rfl⟩, ⟨⟨rfl, rfl⟩, ⟨⟨rfl, rfl⟩, ⟨⟨rfl, rfl⟩, ⟨⟨rfl, rfl⟩, ⟨⟨rfl, rfl⟩, ⟨⟨rfl, rfl⟩, ⟨⟨rfl, rfl⟩, trivial⟩⟩⟩⟩⟩⟩⟩⟩⟩⟩, ⟨⟨rfl, rfl⟩, ⟨⟨rfl, rfl⟩, ⟨⟨rfl, rfl⟩, trivial⟩⟩⟩⟩, rfl⟩ (fun k4 env1 mem1 hI K61 hK61 => ?_)
        obtain ⟨v59, v60, h, rfl, rfl⟩ := hI
        cases k4 with
        | zero => simp [passkeylaw12TokenPinsL4] at h
        | succ k4 =>
          rw [passkeylaw12TokenPinsL4] at h
          refine rwp_seq fun K62 hK62 => ?_
          refine rwp_seq fun K63 hK63 => ?_
          refine rwp_region fun K64 hK64 => ?_
          refine st0 3200 rfl (ok (mv (.d (eI v60)))) ?_
          refine st0 3264 rfl (ok (mv (.d (eI a4)))) ?_
          refine st0 3328 rfl (ok (shrII _ (by decide))) ?_
          refine st0 3392 rfl (ok (andI _ (63 : Int))) ?_
          refine st0 3456 rfl (ok (lssI _ _)) ?_
          refine hK64 _ _ ?_
          simp only [n0, n1, n2, n3, n4, n5, n6, n7, n8, n9, n10, n11, n12, n13, n14, n15, n16, n17, n18, n19, reduceIte]
          refine hK63 _ _ _ ?_
          rcases Bool.eq_false_or_eq_true ((decide (v60 < (ibits .and .i64 (ishr .i64 a4 (2 : Int)) (63 : Int))))) with h65 | h65
          · replace h := ite_t h h65
            refine rwp_t (isT h65) ?_
            refine rwp_skip ?_
            refine hK62 _ _ _ ?_
            refine rwp_seq fun K66 hK66 => ?_
            refine rwp_block fun K67 hK67 => ?_
            refine rwp_region fun K68 hK68 => ?_
            refine st0 3520 rfl (ok (mv (.ref 2048 v59.length 0 v59.length))) ?_
            refine st0 3584 rfl (ok (mv (.d (eI v60)))) ?_
            obtain ⟨h69, h⟩ := asq_inv h
            refine st0 3648 rfl (ok (iaR (xs := v59) (e := eU8) rfl rfl h69)) ?_
            refine stn 3712 rfl (mem' := [(2048, .row true 1 ((v59.set (0 + v60.toNat) (120#8)).map eU8)), (896, .row true 1 (y13.1.map eU8)), (1472, .row true 1 (y17.1.map eU8))]) (ok (sto_r (e := eU8) (xs := v59) (y := (120#8)) rfl rfl rfl)) rfl ?_
            refine hK68 _ _ ?_
            simp only [n0, n1, n2, n3, n4, n5, n6, n7, n8, n9, n10, n11, n12, n13, n14, n15, n16, n17, n18, n19, reduceIte]
            refine hK67 _ _ _ ?_
            refine hK66 _ _ _ ?_
            refine rwp_region fun K70 hK70 => ?_
            refine st0 3776 rfl (ok (mv (.d (eI v60)))) ?_
            refine st0 3840 rfl (ok (addI _ (1 : Int))) ?_
            refine st0 3904 rfl (ok (mv (.d (eI (w64 (v60 + (1 : Int))))))) ?_
            refine hK70 _ _ ?_
            simp only [n0, n1, n2, n3, n4, n5, n6, n7, n8, n9, n10, n11, n12, n13, n14, n15, n16, n17, n18, n19, reduceIte]
            exact hK61.out _ _ _ k4 (Nat.lt_succ_self k4) ⟨_, _, Settled.refl, _, _, ⟨_, _, h, rfl, rfl⟩, (by refine ⟨rfl, ⟨⟨?_, rfl⟩, ⟨⟨?_, rfl⟩, ⟨⟨?_, rfl⟩, ⟨⟨?_, rfl⟩, ⟨⟨?_, rfl⟩, ⟨⟨?_, rfl⟩, ⟨⟨?_, rfl⟩, ⟨⟨?_, rfl⟩, ⟨⟨?_, rfl⟩, ⟨⟨?_, rfl⟩, trivial⟩⟩⟩⟩⟩⟩⟩⟩⟩⟩, ⟨⟨?_, rfl⟩, ⟨⟨?_, rfl⟩, ⟨⟨?_, rfl⟩, trivial⟩⟩⟩⟩ <;> first | rfl | (exact refEq rfl (by simp) rfl (by simp)) | simp [envE, Mem.get, liftE, liftV, rhoOf, rhoE, rhoM, appN, PV.refs, PV.refsL, Blk.refs, PV.ren, PV.renL, Blk.ren]), rfl⟩
          · replace h := ite_f h h65
            refine rwp_f (isF h65) ?_
            refine rwp_exit ?_
            refine hK58 _ _ _ ?_
            exact hK23 _ _ _ ⟨_, _, Settled.refl, _, _, ⟨_, h, rfl, rfl⟩, ⟨rfl, ⟨⟨rfl, rfl⟩, ⟨⟨rfl, rfl⟩, ⟨⟨rfl, rfl⟩, ⟨⟨rfl, rfl⟩, ⟨⟨rfl, rfl⟩, ⟨⟨rfl, rfl⟩, ⟨⟨rfl, rfl⟩, ⟨⟨rfl, rfl⟩, ⟨⟨rfl, rfl⟩, trivial⟩⟩⟩⟩⟩⟩⟩⟩⟩, ⟨⟨rfl, rfl⟩, ⟨⟨rfl, rfl⟩, ⟨⟨rfl, rfl⟩, trivial⟩⟩⟩⟩, rfl⟩
  · refine rwp_region fun K71 hK71 => ?_
    refine st0 192 rfl (ok (mv (.d (eS a2)))) ?_
    refine st0 256 rfl (ok (lenS _)) ?_
    refine st0 320 rfl (ok (gtrI _ (300 : Int))) ?_
    refine st0 384 rfl (ok (mv (.d (eB (decide ((300 : Int) < (a2.length : Int))))))) ?_
    rcases Bool.eq_false_or_eq_true ((decide ((300 : Int) < (a2.length : Int)))) with h72 | h72
    · replace h := ite_t h h72
      refine stGN 448 rfl rfl h72 ?_
      refine stGN 512 rfl rfl h72 ?_
      refine stGN 576 rfl rfl h72 ?_
      refine st0 640 rfl (ok (pick_t h72 (.d (eB true)) _)) ?_
      refine hK71 _ _ ?_
      simp only [n0, n1, n2, n3, n4, n5, n6, n7, n8, n9, n10, n11, n12, n13, n14, n15, n16, n17, n18, n19, reduceIte]
      exact hK5 _ _ _ ⟨_, _, Settled.refl, _, _, ⟨_, h, rfl, rfl⟩, ⟨rfl, ⟨⟨rfl, rfl⟩, ⟨⟨rfl, rfl⟩, ⟨⟨rfl, rfl⟩, ⟨⟨rfl, rfl⟩, ⟨⟨rfl, rfl⟩, ⟨⟨rfl, rfl⟩, trivial⟩⟩⟩⟩⟩⟩, trivial⟩, rfl⟩
    · replace h := ite_f h h72
      refine stG (isF h72) ?_
      refine st0 448 rfl (ok (mv (.d ((eL 1 eU8) a3)))) ?_
      refine stG (isF h72) ?_
      refine st0 512 rfl (ok (lenL _ _)) ?_
      refine stG (isF h72) ?_
      refine st0 576 rfl (ok (gtrI _ (300 : Int))) ?_
      refine st0 640 rfl (ok (pick_f h72 _ (.d (eB (decide ((300 : Int) < (a3.length : Int))))))) ?_
      refine hK71 _ _ ?_
      simp only [n0, n1, n2, n3, n4, n5, n6, n7, n8, n9, n10, n11, n12, n13, n14, n15, n16, n17, n18, n19, reduceIte]
      exact hK5 _ _ _ ⟨_, _, Settled.refl, _, _, ⟨_, h, rfl, rfl⟩, ⟨rfl, ⟨⟨rfl, rfl⟩, ⟨⟨rfl, rfl⟩, ⟨⟨rfl, rfl⟩, ⟨⟨rfl, rfl⟩, ⟨⟨rfl, rfl⟩, ⟨⟨rfl, rfl⟩, trivial⟩⟩⟩⟩⟩⟩, trivial⟩, rfl⟩

end Go.Proofs.Ty
