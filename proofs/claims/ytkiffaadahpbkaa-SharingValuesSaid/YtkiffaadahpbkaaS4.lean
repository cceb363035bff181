/- Each Go function comes to what its plain function says. PRINTED by a program of this session (ty.py). -/
import Derived.Test.YtkiffaadahpbkaaS3
set_option linter.unusedVariables false
set_option linter.unusedSimpArgs false
set_option maxHeartbeats 4000000
set_option maxRecDepth 10000
namespace Go.Proofs.Ty
open Go Go.RW Go.Proofs
/-- passkey/passkeylaw37.SharingField -/
def passkeylaw37SharingFieldH : Hints := ⟨[(0, [0, 1, 2]), (1, [0, 1, 2, 7]), (2, [6])], []⟩
def passkeylaw37SharingFieldRc : RCode :=
  .seq (.region false [⟨some 6, .mv, [.k (.d (.bool false))], none, []⟩] [0, 1, 2]) (.seq (.region false [⟨some 8, .mv, [.t 0], none, []⟩, ⟨some 9, .mv, [.t 1], none, []⟩, ⟨some 10,
  .call 9 false, [.t 8, .t 9], none, []⟩, ⟨some 7, .mv, [.t 10], none, []⟩] [0, 1, 2, 7]) (.seq (.region false [⟨some 11, .mv, [.t 7], none, []⟩, ⟨some 12, .mv, [.t 0], none, []⟩,
  ⟨some 13, .mv, [.t 1], none, []⟩, ⟨some 14, .call 10 false, [.t 12, .t 13], none, []⟩, ⟨some 15, .bin .eql, [.t 11, .t 14], none, []⟩, ⟨some 16, .mv, [.t 15], none, []⟩, ⟨some
  17, .mv, [.t 7], some (16, true), []⟩, ⟨some 18, .mv, [.t 1], some (16, true), []⟩, ⟨some 19, .mv, [.t 0], some (16, true), []⟩, ⟨some 20, .call 9 false, [.t 18, .t 19], some
  (16, true), []⟩, ⟨some 21, .bin .eql, [.t 17, .t 20], some (16, true), []⟩, ⟨some 22, .pick, [.t 16, .t 21, .k (.d (.bool false))], none, []⟩, ⟨some 23, .mv, [.t 22], none, []⟩,
  ⟨some 24, .mv, [.t 7], some (23, true), []⟩, ⟨some 25, .mv, [.t 2], some (23, true), []⟩, ⟨some 26, .call 9 false, [.t 24, .t 25], some (23, true), []⟩, ⟨some 27, .mv, [.t 0],
  some (23, true), []⟩, ⟨some 28, .mv, [.t 1], some (23, true), []⟩, ⟨some 29, .mv, [.t 2], some (23, true), []⟩, ⟨some 30, .call 9 false, [.t 28, .t 29], some (23, true), []⟩,
  ⟨some 31, .call 9 false, [.t 27, .t 30], some (23, true), []⟩, ⟨some 32, .bin .eql, [.t 26, .t 31], some (23, true), []⟩, ⟨some 33, .pick, [.t 23, .t 32, .k (.d (.bool false))],
  none, []⟩, ⟨some 34, .mv, [.t 33], none, []⟩, ⟨some 35, .mv, [.t 0], some (34, true), []⟩, ⟨some 36, .mv, [.t 1], some (34, true), []⟩, ⟨some 37, .mv, [.t 2], some (34, true),
  []⟩, ⟨some 38, .bin .xor, [.t 36, .t 37], some (34, true), []⟩, ⟨some 39, .call 9 false, [.t 35, .t 38], some (34, true), []⟩, ⟨some 40, .mv, [.t 7], some (34, true), []⟩, ⟨some
  41, .mv, [.t 0], some (34, true), []⟩, ⟨some 42, .mv, [.t 2], some (34, true), []⟩, ⟨some 43, .call 9 false, [.t 41, .t 42], some (34, true), []⟩, ⟨some 44, .bin .xor, [.t 40, .t
  43], some (34, true), []⟩, ⟨some 45, .bin .eql, [.t 39, .t 44], some (34, true), []⟩, ⟨some 46, .pick, [.t 34, .t 45, .k (.d (.bool false))], none, []⟩, ⟨some 47, .mv, [.t 46],
  none, []⟩, ⟨some 48, .mv, [.t 0], some (47, true), []⟩, ⟨some 49, .call 9 false, [.t 48, .k (.d (.int .u8 1))], some (47, true), []⟩, ⟨some 50, .mv, [.t 0], some (47, true), []⟩,
  ⟨some 51, .bin .eql, [.t 49, .t 50], some (47, true), []⟩, ⟨some 52, .pick, [.t 47, .t 51, .k (.d (.bool false))], none, []⟩, ⟨some 53, .mv, [.t 52], none, []⟩, ⟨some 54, .mv,
  [.t 0], some (53, true), []⟩, ⟨some 55, .call 9 false, [.t 54, .k (.d (.int .u8 0))], some (53, true), []⟩, ⟨some 56, .bin .eql, [.t 55, .k (.d (.int .u8 0))], some (53, true),
  []⟩, ⟨some 57, .pick, [.t 53, .t 56, .k (.d (.bool false))], none, []⟩, ⟨some 58, .mv, [.t 57], none, []⟩, ⟨some 59, .mv, [.t 0], some (58, true), []⟩, ⟨some 60, .call 11 false,
  [.t 59], some (58, true), []⟩, ⟨some 61, .mv, [.t 0], some (58, true), []⟩, ⟨some 62, .call 12 false, [.t 61], some (58, true), []⟩, ⟨some 63, .bin .eql, [.t 60, .t 62], some
  (58, true), []⟩, ⟨some 64, .pick, [.t 58, .t 63, .k (.d (.bool false))], none, []⟩, ⟨some 65, .mv, [.t 64], none, []⟩, ⟨some 66, .mv, [.t 0], some (65, true), []⟩, ⟨some 67, .bin
  .eql, [.t 66, .k (.d (.int .u8 0))], some (65, true), []⟩, ⟨some 68, .mv, [.t 67], some (65, true), []⟩, ⟨some 69, .mv, [.t 0], some (68, false), []⟩, ⟨some 70, .mv, [.t 0], some
  (68, false), []⟩, ⟨some 71, .call 11 false, [.t 70], some (68, false), []⟩, ⟨some 72, .call 9 false, [.t 69, .t 71], some (68, false), []⟩, ⟨some 73, .bin .eql, [.t 72, .k (.d
  (.int .u8 1))], some (68, false), []⟩, ⟨some 74, .pick, [.t 68, .k (.d (.bool true)), .t 73], some (65, true), []⟩, ⟨some 75, .pick, [.t 65, .t 74, .k (.d (.bool false))], none,
  []⟩, ⟨some 76, .mv, [.t 75], none, []⟩, ⟨some 77, .call 13 false, [], some (76, true), []⟩, ⟨some 78, .pick, [.t 76, .t 77, .k (.d (.bool false))], none, []⟩, ⟨some 6, .mv, [.t
  78], none, []⟩] [6]) .ret))
def passkeylaw37SharingFieldRr : List RR := [.t 6]
theorem passkeylaw37SharingFieldC : compFn Try.prog 3 passkeylaw37SharingFieldH = some (passkeylaw37SharingFieldRc, passkeylaw37SharingFieldRr, 79) := by kernel_rfl
theorem passkeylaw37SharingFieldOK (a0 : BitVec 8) (a1 : BitVec 8) (a2 : BitVec 8) (res : Bool) (h : passkeylaw37SharingField a0 a1 a2 = some res) : CallOK Try.prog 3 [.d (eU8 a0), .d (eU8 a1), .d (eU8 a2)] [] (.d (eB res)) [] := by
  unfold passkeylaw37SharingField at h
  refine callOK passkeylaw37SharingFieldC fm rfl ?_
  simp only [initE, initM, nbor, List.map_cons, List.map_nil, Nat.reduceAdd]
  unfold passkeylaw37SharingFieldRc
  refine rwp_seq fun K1 hK1 => ?_
  refine rwp_region fun K2 hK2 => ?_
  refine st0 128 rfl (ok (mv (.d (eB false)))) ?_
  refine hK2 _ _ ?_
  simp only [thenK, blockK, keepE, updM, List.filter_cons, List.filter_nil, List.nil_append, List.cons_append, List.map_cons, List.map_nil, envE, Mem.get, Nat.reduceEqDiff, reduceIte, Option.isNone_none, Option.isNone_some, Bool.false_eq_true, List.length_cons, List.length_nil, Nat.reduceAdd, Nat.reduceMul]
  refine hK1 _ _ _ ?_
  refine rwp_seq fun K3 hK3 => ?_
  refine rwp_region fun K4 hK4 => ?_
  refine st0 192 rfl (ok (mv (.d (eU8 a0)))) ?_
  refine st0 256 rfl (ok (mv (.d (eU8 a1)))) ?_
  obtain ⟨y5, h6, h⟩ := bind_inv h
  refine st0 320 rfl (call_ok (v := .d (eU8 y5)) (u := []) (ar_d (eU8 a0) (ar_d (eU8 a1) ar_nil)) rfl (sharingMulOK a0 a1 y5 h6) rfl) ?_
  refine st0 384 rfl (ok (mv (.d (eU8 y5)))) ?_
  refine hK4 _ _ ?_
  simp only [thenK, blockK, keepE, updM, List.filter_cons, List.filter_nil, List.nil_append, List.cons_append, List.map_cons, List.map_nil, envE, Mem.get, Nat.reduceEqDiff, reduceIte, Option.isNone_none, Option.isNone_some, Bool.false_eq_true, List.length_cons, List.length_nil, Nat.reduceAdd, Nat.reduceMul]
  refine hK3 _ _ _ ?_
  refine rwp_seq fun K7 hK7 => ?_
  refine rwp_region fun K8 hK8 => ?_
  refine st0 448 rfl (ok (mv (.d (eU8 y5)))) ?_
  refine st0 512 rfl (ok (mv (.d (eU8 a0)))) ?_
  refine st0 576 rfl (ok (mv (.d (eU8 a1)))) ?_
  obtain ⟨y9, h10, h⟩ := bind_inv h
  refine st0 640 rfl (call_ok (v := .d (eU8 y9)) (u := []) (ar_d (eU8 a0) (ar_d (eU8 a1) ar_nil)) rfl (passkeyref37MulOK a0 a1 y9 h10) rfl) ?_
  refine st0 704 rfl (ok (eql8 _ _)) ?_
  refine st0 768 rfl (ok (mv (.d (eB (y5 == y9))))) ?_
  rcases Bool.eq_false_or_eq_true ((y5 == y9)) with h11 | h11
  · replace h := ite_t h h11
    refine stG (isT h11) ?_
    refine st0 832 rfl (ok (mv (.d (eU8 y5)))) ?_
    refine stG (isT h11) ?_
    refine st0 896 rfl (ok (mv (.d (eU8 a1)))) ?_
    refine stG (isT h11) ?_
    refine st0 960 rfl (ok (mv (.d (eU8 a0)))) ?_
    refine stG (isT h11) ?_
    obtain ⟨y12, h13, h⟩ := bind_inv h
    refine st0 1024 rfl (call_ok (v := .d (eU8 y12)) (u := []) (ar_d (eU8 a1) (ar_d (eU8 a0) ar_nil)) rfl (sharingMulOK a1 a0 y12 h13) rfl) ?_
    refine stG (isT h11) ?_
    refine st0 1088 rfl (ok (eql8 _ _)) ?_
    refine st0 1152 rfl (ok (pick_t h11 (.d (eB (y5 == y12))) _)) ?_
    refine st0 1216 rfl (ok (mv (.d (eB (y5 == y12))))) ?_
    rcases Bool.eq_false_or_eq_true ((y5 == y12)) with h14 | h14
    · replace h := ite_t h h14
      refine stG (isT h14) ?_
      refine st0 1280 rfl (ok (mv (.d (eU8 y5)))) ?_
      refine stG (isT h14) ?_
      refine st0 1344 rfl (ok (mv (.d (eU8 a2)))) ?_
      refine stG (isT h14) ?_
      obtain ⟨y15, h16, h⟩ := bind_inv h
      refine st0 1408 rfl (call_ok (v := .d (eU8 y15)) (u := []) (ar_d (eU8 y5) (ar_d (eU8 a2) ar_nil)) rfl (sharingMulOK y5 a2 y15 h16) rfl) ?_
      refine stG (isT h14) ?_
      refine st0 1472 rfl (ok (mv (.d (eU8 a0)))) ?_
      refine stG (isT h14) ?_
      refine st0 1536 rfl (ok (mv (.d (eU8 a1)))) ?_
      refine stG (isT h14) ?_
      refine st0 1600 rfl (ok (mv (.d (eU8 a2)))) ?_
      refine stG (isT h14) ?_
      obtain ⟨y17, h18, h⟩ := bind_inv h
      refine st0 1664 rfl (call_ok (v := .d (eU8 y17)) (u := []) (ar_d (eU8 a1) (ar_d (eU8 a2) ar_nil)) rfl (sharingMulOK a1 a2 y17 h18) rfl) ?_
      refine stG (isT h14) ?_
      obtain ⟨y19, h20, h⟩ := bind_inv h
      refine st0 1728 rfl (call_ok (v := .d (eU8 y19)) (u := []) (ar_d (eU8 a0) (ar_d (eU8 y17) ar_nil)) rfl (sharingMulOK a0 y17 y19 h20) rfl) ?_
      refine stG (isT h14) ?_
      refine st0 1792 rfl (ok (eql8 _ _)) ?_
      refine st0 1856 rfl (ok (pick_t h14 (.d (eB (y15 == y19))) _)) ?_
      refine st0 1920 rfl (ok (mv (.d (eB (y15 == y19))))) ?_
      rcases Bool.eq_false_or_eq_true ((y15 == y19)) with h21 | h21
      · replace h := ite_t h h21
        refine stG (isT h21) ?_
        refine st0 1984 rfl (ok (mv (.d (eU8 a0)))) ?_
        refine stG (isT h21) ?_
        refine st0 2048 rfl (ok (mv (.d (eU8 a1)))) ?_
        refine stG (isT h21) ?_
        refine st0 2112 rfl (ok (mv (.d (eU8 a2)))) ?_
        refine stG (isT h21) ?_
        refine st0 2176 rfl (ok (xor8 _ _)) ?_
        refine stG (isT h21) ?_
        obtain ⟨y22, h23, h⟩ := bind_inv h
        refine st0 2240 rfl (call_ok (v := .d (eU8 y22)) (u := []) (ar_d (eU8 a0) (ar_d (eU8 (a1 ^^^ a2)) ar_nil)) rfl (sharingMulOK a0 (a1 ^^^ a2) y22 h23) rfl) ?_
        refine stG (isT h21) ?_
        refine st0 2304 rfl (ok (mv (.d (eU8 y5)))) ?_
        refine stG (isT h21) ?_
        refine st0 2368 rfl (ok (mv (.d (eU8 a0)))) ?_
        refine stG (isT h21) ?_
        refine st0 2432 rfl (ok (mv (.d (eU8 a2)))) ?_
        refine stG (isT h21) ?_
        obtain ⟨y24, h25, h⟩ := bind_inv h
        refine st0 2496 rfl (call_ok (v := .d (eU8 y24)) (u := []) (ar_d (eU8 a0) (ar_d (eU8 a2) ar_nil)) rfl (sharingMulOK a0 a2 y24 h25) rfl) ?_
        refine stG (isT h21) ?_
        refine st0 2560 rfl (ok (xor8 _ _)) ?_
        refine stG (isT h21) ?_
        refine st0 2624 rfl (ok (eql8 _ _)) ?_
        refine st0 2688 rfl (ok (pick_t h21 (.d (eB (y22 == (y5 ^^^ y24)))) _)) ?_
        refine st0 2752 rfl (ok (mv (.d (eB (y22 == (y5 ^^^ y24)))))) ?_
        rcases Bool.eq_false_or_eq_true ((y22 == (y5 ^^^ y24))) with h26 | h26
        · replace h := ite_t h h26
          refine stG (isT h26) ?_
          refine st0 2816 rfl (ok (mv (.d (eU8 a0)))) ?_
          refine stG (isT h26) ?_
          obtain ⟨y27, h28, h⟩ := bind_inv h
          refine st0 2880 rfl (call_ok (v := .d (eU8 y27)) (u := []) (ar_d (eU8 a0) (ar_d (eU8 (1#8)) ar_nil)) rfl (sharingMulOK a0 (1#8) y27 h28) rfl) ?_
          refine stG (isT h26) ?_
          refine st0 2944 rfl (ok (mv (.d (eU8 a0)))) ?_
          refine stG (isT h26) ?_
          refine st0 3008 rfl (ok (eql8 _ _)) ?_
          refine st0 3072 rfl (ok (pick_t h26 (.d (eB (y27 == a0))) _)) ?_
          refine st0 3136 rfl (ok (mv (.d (eB (y27 == a0))))) ?_
          rcases Bool.eq_false_or_eq_true ((y27 == a0)) with h29 | h29
          · replace h := ite_t h h29
            refine stG (isT h29) ?_
            refine st0 3200 rfl (ok (mv (.d (eU8 a0)))) ?_
            refine stG (isT h29) ?_
            obtain ⟨y30, h31, h⟩ := bind_inv h
            refine st0 3264 rfl (call_ok (v := .d (eU8 y30)) (u := []) (ar_d (eU8 a0) (ar_d (eU8 (0#8)) ar_nil)) rfl (sharingMulOK a0 (0#8) y30 h31) rfl) ?_
            refine stG (isT h29) ?_
            refine st0 3328 rfl (ok (eql8 _ (0#8))) ?_
            refine st0 3392 rfl (ok (pick_t h29 (.d (eB (y30 == (0#8)))) _)) ?_
            refine st0 3456 rfl (ok (mv (.d (eB (y30 == (0#8)))))) ?_
            rcases Bool.eq_false_or_eq_true ((y30 == (0#8))) with h32 | h32
            · replace h := ite_t h h32
              refine stG (isT h32) ?_
              refine st0 3520 rfl (ok (mv (.d (eU8 a0)))) ?_
              refine stG (isT h32) ?_
              obtain ⟨y33, h34, h⟩ := bind_inv h
              refine st0 3584 rfl (call_ok (v := .d (eU8 y33)) (u := []) (ar_d (eU8 a0) ar_nil) rfl (sharingInverseOK a0 y33 h34) rfl) ?_
              refine stG (isT h32) ?_
              refine st0 3648 rfl (ok (mv (.d (eU8 a0)))) ?_
              refine stG (isT h32) ?_
              obtain ⟨y35, h36, h⟩ := bind_inv h
              refine st0 3712 rfl (call_ok (v := .d (eU8 y35)) (u := []) (ar_d (eU8 a0) ar_nil) rfl (passkeyref37InverseOK a0 y35 h36) rfl) ?_
              refine stG (isT h32) ?_
              refine st0 3776 rfl (ok (eql8 _ _)) ?_
              refine st0 3840 rfl (ok (pick_t h32 (.d (eB (y33 == y35))) _)) ?_
              refine st0 3904 rfl (ok (mv (.d (eB (y33 == y35))))) ?_
              rcases Bool.eq_false_or_eq_true ((y33 == y35)) with h37 | h37
              · replace h := ite_t h h37
                refine stG (isT h37) ?_
                refine st0 3968 rfl (ok (mv (.d (eU8 a0)))) ?_
                refine stG (isT h37) ?_
                refine st0 4032 rfl (ok (eql8 _ (0#8))) ?_
                refine stG (isT h37) ?_
                refine st0 4096 rfl (ok (mv (.d (eB (a0 == (0#8)))))) ?_
                rcases Bool.eq_false_or_eq_true ((a0 == (0#8))) with h38 | h38
                · replace h := ite_t h h38
                  refine stGN 4160 rfl rfl h38 ?_
                  refine stGN 4224 rfl rfl h38 ?_
                  refine stGN 4288 rfl rfl h38 ?_
                  refine stGN 4352 rfl rfl h38 ?_
                  refine stGN 4416 rfl rfl h38 ?_
                  refine stG (isT h37) ?_
                  refine st0 4480 rfl (ok (pick_t h38 (.d (eB true)) _)) ?_
                  refine st0 4544 rfl (ok (pick_t h37 (.d (eB true)) _)) ?_
                  refine st0 4608 rfl (ok (mv (.d (eB true)))) ?_
                  refine stG rfl ?_
                  obtain ⟨y39, h40, h⟩ := bind_inv h
                  refine st0 4672 rfl (call_ok (v := .d (eB y39)) (u := []) ar_nil rfl (passkeylaw37awakeOK  y39 h40) rfl) ?_
                  refine st0 4736 rfl (ok (pick_t rfl (.d (eB y39)) _)) ?_
                  refine st0 4800 rfl (ok (mv (.d (eB y39)))) ?_
                  refine hK8 _ _ ?_
                  simp only [thenK, blockK, keepE, updM, List.filter_cons, List.filter_nil, List.nil_append, List.cons_append, List.map_cons, List.map_nil, envE, Mem.get, Nat.reduceEqDiff, reduceIte, Option.isNone_none, Option.isNone_some, Bool.false_eq_true, List.length_cons, List.length_nil, Nat.reduceAdd, Nat.reduceMul]
                  refine hK7 _ _ _ ?_
                  refine rwp_ret ?_
                  obtain rfl := Option.some.inj h
                  try simp only [thenK, blockK, reduceIte]
                  exact Or.inl (end_ok trivial (rs_t (v := .d (eB y39)) rfl rs_nil) (en_d (to_d _) en_nil) ou_nil (by first | exact eok rfl rfl rfl rfl trivial | (refine eok ?_ ?_ ?_ ?_ ?_ <;> first | rfl | exact trivial | simp [retM, Mem.get, PV.renL, PV.ren, Blk.ren, comps, rhoR, rhoM, appN, PV.refsL, PV.refs, keys, nodupB, Blk.refs, allIn, Blk.bor])))
                · replace h := ite_f h h38
                  refine stG (isF h38) ?_
                  refine st0 4160 rfl (ok (mv (.d (eU8 a0)))) ?_
                  refine stG (isF h38) ?_
                  refine st0 4224 rfl (ok (mv (.d (eU8 a0)))) ?_
                  refine stG (isF h38) ?_
                  obtain ⟨y41, h42, h⟩ := bind_inv h
                  refine st0 4288 rfl (call_ok (v := .d (eU8 y41)) (u := []) (ar_d (eU8 a0) ar_nil) rfl (sharingInverseOK a0 y41 h42) rfl) ?_
                  refine stG (isF h38) ?_
                  obtain ⟨y43, h44, h⟩ := bind_inv h
                  refine st0 4352 rfl (call_ok (v := .d (eU8 y43)) (u := []) (ar_d (eU8 a0) (ar_d (eU8 y41) ar_nil)) rfl (sharingMulOK a0 y41 y43 h44) rfl) ?_
                  refine stG (isF h38) ?_
                  refine st0 4416 rfl (ok (eql8 _ (1#8))) ?_
                  refine stG (isT h37) ?_
                  refine st0 4480 rfl (ok (pick_f h38 _ (.d (eB (y43 == (1#8)))))) ?_
                  refine st0 4544 rfl (ok (pick_t h37 (.d (eB (y43 == (1#8)))) _)) ?_
                  refine st0 4608 rfl (ok (mv (.d (eB (y43 == (1#8)))))) ?_
                  rcases Bool.eq_false_or_eq_true ((y43 == (1#8))) with h45 | h45
                  · replace h := ite_t h h45
                    refine stG (isT h45) ?_
                    obtain ⟨y46, h47, h⟩ := bind_inv h
                    refine st0 4672 rfl (call_ok (v := .d (eB y46)) (u := []) ar_nil rfl (passkeylaw37awakeOK  y46 h47) rfl) ?_
                    refine st0 4736 rfl (ok (pick_t h45 (.d (eB y46)) _)) ?_
                    refine st0 4800 rfl (ok (mv (.d (eB y46)))) ?_
                    refine hK8 _ _ ?_
                    simp only [thenK, blockK, keepE, updM, List.filter_cons, List.filter_nil, List.nil_append, List.cons_append, List.map_cons, List.map_nil, envE, Mem.get, Nat.reduceEqDiff, reduceIte, Option.isNone_none, Option.isNone_some, Bool.false_eq_true, List.length_cons, List.length_nil, Nat.reduceAdd, Nat.reduceMul]
                    refine hK7 _ _ _ ?_
                    refine rwp_ret ?_
                    obtain rfl := Option.some.inj h
                    try simp only [thenK, blockK, reduceIte]
                    exact Or.inl (end_ok trivial (rs_t (v := .d (eB y46)) rfl rs_nil) (en_d (to_d _) en_nil) ou_nil (by first | exact eok rfl rfl rfl rfl trivial | (refine eok ?_ ?_ ?_ ?_ ?_ <;> first | rfl | exact trivial | simp [retM, Mem.get, PV.renL, PV.ren, Blk.ren, comps, rhoR, rhoM, appN, PV.refsL, PV.refs, keys, nodupB, Blk.refs, allIn, Blk.bor])))
                  · replace h := ite_f h h45
                    refine stGN 4672 rfl rfl h45 ?_
                    refine st0 4736 rfl (ok (pick_f h45 _ (.d (eB false)))) ?_
                    refine st0 4800 rfl (ok (mv (.d (eB false)))) ?_
                    refine hK8 _ _ ?_
                    simp only [thenK, blockK, keepE, updM, List.filter_cons, List.filter_nil, List.nil_append, List.cons_append, List.map_cons, List.map_nil, envE, Mem.get, Nat.reduceEqDiff, reduceIte, Option.isNone_none, Option.isNone_some, Bool.false_eq_true, List.length_cons, List.length_nil, Nat.reduceAdd, Nat.reduceMul]
                    refine hK7 _ _ _ ?_
                    refine rwp_ret ?_
                    obtain rfl := Option.some.inj h
                    try simp only [thenK, blockK, reduceIte]
                    exact Or.inl (end_ok trivial (rs_t (v := .d (eB false)) rfl rs_nil) (en_d (to_d _) en_nil) ou_nil (by first | exact eok rfl rfl rfl rfl trivial | (refine eok ?_ ?_ ?_ ?_ ?_ <;> first | rfl | exact trivial | simp [retM, Mem.get, PV.renL, PV.ren, Blk.ren, comps, rhoR, rhoM, appN, PV.refsL, PV.refs, keys, nodupB, Blk.refs, allIn, Blk.bor])))
              · replace h := ite_f h h37
                refine stGN 3968 rfl rfl h37 ?_
                refine stGN 4032 rfl rfl h37 ?_
                refine stGN 4096 rfl rfl h37 ?_
                refine stGS 4160 rfl rfl ?_
                refine stGS 4224 rfl rfl ?_
                refine stGS 4288 rfl rfl ?_
                refine stGS 4352 rfl rfl ?_
                refine stGS 4416 rfl rfl ?_
                refine stGN 4480 rfl rfl h37 ?_
                refine st0 4544 rfl (ok (pick_f h37 _ (.d (eB false)))) ?_
                refine st0 4608 rfl (ok (mv (.d (eB false)))) ?_
                refine stGN 4672 rfl rfl rfl ?_
                refine st0 4736 rfl (ok (pick_f rfl _ (.d (eB false)))) ?_
                refine st0 4800 rfl (ok (mv (.d (eB false)))) ?_
                refine hK8 _ _ ?_
                simp only [thenK, blockK, keepE, updM, List.filter_cons, List.filter_nil, List.nil_append, List.cons_append, List.map_cons, List.map_nil, envE, Mem.get, Nat.reduceEqDiff, reduceIte, Option.isNone_none, Option.isNone_some, Bool.false_eq_true, List.length_cons, List.length_nil, Nat.reduceAdd, Nat.reduceMul]
                refine hK7 _ _ _ ?_
                refine rwp_ret ?_
                obtain rfl := Option.some.inj h
                try simp only [thenK, blockK, reduceIte]
                exact Or.inl (end_ok trivial (rs_t (v := .d (eB false)) rfl rs_nil) (en_d (to_d _) en_nil) ou_nil (by first | exact eok rfl rfl rfl rfl trivial | (refine eok ?_ ?_ ?_ ?_ ?_ <;> first | rfl | exact trivial | simp [retM, Mem.get, PV.renL, PV.ren, Blk.ren, comps, rhoR, rhoM, appN, PV.refsL, PV.refs, keys, nodupB, Blk.refs, allIn, Blk.bor])))
            · replace h := ite_f h h32
              refine stGN 3520 rfl rfl h32 ?_
              refine stGN 3584 rfl rfl h32 ?_
              refine stGN 3648 rfl rfl h32 ?_
              refine stGN 3712 rfl rfl h32 ?_
              refine stGN 3776 rfl rfl h32 ?_
              refine st0 3840 rfl (ok (pick_f h32 _ (.d (eB false)))) ?_
              refine st0 3904 rfl (ok (mv (.d (eB false)))) ?_
              refine stGN 3968 rfl rfl rfl ?_
              refine stGN 4032 rfl rfl rfl ?_
              refine stGN 4096 rfl rfl rfl ?_
              refine stGS 4160 rfl rfl ?_
              refine stGS 4224 rfl rfl ?_
              refine stGS 4288 rfl rfl ?_
              refine stGS 4352 rfl rfl ?_
              refine stGS 4416 rfl rfl ?_
              refine stGN 4480 rfl rfl rfl ?_
              refine st0 4544 rfl (ok (pick_f rfl _ (.d (eB false)))) ?_
              refine st0 4608 rfl (ok (mv (.d (eB false)))) ?_
              refine stGN 4672 rfl rfl rfl ?_
              refine st0 4736 rfl (ok (pick_f rfl _ (.d (eB false)))) ?_
              refine st0 4800 rfl (ok (mv (.d (eB false)))) ?_
              refine hK8 _ _ ?_
              simp only [thenK, blockK, keepE, updM, List.filter_cons, List.filter_nil, List.nil_append, List.cons_append, List.map_cons, List.map_nil, envE, Mem.get, Nat.reduceEqDiff, reduceIte, Option.isNone_none, Option.isNone_some, Bool.false_eq_true, List.length_cons, List.length_nil, Nat.reduceAdd, Nat.reduceMul]
              refine hK7 _ _ _ ?_
              refine rwp_ret ?_
              obtain rfl := Option.some.inj h
              try simp only [thenK, blockK, reduceIte]
              exact Or.inl (end_ok trivial (rs_t (v := .d (eB false)) rfl rs_nil) (en_d (to_d _) en_nil) ou_nil (by first | exact eok rfl rfl rfl rfl trivial | (refine eok ?_ ?_ ?_ ?_ ?_ <;> first | rfl | exact trivial | simp [retM, Mem.get, PV.renL, PV.ren, Blk.ren, comps, rhoR, rhoM, appN, PV.refsL, PV.refs, keys, nodupB, Blk.refs, allIn, Blk.bor])))
          · replace h := ite_f h h29
            refine stGN 3200 rfl rfl h29 ?_
            refine stGN 3264 rfl rfl h29 ?_
            refine stGN 3328 rfl rfl h29 ?_
            refine st0 3392 rfl (ok (pick_f h29 _ (.d (eB false)))) ?_
            refine st0 3456 rfl (ok (mv (.d (eB false)))) ?_
            refine stGN 3520 rfl rfl rfl ?_
            refine stGN 3584 rfl rfl rfl ?_
            refine stGN 3648 rfl rfl rfl ?_
            refine stGN 3712 rfl rfl rfl ?_
            refine stGN 3776 rfl rfl rfl ?_
            refine st0 3840 rfl (ok (pick_f rfl _ (.d (eB false)))) ?_
            refine st0 3904 rfl (ok (mv (.d (eB false)))) ?_
            refine stGN 3968 rfl rfl rfl ?_
            refine stGN 4032 rfl rfl rfl ?_
            refine stGN 4096 rfl rfl rfl ?_
            refine stGS 4160 rfl rfl ?_
            refine stGS 4224 rfl rfl ?_
            refine stGS 4288 rfl rfl ?_
            refine stGS 4352 rfl rfl ?_
            refine stGS 4416 rfl rfl ?_
            refine stGN 4480 rfl rfl rfl ?_
            refine st0 4544 rfl (ok (pick_f rfl _ (.d (eB false)))) ?_
            refine st0 4608 rfl (ok (mv (.d (eB false)))) ?_
            refine stGN 4672 rfl rfl rfl ?_
            refine st0 4736 rfl (ok (pick_f rfl _ (.d (eB false)))) ?_
            refine st0 4800 rfl (ok (mv (.d (eB false)))) ?_
            refine hK8 _ _ ?_
            simp only [thenK, blockK, keepE, updM, List.filter_cons, List.filter_nil, List.nil_append, List.cons_append, List.map_cons, List.map_nil, envE, Mem.get, Nat.reduceEqDiff, reduceIte, Option.isNone_none, Option.isNone_some, Bool.false_eq_true, List.length_cons, List.length_nil, Nat.reduceAdd, Nat.reduceMul]
            refine hK7 _ _ _ ?_
            refine rwp_ret ?_
            obtain rfl := Option.some.inj h
            try simp only [thenK, blockK, reduceIte]
            exact Or.inl (end_ok trivial (rs_t (v := .d (eB false)) rfl rs_nil) (en_d (to_d _) en_nil) ou_nil (by first | exact eok rfl rfl rfl rfl trivial | (refine eok ?_ ?_ ?_ ?_ ?_ <;> first | rfl | exact trivial | simp [retM, Mem.get, PV.renL, PV.ren, Blk.ren, comps, rhoR, rhoM, appN, PV.refsL, PV.refs, keys, nodupB, Blk.refs, allIn, Blk.bor])))
        · replace h := ite_f h h26
          refine stGN 2816 rfl rfl h26 ?_
          refine stGN 2880 rfl rfl h26 ?_
          refine stGN 2944 rfl rfl h26 ?_
          refine stGN 3008 rfl rfl h26 ?_
          refine st0 3072 rfl (ok (pick_f h26 _ (.d (eB false)))) ?_
          refine st0 3136 rfl (ok (mv (.d (eB false)))) ?_
          refine stGN 3200 rfl rfl rfl ?_
          refine stGN 3264 rfl rfl rfl ?_
          refine stGN 3328 rfl rfl rfl ?_
          refine st0 3392 rfl (ok (pick_f rfl _ (.d (eB false)))) ?_
          refine st0 3456 rfl (ok (mv (.d (eB false)))) ?_
          refine stGN 3520 rfl rfl rfl ?_
          refine stGN 3584 rfl rfl rfl ?_
          refine stGN 3648 rfl rfl rfl ?_
          refine stGN 3712 rfl rfl rfl ?_
          refine stGN 3776 rfl rfl rfl ?_
          refine st0 3840 rfl (ok (pick_f rfl _ (.d (eB false)))) ?_
          refine st0 3904 rfl (ok (mv (.d (eB false)))) ?_
          refine stGN 3968 rfl rfl rfl ?_
          refine stGN 4032 rfl rfl rfl ?_
          refine stGN 4096 rfl rfl rfl ?_
          refine stGS 4160 rfl rfl ?_
          refine stGS 4224 rfl rfl ?_
          refine stGS 4288 rfl rfl ?_
          refine stGS 4352 rfl rfl ?_
          refine stGS 4416 rfl rfl ?_
          refine stGN 4480 rfl rfl rfl ?_
          refine st0 4544 rfl (ok (pick_f rfl _ (.d (eB false)))) ?_
          refine st0 4608 rfl (ok (mv (.d (eB false)))) ?_
          refine stGN 4672 rfl rfl rfl ?_
          refine st0 4736 rfl (ok (pick_f rfl _ (.d (eB false)))) ?_
          refine st0 4800 rfl (ok (mv (.d (eB false)))) ?_
          refine hK8 _ _ ?_
          simp only [thenK, blockK, keepE, updM, List.filter_cons, List.filter_nil, List.nil_append, List.cons_append, List.map_cons, List.map_nil, envE, Mem.get, Nat.reduceEqDiff, reduceIte, Option.isNone_none, Option.isNone_some, Bool.false_eq_true, List.length_cons, List.length_nil, Nat.reduceAdd, Nat.reduceMul]
          refine hK7 _ _ _ ?_
          refine rwp_ret ?_
          obtain rfl := Option.some.inj h
          try simp only [thenK, blockK, reduceIte]
          exact Or.inl (end_ok trivial (rs_t (v := .d (eB false)) rfl rs_nil) (en_d (to_d _) en_nil) ou_nil (by first | exact eok rfl rfl rfl rfl trivial | (refine eok ?_ ?_ ?_ ?_ ?_ <;> first | rfl | exact trivial | simp [retM, Mem.get, PV.renL, PV.ren, Blk.ren, comps, rhoR, rhoM, appN, PV.refsL, PV.refs, keys, nodupB, Blk.refs, allIn, Blk.bor])))
      · replace h := ite_f h h21
        refine stGN 1984 rfl rfl h21 ?_
        refine stGN 2048 rfl rfl h21 ?_
        refine stGN 2112 rfl rfl h21 ?_
        refine stGN 2176 rfl rfl h21 ?_
        refine stGN 2240 rfl rfl h21 ?_
        refine stGN 2304 rfl rfl h21 ?_
        refine stGN 2368 rfl rfl h21 ?_
        refine stGN 2432 rfl rfl h21 ?_
        refine stGN 2496 rfl rfl h21 ?_
        refine stGN 2560 rfl rfl h21 ?_
        refine stGN 2624 rfl rfl h21 ?_
        refine st0 2688 rfl (ok (pick_f h21 _ (.d (eB false)))) ?_
        refine st0 2752 rfl (ok (mv (.d (eB false)))) ?_
        refine stGN 2816 rfl rfl rfl ?_
        refine stGN 2880 rfl rfl rfl ?_
        refine stGN 2944 rfl rfl rfl ?_
        refine stGN 3008 rfl rfl rfl ?_
        refine st0 3072 rfl (ok (pick_f rfl _ (.d (eB false)))) ?_
        refine st0 3136 rfl (ok (mv (.d (eB false)))) ?_
        refine stGN 3200 rfl rfl rfl ?_
        refine stGN 3264 rfl rfl rfl ?_
        refine stGN 3328 rfl rfl rfl ?_
        refine st0 3392 rfl (ok (pick_f rfl _ (.d (eB false)))) ?_
        refine st0 3456 rfl (ok (mv (.d (eB false)))) ?_
        refine stGN 3520 rfl rfl rfl ?_
        refine stGN 3584 rfl rfl rfl ?_
        refine stGN 3648 rfl rfl rfl ?_
        refine stGN 3712 rfl rfl rfl ?_
        refine stGN 3776 rfl rfl rfl ?_
        refine st0 3840 rfl (ok (pick_f rfl _ (.d (eB false)))) ?_
        refine st0 3904 rfl (ok (mv (.d (eB false)))) ?_
        refine stGN 3968 rfl rfl rfl ?_
        refine stGN 4032 rfl rfl rfl ?_
        refine stGN 4096 rfl rfl rfl ?_
        refine stGS 4160 rfl rfl ?_
        refine stGS 4224 rfl rfl ?_
        refine stGS 4288 rfl rfl ?_
        refine stGS 4352 rfl rfl ?_
        refine stGS 4416 rfl rfl ?_
        refine stGN 4480 rfl rfl rfl ?_
        refine st0 4544 rfl (ok (pick_f rfl _ (.d (eB false)))) ?_
        refine st0 4608 rfl (ok (mv (.d (eB false)))) ?_
        refine stGN 4672 rfl rfl rfl ?_
        refine st0 4736 rfl (ok (pick_f rfl _ (.d (eB false)))) ?_
        refine st0 4800 rfl (ok (mv (.d (eB false)))) ?_
        refine hK8 _ _ ?_
        simp only [thenK, blockK, keepE, updM, List.filter_cons, List.filter_nil, List.nil_append, List.cons_append, List.map_cons, List.map_nil, envE, Mem.get, Nat.reduceEqDiff, reduceIte, Option.isNone_none, Option.isNone_some, Bool.false_eq_true, List.length_cons, List.length_nil, Nat.reduceAdd, Nat.reduceMul]
        refine hK7 _ _ _ ?_
        refine rwp_ret ?_
        obtain rfl := Option.some.inj h
        try simp only [thenK, blockK, reduceIte]
        exact Or.inl (end_ok trivial (rs_t (v := .d (eB false)) rfl rs_nil) (en_d (to_d _) en_nil) ou_nil (by first | exact eok rfl rfl rfl rfl trivial | (refine eok ?_ ?_ ?_ ?_ ?_ <;> first | rfl | exact trivial | simp [retM, Mem.get, PV.renL, PV.ren, Blk.ren, comps, rhoR, rhoM, appN, PV.refsL, PV.refs, keys, nodupB, Blk.refs, allIn, Blk.bor])))
    · replace h := ite_f h h14
      refine stGN 1280 rfl rfl h14 ?_
      refine stGN 1344 rfl rfl h14 ?_
      refine stGN 1408 rfl rfl h14 ?_
      refine stGN 1472 rfl rfl h14 ?_
      refine stGN 1536 rfl rfl h14 ?_
      refine stGN 1600 rfl rfl h14 ?_
      refine stGN 1664 rfl rfl h14 ?_
      refine stGN 1728 rfl rfl h14 ?_
      refine stGN 1792 rfl rfl h14 ?_
      refine st0 1856 rfl (ok (pick_f h14 _ (.d (eB false)))) ?_
      refine st0 1920 rfl (ok (mv (.d (eB false)))) ?_
      refine stGN 1984 rfl rfl rfl ?_
      refine stGN 2048 rfl rfl rfl ?_
      refine stGN 2112 rfl rfl rfl ?_
      refine stGN 2176 rfl rfl rfl ?_
      refine stGN 2240 rfl rfl rfl ?_
      refine stGN 2304 rfl rfl rfl ?_
      refine stGN 2368 rfl rfl rfl ?_
      refine stGN 2432 rfl rfl rfl ?_
      refine stGN 2496 rfl rfl rfl ?_
      refine stGN 2560 rfl rfl rfl ?_
      refine stGN 2624 rfl rfl rfl ?_
      refine st0 2688 rfl (ok (pick_f rfl _ (.d (eB false)))) ?_
      refine st0 2752 rfl (ok (mv (.d (eB false)))) ?_
      refine stGN 2816 rfl rfl rfl ?_
      refine stGN 2880 rfl rfl rfl ?_
      refine stGN 2944 rfl rfl rfl ?_
      refine stGN 3008 rfl rfl rfl ?_
      refine st0 3072 rfl (ok (pick_f rfl _ (.d (eB false)))) ?_
      refine st0 3136 rfl (ok (mv (.d (eB false)))) ?_
      refine stGN 3200 rfl rfl rfl ?_
      refine stGN 3264 rfl rfl rfl ?_
      refine stGN 3328 rfl rfl rfl ?_
      refine st0 3392 rfl (ok (pick_f rfl _ (.d (eB false)))) ?_
      refine st0 3456 rfl (ok (mv (.d (eB false)))) ?_
      refine stGN 3520 rfl rfl rfl ?_
      refine stGN 3584 rfl rfl rfl ?_
      refine stGN 3648 rfl rfl rfl ?_
      refine stGN 3712 rfl rfl rfl ?_
      refine stGN 3776 rfl rfl rfl ?_
      refine st0 3840 rfl (ok (pick_f rfl _ (.d (eB false)))) ?_
      refine st0 3904 rfl (ok (mv (.d (eB false)))) ?_
      refine stGN 3968 rfl rfl rfl ?_
      refine stGN 4032 rfl rfl rfl ?_
      refine stGN 4096 rfl rfl rfl ?_
      refine stGS 4160 rfl rfl ?_
      refine stGS 4224 rfl rfl ?_
      refine stGS 4288 rfl rfl ?_
      refine stGS 4352 rfl rfl ?_
      refine stGS 4416 rfl rfl ?_
      refine stGN 4480 rfl rfl rfl ?_
      refine st0 4544 rfl (ok (pick_f rfl _ (.d (eB false)))) ?_
      refine st0 4608 rfl (ok (mv (.d (eB false)))) ?_
      refine stGN 4672 rfl rfl rfl ?_
      refine st0 4736 rfl (ok (pick_f rfl _ (.d (eB false)))) ?_
      refine st0 4800 rfl (ok (mv (.d (eB false)))) ?_
      refine hK8 _ _ ?_
      simp only [thenK, blockK, keepE, updM, List.filter_cons, List.filter_nil, List.nil_append, List.cons_append, List.map_cons, List.map_nil, envE, Mem.get, Nat.reduceEqDiff, reduceIte, Option.isNone_none, Option.isNone_some, Bool.false_eq_true, List.length_cons, List.length_nil, Nat.reduceAdd, Nat.reduceMul]
      refine hK7 _ _ _ ?_
      refine rwp_ret ?_
      obtain rfl := Option.some.inj h
      try simp only [thenK, blockK, reduceIte]
      exact Or.inl (end_ok trivial (rs_t (v := .d (eB false)) rfl rs_nil) (en_d (to_d _) en_nil) ou_nil (by first | exact eok rfl rfl rfl rfl trivial | (refine eok ?_ ?_ ?_ ?_ ?_ <;> first | rfl | exact trivial | simp [retM, Mem.get, PV.renL, PV.ren, Blk.ren, comps, rhoR, rhoM, appN, PV.refsL, PV.refs, keys, nodupB, Blk.refs, allIn, Blk.bor])))
  · replace h := ite_f h h11
    refine stGN 832 rfl rfl h11 ?_
    refine stGN 896 rfl rfl h11 ?_
    refine stGN 960 rfl rfl h11 ?_
    refine stGN 1024 rfl rfl h11 ?_
    refine stGN 1088 rfl rfl h11 ?_
    refine st0 1152 rfl (ok (pick_f h11 _ (.d (eB false)))) ?_
    refine st0 1216 rfl (ok (mv (.d (eB false)))) ?_
    refine stGN 1280 rfl rfl rfl ?_
    refine stGN 1344 rfl rfl rfl ?_
    refine stGN 1408 rfl rfl rfl ?_
    refine stGN 1472 rfl rfl rfl ?_
    refine stGN 1536 rfl rfl rfl ?_
    refine stGN 1600 rfl rfl rfl ?_
    refine stGN 1664 rfl rfl rfl ?_
    refine stGN 1728 rfl rfl rfl ?_
    refine stGN 1792 rfl rfl rfl ?_
    refine st0 1856 rfl (ok (pick_f rfl _ (.d (eB false)))) ?_
    refine st0 1920 rfl (ok (mv (.d (eB false)))) ?_
    refine stGN 1984 rfl rfl rfl ?_
    refine stGN 2048 rfl rfl rfl ?_
    refine stGN 2112 rfl rfl rfl ?_
    refine stGN 2176 rfl rfl rfl ?_
    refine stGN 2240 rfl rfl rfl ?_
    refine stGN 2304 rfl rfl rfl ?_
    refine stGN 2368 rfl rfl rfl ?_
    refine stGN 2432 rfl rfl rfl ?_
    refine stGN 2496 rfl rfl rfl ?_
    refine stGN 2560 rfl rfl rfl ?_
    refine stGN 2624 rfl rfl rfl ?_
    refine st0 2688 rfl (ok (pick_f rfl _ (.d (eB false)))) ?_
    refine st0 2752 rfl (ok (mv (.d (eB false)))) ?_
    refine stGN 2816 rfl rfl rfl ?_
    refine stGN 2880 rfl rfl rfl ?_
    refine stGN 2944 rfl rfl rfl ?_
    refine stGN 3008 rfl rfl rfl ?_
    refine st0 3072 rfl (ok (pick_f rfl _ (.d (eB false)))) ?_
    refine st0 3136 rfl (ok (mv (.d (eB false)))) ?_
    refine stGN 3200 rfl rfl rfl ?_
    refine stGN 3264 rfl rfl rfl ?_
    refine stGN 3328 rfl rfl rfl ?_
    refine st0 3392 rfl (ok (pick_f rfl _ (.d (eB false)))) ?_
    refine st0 3456 rfl (ok (mv (.d (eB false)))) ?_
    refine stGN 3520 rfl rfl rfl ?_
    refine stGN 3584 rfl rfl rfl ?_
    refine stGN 3648 rfl rfl rfl ?_
    refine stGN 3712 rfl rfl rfl ?_
    refine stGN 3776 rfl rfl rfl ?_
    refine st0 3840 rfl (ok (pick_f rfl _ (.d (eB false)))) ?_
    refine st0 3904 rfl (ok (mv (.d (eB false)))) ?_
    refine stGN 3968 rfl rfl rfl ?_
    refine stGN 4032 rfl rfl rfl ?_
    refine stGN 4096 rfl rfl rfl ?_
    refine stGS 4160 rfl rfl ?_
    refine stGS 4224 rfl rfl ?_
    refine stGS 4288 rfl rfl ?_
    refine stGS 4352 rfl rfl ?_
    refine stGS 4416 rfl rfl ?_
    refine stGN 4480 rfl rfl rfl ?_
    refine st0 4544 rfl (ok (pick_f rfl _ (.d (eB false)))) ?_
    refine st0 4608 rfl (ok (mv (.d (eB false)))) ?_
    refine stGN 4672 rfl rfl rfl ?_
    refine st0 4736 rfl (ok (pick_f rfl _ (.d (eB false)))) ?_
    refine st0 4800 rfl (ok (mv (.d (eB false)))) ?_
    refine hK8 _ _ ?_
    simp only [thenK, blockK, keepE, updM, List.filter_cons, List.filter_nil, List.nil_append, List.cons_append, List.map_cons, List.map_nil, envE, Mem.get, Nat.reduceEqDiff, reduceIte, Option.isNone_none, Option.isNone_some, Bool.false_eq_true, List.length_cons, List.length_nil, Nat.reduceAdd, Nat.reduceMul]
    refine hK7 _ _ _ ?_
    refine rwp_ret ?_
    obtain rfl := Option.some.inj h
    try simp only [thenK, blockK, reduceIte]
    exact Or.inl (end_ok trivial (rs_t (v := .d (eB false)) rfl rs_nil) (en_d (to_d _) en_nil) ou_nil (by first | exact eok rfl rfl rfl rfl trivial | (refine eok ?_ ?_ ?_ ?_ ?_ <;> first | rfl | exact trivial | simp [retM, Mem.get, PV.renL, PV.ren, Blk.ren, comps, rhoR, rhoM, appN, PV.refsL, PV.refs, keys, nodupB, Blk.refs, allIn, Blk.bor])))

/-- passkey/passkeycast.Mod -/
def passkeycastModH : Hints := ⟨[(0, [0, 1]), (1, [4])], []⟩
def passkeycastModRc : RCode :=
  .seq (.region false [⟨some 4, .mv, [.k (.d (.int .i64 0))], none, []⟩] [0, 1]) (.seq (.region false [⟨some 5, .mv, [.t 0], none, []⟩, ⟨some 6, .cvt .u64, [.t 5], none, []⟩, ⟨some
  7, .mv, [.t 1], none, []⟩, ⟨some 8, .cvt .u64, [.t 7], none, []⟩, ⟨some 9, .bin .rem, [.t 6, .t 8], none, []⟩, ⟨some 10, .cvt .i64, [.t 9], none, []⟩, ⟨some 4, .mv, [.t 10],
  none, []⟩] [4]) .ret)
def passkeycastModRr : List RR := [.t 4]
theorem passkeycastModC : compFn Try.prog 14 passkeycastModH = some (passkeycastModRc, passkeycastModRr, 11) := by kernel_rfl
theorem passkeycastModOK (a0 : Int) (a1 : Int) (res : Int) (h : passkeycastMod a0 a1 = some res) : CallOK Try.prog 14 [.d (eI a0), .d (eI a1)] [] (.d (eI res)) [] := by
  unfold passkeycastMod at h
  refine callOK passkeycastModC fm rfl ?_
  simp only [initE, initM, nbor, List.map_cons, List.map_nil, Nat.reduceAdd]
  unfold passkeycastModRc
  refine rwp_seq fun K1 hK1 => ?_
  refine rwp_region fun K2 hK2 => ?_
  refine st0 128 rfl (ok (mv (.d (eI (0 : Int))))) ?_
  refine hK2 _ _ ?_
  simp only [thenK, blockK, keepE, updM, List.filter_cons, List.filter_nil, List.nil_append, List.cons_append, List.map_cons, List.map_nil, envE, Mem.get, Nat.reduceEqDiff, reduceIte, Option.isNone_none, Option.isNone_some, Bool.false_eq_true, List.length_cons, List.length_nil, Nat.reduceAdd, Nat.reduceMul]
  refine hK1 _ _ _ ?_
  refine rwp_seq fun K3 hK3 => ?_
  refine rwp_region fun K4 hK4 => ?_
  refine st0 192 rfl (ok (mv (.d (eI a0)))) ?_
  refine st0 256 rfl (ok (ofI64 _ a0)) ?_
  refine st0 320 rfl (ok (mv (.d (eI a1)))) ?_
  refine st0 384 rfl (ok (ofI64 _ a1)) ?_
  obtain ⟨h5, h⟩ := asq_inv h
  refine st0 448 rfl (ok (rem64 _ _ h5)) ?_
  refine st0 512 rfl (ok (toI64 _)) ?_
  refine st0 576 rfl (ok (mv (.d (eI (((BitVec.ofInt 64 a0) % (BitVec.ofInt 64 a1)).toInt))))) ?_
  refine hK4 _ _ ?_
  simp only [thenK, blockK, keepE, updM, List.filter_cons, List.filter_nil, List.nil_append, List.cons_append, List.map_cons, List.map_nil, envE, Mem.get, Nat.reduceEqDiff, reduceIte, Option.isNone_none, Option.isNone_some, Bool.false_eq_true, List.length_cons, List.length_nil, Nat.reduceAdd, Nat.reduceMul]
  refine hK3 _ _ _ ?_
  refine rwp_ret ?_
  obtain rfl := Option.some.inj h
  try simp only [thenK, blockK, reduceIte]
  exact Or.inl (end_ok trivial (rs_t (v := .d (eI (((BitVec.ofInt 64 a0) % (BitVec.ofInt 64 a1)).toInt))) rfl rs_nil) (en_d (to_d _) en_nil) ou_nil (by first | exact eok rfl rfl rfl rfl trivial | (refine eok ?_ ?_ ?_ ?_ ?_ <;> first | rfl | exact trivial | simp [retM, Mem.get, PV.renL, PV.ren, Blk.ren, comps, rhoR, rhoM, appN, PV.refsL, PV.refs, keys, nodupB, Blk.refs, allIn, Blk.bor])))

/-- passkey/passkeyref1.Words -/
def passkeyref1WordsH : Hints := ⟨[(0, [0]), (1, [0, 3]), (2, [0, 3, 4]), (3, [0, 3, 4, 9]), (5, [0, 3, 4, 5]), (6, [0, 3, 4, 5, 13]), (8, [0, 3, 4, 5]), (7, [0, 3, 4, 5]), (4, [0, 3, 4]), (9, [2])], []⟩
def passkeyref1WordsRc : RCode :=
  .seq (.region false [⟨some 2, .mv, [.k (.nil 1)], none, []⟩] [0]) (.seq (.region false [⟨some 3, .mv, [.k (.nil 1)], none, []⟩] [0, 3]) (.seq (.seq (.region false [⟨some 4, .mv,
  [.k (.d (.int .i64 0))], none, []⟩] [0, 3, 4]) (.block 0 (.loop [] (.seq (.seq (.region false [⟨some 6, .mv, [.t 4], none, []⟩, ⟨some 7, .mv, [.t 0], none, []⟩, ⟨some 8, .len,
  [.t 7], none, []⟩, ⟨some 9, .bin .lss, [.t 6, .t 8], none, []⟩] [0, 3, 4, 9]) (.cond (.t 9) .skip (.exit 0))) (.seq (.block 1 (.seq (.region false [⟨some 5, .mv, [.k (.d (.int
  .i64 7))], none, []⟩] [0, 3, 4, 5]) (.block 2 (.loop [] (.seq (.seq (.region false [⟨some 12, .mv, [.t 5], none, []⟩, ⟨some 13, .bin .geq, [.t 12, .k (.d (.int .i64 0))], none,
  []⟩] [0, 3, 4, 5, 13]) (.cond (.t 13) .skip (.exit 2))) (.seq (.block 3 (.region false [⟨some 16, .mv, [.t 3], none, []⟩, ⟨some 17, .mv, [.t 0], none, []⟩, ⟨some 18, .mv, [.t 4],
  none, []⟩, ⟨some 19, .ia 1, [.t 17, .t 18], none, []⟩, ⟨some 20, .load 1 false, [.t 19], none, []⟩, ⟨some 21, .mv, [.t 5], none, []⟩, ⟨some 22, .bin .mul, [.k (.d (.int .i64 8)),
  .t 21], none, []⟩, ⟨some 23, .cvt .u64, [.t 22], none, []⟩, ⟨some 24, .bin .shr, [.t 20, .t 23], none, []⟩, ⟨some 25, .cvt .u8, [.t 24], none, []⟩, ⟨some 26, .bslice 1 false 1
  [.d (.int .u8 0)] [0], [.t 25], none, []⟩, ⟨some 27, .app 1 140737488355328, [.t 16, .t 26], none, []⟩, ⟨some 3, .mv, [.t 27], none, []⟩] [0, 3, 4, 5])) (.region false [⟨some 14,
  .mv, [.t 5], none, []⟩, ⟨some 15, .bin .sub, [.t 14, .k (.d (.int .i64 1))], none, []⟩, ⟨some 5, .mv, [.t 15], none, []⟩] [0, 3, 4, 5]))))))) (.region false [⟨some 10, .mv, [.t
  4], none, []⟩, ⟨some 11, .bin .add, [.t 10, .k (.d (.int .i64 1))], none, []⟩, ⟨some 4, .mv, [.t 11], none, []⟩] [0, 3, 4])))))) (.seq (.region false [⟨some 28, .mv, [.t 3],
  none, []⟩, ⟨some 2, .mv, [.t 28], none, []⟩] [2]) .ret)))
def passkeyref1WordsRr : List RR := [.t 2]
theorem passkeyref1WordsC : compFn Try.prog 31 passkeyref1WordsH = some (passkeyref1WordsRc, passkeyref1WordsRr, 29) := by kernel_rfl
theorem passkeyref1WordsOK (a0 : List (BitVec 64)) (res : List (BitVec 8)) (h : passkeyref1Words a0 = some res) : CallOK Try.prog 31 [.d ((eL 1 eU64) a0)] [] (.ref 0 res.length 0 res.length) [(0, .row true 1 (res.map eU8))] := by
  unfold passkeyref1Words at h
  refine callOK passkeyref1WordsC fm rfl ?_
  simp only [initE, initM, nbor, List.map_cons, List.map_nil, Nat.reduceAdd]
  unfold passkeyref1WordsRc
  refine rwp_seq fun K1 hK1 => ?_
  refine rwp_region fun K2 hK2 => ?_
  refine st0 128 rfl (ok (mv (.nil 1))) ?_
  refine hK2 _ _ ?_
  simp only [thenK, blockK, keepE, updM, List.filter_cons, List.filter_nil, List.nil_append, List.cons_append, List.map_cons, List.map_nil, envE, Mem.get, Nat.reduceEqDiff, reduceIte, Option.isNone_none, Option.isNone_some, Bool.false_eq_true, List.length_cons, List.length_nil, Nat.reduceAdd, Nat.reduceMul]
  refine hK1 _ _ _ ?_
  refine rwp_seq fun K3 hK3 => ?_
  refine rwp_region fun K4 hK4 => ?_
  refine st0 192 rfl (ok (mv (.nil 1))) ?_
  refine hK4 _ _ ?_
  simp only [thenK, blockK, keepE, updM, List.filter_cons, List.filter_nil, List.nil_append, List.cons_append, List.map_cons, List.map_nil, envE, Mem.get, Nat.reduceEqDiff, reduceIte, Option.isNone_none, Option.isNone_some, Bool.false_eq_true, List.length_cons, List.length_nil, Nat.reduceAdd, Nat.reduceMul]
  refine hK3 _ _ _ ?_
  refine rwp_join ([], []) 2816 (fun env mem => ∃ (v5 : List (BitVec 8)), passkeyref1WordsJ1 v5 = some res ∧ env = [(3, .ref 2433 v5.length 0 v5.length)] ∧ mem = [(2433, .row true 1 (v5.map eU8))]) (fun _ _ hI => ?_) (fun K6 hK6 => ?_)
  · obtain ⟨v5, h, rfl, rfl⟩ := hI
    unfold passkeyref1WordsJ1 at h
    refine rwp_seq fun K7 hK7 => ?_
    refine rwp_region fun K8 hK8 => ?_
    refine st0 2880 rfl (ok (mv (.ref 2433 v5.length 0 v5.length))) ?_
    refine st0 2944 rfl (ok (mv (.ref 2433 v5.length 0 v5.length))) ?_
    refine hK8 _ _ ?_
    simp only [thenK, blockK, keepE, updM, List.filter_cons, List.filter_nil, List.nil_append, List.cons_append, List.map_cons, List.map_nil, envE, Mem.get, Nat.reduceEqDiff, reduceIte, Option.isNone_none, Option.isNone_some, Bool.false_eq_true, List.length_cons, List.length_nil, Nat.reduceAdd, Nat.reduceMul]
    refine hK7 _ _ _ ?_
    refine rwp_ret ?_
    obtain rfl := Option.some.inj h
    try simp only [thenK, blockK, reduceIte]
    exact Or.inl (end_ok trivial (rs_t (v := .ref 2433 v5.length 0 v5.length) rfl rs_nil) (en_ref en_nil) ou_nil (by first | exact eok rfl rfl rfl rfl (And.intro (And.intro rfl rfl) trivial) | (refine eok ?_ ?_ ?_ ?_ ?_ <;> first | rfl | exact (And.intro (And.intro rfl rfl) trivial) | simp [retM, Mem.get, PV.renL, PV.ren, Blk.ren, comps, rhoR, rhoM, appN, PV.refsL, PV.refs, keys, nodupB, Blk.refs, allIn, Blk.bor])))
  · refine rwp_seq fun K9 hK9 => ?_
    refine rwp_region fun K10 hK10 => ?_
    refine st0 256 rfl (ok (mv (.d (eI (0 : Int))))) ?_
    refine hK10 _ _ ?_
    simp only [thenK, blockK, keepE, updM, List.filter_cons, List.filter_nil, List.nil_append, List.cons_append, List.map_cons, List.map_nil, envE, Mem.get, Nat.reduceEqDiff, reduceIte, Option.isNone_none, Option.isNone_some, Bool.false_eq_true, List.length_cons, List.length_nil, Nat.reduceAdd, Nat.reduceMul]
    refine hK9 _ _ _ ?_
    refine rwp_block fun K11 hK11 => ?_
    refine rwp_loop ([(3, 2433)], []) 2496 (fun k env mem => ∃ (v12 : List (BitVec 8)) (v13 : Int), passkeyref1WordsL2 a0 k v12 v13 = some res ∧ env = [(0, .d ((eL 1 eU64) a0)), (3, .ref 2433 v12.length 0 v12.length), (4, .d (eI v13))] ∧ mem = [(2433, .row true 1 (v12.map eU8))]) FUEL ⟨_, _, Settled.refl, _, _, ⟨_, _, h, rfl, rfl⟩, ⟨rfl, ⟨⟨rfl, rfl⟩, ⟨⟨rfl, rfl⟩, ⟨⟨rfl, rfl⟩, trivial⟩⟩⟩, ⟨⟨rfl, rfl⟩, trivial⟩⟩, rfl⟩ (fun k2 env1 mem1 hI K14 hK14 => ?_)
    obtain ⟨v12, v13, h, rfl, rfl⟩ := hI
    cases k2 with
    | zero => simp [passkeyref1WordsL2] at h
    | succ k2 =>
      rw [passkeyref1WordsL2] at h
      refine rwp_seq fun K15 hK15 => ?_
      refine rwp_seq fun K16 hK16 => ?_
      refine rwp_region fun K17 hK17 => ?_
      refine st0 2560 rfl (ok (mv (.d (eI v13)))) ?_
      refine st0 2624 rfl (ok (mv (.d ((eL 1 eU64) a0)))) ?_
      refine st0 2688 rfl (ok (lenL _ _)) ?_
      refine st0 2752 rfl (ok (lssI _ _)) ?_
      refine hK17 _ _ ?_
      simp only [thenK, blockK, keepE, updM, List.filter_cons, List.filter_nil, List.nil_append, List.cons_append, List.map_cons, List.map_nil, envE, Mem.get, Nat.reduceEqDiff, reduceIte, Option.isNone_none, Option.isNone_some, Bool.false_eq_true, List.length_cons, List.length_nil, Nat.reduceAdd, Nat.reduceMul]
      refine hK16 _ _ _ ?_
      rcases Bool.eq_false_or_eq_true ((decide (v13 < (a0.length : Int)))) with h18 | h18
      · replace h := ite_t h h18
        refine rwp_t (isT h18) ?_
        refine rwp_skip ?_
        refine hK15 _ _ _ ?_
        refine rwp_join ([], []) 4288 (fun env mem => ∃ (v19 : List (BitVec 8)), passkeyref1WordsJ3 (passkeyref1WordsL2 a0 k2) v13 v19 = some res ∧ env = [(0, .d ((eL 1 eU64) a0)), (3, .ref 2433 v19.length 0 v19.length), (4, .d (eI v13))] ∧ mem = [(2433, .row true 1 (v19.map eU8))]) (fun _ _ hI => ?_) (fun K20 hK20 => ?_)
        · obtain ⟨v19, h, rfl, rfl⟩ := hI
          unfold passkeyref1WordsJ3 at h
          refine rwp_region fun K21 hK21 => ?_
          refine st0 4352 rfl (ok (mv (.d (eI v13)))) ?_
          refine st0 4416 rfl (ok (addI _ (1 : Int))) ?_
          refine st0 4480 rfl (ok (mv (.d (eI (w64 (v13 + (1 : Int))))))) ?_
          refine hK21 _ _ ?_
          simp only [thenK, blockK, keepE, updM, List.filter_cons, List.filter_nil, List.nil_append, List.cons_append, List.map_cons, List.map_nil, envE, Mem.get, Nat.reduceEqDiff, reduceIte, Option.isNone_none, Option.isNone_some, Bool.false_eq_true, List.length_cons, List.length_nil, Nat.reduceAdd, Nat.reduceMul]
          exact hK14.out _ _ _ k2 (Nat.lt_succ_self k2) ⟨_, _, Settled.refl, _, _, ⟨_, _, h, rfl, rfl⟩, ⟨rfl, ⟨⟨rfl, rfl⟩, ⟨⟨rfl, rfl⟩, ⟨⟨rfl, rfl⟩, trivial⟩⟩⟩, ⟨⟨rfl, rfl⟩, trivial⟩⟩, rfl⟩
        · refine rwp_block fun K22 hK22 => ?_
          refine rwp_seq fun K23 hK23 => ?_
          refine rwp_region fun K24 hK24 => ?_
          refine st0 2816 rfl (ok (mv (.d (eI (7 : Int))))) ?_
          refine hK24 _ _ ?_
          simp only [thenK, blockK, keepE, updM, List.filter_cons, List.filter_nil, List.nil_append, List.cons_append, List.map_cons, List.map_nil, envE, Mem.get, Nat.reduceEqDiff, reduceIte, Option.isNone_none, Option.isNone_some, Bool.false_eq_true, List.length_cons, List.length_nil, Nat.reduceAdd, Nat.reduceMul]
          refine hK23 _ _ _ ?_
          refine rwp_block fun K25 hK25 => ?_
          refine rwp_loop ([], []) 4096 (fun k env mem => ∃ (v26 : List (BitVec 8)) (v27 : Int), passkeyref1WordsL4 (passkeyref1WordsL2 a0 k2) a0 v13 k v26 v27 = some res ∧ env = [(0, .d ((eL 1 eU64) a0)), (3, .ref 2433 v26.length 0 v26.length), (4, .d (eI v13)), (5, .d (eI v27))] ∧ mem = [(2433, .row true 1 (v26.map eU8))]) FUEL ⟨_, _, Settled.refl, _, _, ⟨_, _, h, rfl, rfl⟩, ⟨rfl, ⟨⟨rfl, rfl⟩, ⟨⟨rfl, rfl⟩, ⟨⟨rfl, rfl⟩, ⟨⟨rfl, rfl⟩, trivial⟩⟩⟩⟩, ⟨⟨rfl, rfl⟩, trivial⟩⟩, rfl⟩ (fun k4 env1 mem1 hI K28 hK28 => ?_)
          obtain ⟨v26, v27, h, rfl, rfl⟩ := hI
          cases k4 with
          | zero => simp [passkeyref1WordsL4] at h
          | succ k4 =>
            rw [passkeyref1WordsL4] at h
            refine rwp_seq fun K29 hK29 => ?_
            refine rwp_seq fun K30 hK30 => ?_
            refine rwp_region fun K31 hK31 => ?_
            refine st0 4160 rfl (ok (mv (.d (eI v27)))) ?_
            refine st0 4224 rfl (ok (geqI _ (0 : Int))) ?_
            refine hK31 _ _ ?_
            simp only [thenK, blockK, keepE, updM, List.filter_cons, List.filter_nil, List.nil_append, List.cons_append, List.map_cons, List.map_nil, envE, Mem.get, Nat.reduceEqDiff, reduceIte, Option.isNone_none, Option.isNone_some, Bool.false_eq_true, List.length_cons, List.length_nil, Nat.reduceAdd, Nat.reduceMul]
            refine hK30 _ _ _ ?_
            rcases Bool.eq_false_or_eq_true ((decide ((0 : Int) ≤ v27))) with h32 | h32
            · replace h := ite_t h h32
              refine rwp_t (isT h32) ?_
              refine rwp_skip ?_
              refine hK29 _ _ _ ?_
              refine rwp_seq fun K33 hK33 => ?_
              refine rwp_block fun K34 hK34 => ?_
              refine rwp_region fun K35 hK35 => ?_
              refine st0 4288 rfl (ok (mv (.ref 2433 v26.length 0 v26.length))) ?_
              refine st0 4352 rfl (ok (mv (.d ((eL 1 eU64) a0)))) ?_
              refine st0 4416 rfl (ok (mv (.d (eI v13)))) ?_
              obtain ⟨h36, h⟩ := asq_inv h
              refine st0 4480 rfl (ok (iaL (e := eU64) (xs := a0) 0#64 h36)) ?_
              refine st0 4544 rfl (ok (ld_i (v := eU64 (a0.getD v13.toNat 0#64)) rfl rfl)) ?_
              refine st0 4608 rfl (ok (mv (.d (eI v27)))) ?_
              refine st0 4672 rfl (ok (mulI (8 : Int) _)) ?_
              refine st0 4736 rfl (ok (ofI64 _ (w64 ((8 : Int) * v27)))) ?_
              obtain ⟨v37, h38, h⟩ := lett_inv h
              refine st0e 4800 rfl (ok (shr64_64 _ _)) (congrArg (fun z => PV.d (eU64 z)) h38) ?_
              refine st0 4864 rfl (ok (cvt64_8 _)) ?_
              refine st1 4928 rfl (mem' := [(4864, .row true 1 (([(v37.setWidth 8)] : List (BitVec 8)).map eU8)), (2433, .row true 1 (v26.map eU8))]) (ok (bsl (e := eU8) (ys := ([(v37.setWidth 8)] : List (BitVec 8))) rfl rfl rfl)) rfl ?_
              obtain ⟨h39, h⟩ := asq_inv h
              refine st1 4992 rfl (mem' := [(2433, .row true 1 ((v26 ++ ([(v37.setWidth 8)] : List (BitVec 8))).map eU8)), (4864, .row true 1 (([(v37.setWidth 8)] : List (BitVec 8)).map eU8))]) (ok (appR (e := eU8) (xs := v26) (ys := ([(v37.setWidth 8)] : List (BitVec 8))) (contR (xs := ([(v37.setWidth 8)] : List (BitVec 8))) rfl rfl rfl) rfl rfl rfl h39)) rfl ?_
              refine st0 5056 rfl (ok (mv (.ref 2433 (((v26 ++ ([(v37.setWidth 8)] : List (BitVec 8)))).length) 0 (((v26 ++ ([(v37.setWidth 8)] : List (BitVec 8)))).length)))) ?_
              refine hK35 _ _ ?_
              simp only [thenK, blockK, keepE, updM, List.filter_cons, List.filter_nil, List.nil_append, List.cons_append, List.map_cons, List.map_nil, envE, Mem.get, Nat.reduceEqDiff, reduceIte, Option.isNone_none, Option.isNone_some, Bool.false_eq_true, List.length_cons, List.length_nil, Nat.reduceAdd, Nat.reduceMul]
              refine hK34 _ _ _ ?_
              refine hK33 _ _ _ ?_
              refine rwp_region fun K40 hK40 => ?_
              refine st0 5120 rfl (ok (mv (.d (eI v27)))) ?_
              refine st0 5184 rfl (ok (subI _ (1 : Int))) ?_
              refine st0 5248 rfl (ok (mv (.d (eI (w64 (v27 - (1 : Int))))))) ?_
              refine hK40 _ _ ?_
              simp only [thenK, blockK, keepE, updM, List.filter_cons, List.filter_nil, List.nil_append, List.cons_append, List.map_cons, List.map_nil, envE, Mem.get, Nat.reduceEqDiff, reduceIte, Option.isNone_none, Option.isNone_some, Bool.false_eq_true, List.length_cons, List.length_nil, Nat.reduceAdd, Nat.reduceMul]
              exact hK28.out _ _ _ k4 (Nat.lt_succ_self k4) ⟨_, _, Settled.refl, _, _, ⟨_, _, h, rfl, rfl⟩, ⟨rfl, ⟨⟨rfl, rfl⟩, ⟨⟨rfl, rfl⟩, ⟨⟨rfl, rfl⟩, ⟨⟨rfl, rfl⟩, trivial⟩⟩⟩⟩, ⟨⟨rfl, rfl⟩, trivial⟩⟩, rfl⟩
            · replace h := ite_f h h32
              refine rwp_f (isF h32) ?_
              refine rwp_exit ?_
              refine hK25 _ _ _ ?_
              refine hK22 _ _ _ ?_
              exact hK20 _ _ _ ⟨_, _, Settled.refl, _, _, ⟨_, h, rfl, rfl⟩, ⟨rfl, ⟨⟨rfl, rfl⟩, ⟨⟨rfl, rfl⟩, ⟨⟨rfl, rfl⟩, trivial⟩⟩⟩, ⟨⟨rfl, rfl⟩, trivial⟩⟩, rfl⟩
      · replace h := ite_f h h18
        refine rwp_f (isF h18) ?_
        refine rwp_exit ?_
        refine hK11 _ _ _ ?_
        exact hK6 _ _ _ ⟨_, _, Settled.refl, _, _, ⟨_, h, rfl, rfl⟩, ⟨rfl, ⟨⟨rfl, rfl⟩, trivial⟩, ⟨⟨rfl, rfl⟩, trivial⟩⟩, rfl⟩

/-- passkey/passkeyref1.rotl -/
def passkeyref1rotlH : Hints := ⟨[(0, [0, 1]), (1, [4])], []⟩
def passkeyref1rotlRc : RCode :=
  .seq (.region false [⟨some 4, .mv, [.k (.d (.int .u64 0))], none, []⟩] [0, 1]) (.seq (.region false [⟨some 5, .mv, [.t 0], none, []⟩, ⟨some 6, .mv, [.t 1], none, []⟩, ⟨some 7, .bin
  .shl, [.t 5, .t 6], none, []⟩, ⟨some 8, .mv, [.t 0], none, []⟩, ⟨some 9, .mv, [.t 1], none, []⟩, ⟨some 10, .bin .sub, [.k (.d (.int .u64 64)), .t 9], none, []⟩, ⟨some 11, .bin
  .shr, [.t 8, .t 10], none, []⟩, ⟨some 12, .bin .or, [.t 7, .t 11], none, []⟩, ⟨some 4, .mv, [.t 12], none, []⟩] [4]) .ret)
def passkeyref1rotlRr : List RR := [.t 4]
theorem passkeyref1rotlC : compFn Try.prog 36 passkeyref1rotlH = some (passkeyref1rotlRc, passkeyref1rotlRr, 13) := by kernel_rfl
theorem passkeyref1rotlOK (a0 : BitVec 64) (a1 : BitVec 64) (res : BitVec 64) (h : passkeyref1rotl a0 a1 = some res) : CallOK Try.prog 36 [.d (eU64 a0), .d (eU64 a1)] [] (.d (eU64 res)) [] := by
  unfold passkeyref1rotl at h
  refine callOK passkeyref1rotlC fm rfl ?_
  simp only [initE, initM, nbor, List.map_cons, List.map_nil, Nat.reduceAdd]
  unfold passkeyref1rotlRc
  refine rwp_seq fun K1 hK1 => ?_
  refine rwp_region fun K2 hK2 => ?_
  refine st0 128 rfl (ok (mv (.d (eU64 (0#64))))) ?_
  refine hK2 _ _ ?_
  simp only [thenK, blockK, keepE, updM, List.filter_cons, List.filter_nil, List.nil_append, List.cons_append, List.map_cons, List.map_nil, envE, Mem.get, Nat.reduceEqDiff, reduceIte, Option.isNone_none, Option.isNone_some, Bool.false_eq_true, List.length_cons, List.length_nil, Nat.reduceAdd, Nat.reduceMul]
  refine hK1 _ _ _ ?_
  refine rwp_seq fun K3 hK3 => ?_
  refine rwp_region fun K4 hK4 => ?_
  refine st0 192 rfl (ok (mv (.d (eU64 a0)))) ?_
  refine st0 256 rfl (ok (mv (.d (eU64 a1)))) ?_
  refine st0 320 rfl (ok (shl64_64 _ _)) ?_
  refine st0 384 rfl (ok (mv (.d (eU64 a0)))) ?_
  refine st0 448 rfl (ok (mv (.d (eU64 a1)))) ?_
  refine st0 512 rfl (ok (sub64 (64#64) _)) ?_
  refine st0 576 rfl (ok (shr64_64 _ _)) ?_
  refine st0 640 rfl (ok (or64 _ _)) ?_
  refine st0 704 rfl (ok (mv (.d (eU64 ((a0 <<< a1.toNat) ||| (a0 >>> ((64#64) - a1).toNat)))))) ?_
  refine hK4 _ _ ?_
  simp only [thenK, blockK, keepE, updM, List.filter_cons, List.filter_nil, List.nil_append, List.cons_append, List.map_cons, List.map_nil, envE, Mem.get, Nat.reduceEqDiff, reduceIte, Option.isNone_none, Option.isNone_some, Bool.false_eq_true, List.length_cons, List.length_nil, Nat.reduceAdd, Nat.reduceMul]
  refine hK3 _ _ _ ?_
  refine rwp_ret ?_
  obtain rfl := Option.some.inj h
  try simp only [thenK, blockK, reduceIte]
  exact Or.inl (end_ok trivial (rs_t (v := .d (eU64 ((a0 <<< a1.toNat) ||| (a0 >>> ((64#64) - a1).toNat)))) rfl rs_nil) (en_d (to_d _) en_nil) ou_nil (by first | exact eok rfl rfl rfl rfl trivial | (refine eok ?_ ?_ ?_ ?_ ?_ <;> first | rfl | exact trivial | simp [retM, Mem.get, PV.renL, PV.ren, Blk.ren, comps, rhoR, rhoM, appN, PV.refsL, PV.refs, keys, nodupB, Blk.refs, allIn, Blk.bor])))

end Go.Proofs.Ty
