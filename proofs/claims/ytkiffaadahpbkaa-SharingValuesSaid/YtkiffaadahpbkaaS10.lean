/- Each Go function comes to what its plain function says. PRINTED by a program of this session (ty.py). -/
import Derived.Test.YtkiffaadahpbkaaS9
set_option linter.unusedVariables false
set_option linter.unusedSimpArgs false
set_option maxHeartbeats 4000000
set_option maxRecDepth 10000
namespace Go.Proofs.Ty
open Go Go.RW Go.Proofs
/-- passkey/passkeylaw37.at -/
def passkeylaw37atH : Hints := ⟨[(0, [0, 1]), (1, [0, 1, 5, 6]), (2, [0, 5, 6, 7, 8]), (3, [0, 5, 6, 7, 8, 9, 10]), (4, [5, 6, 7, 8, 9, 10, 11, 12]), (5, [4])], []⟩
def passkeylaw37atRc : RCode :=
  .seq (.region false [⟨some 4, .mv, [.k (.d (.bool false))], none, []⟩] [0, 1]) (.seq (.region false [⟨some 14, .mv, [.t 0], none, []⟩, ⟨some 15, .mv, [.t 1], none, []⟩, ⟨some 16,
  .call 23 true, [.t 14, .t 15], none, []⟩, ⟨some 13, .mv, [.t 16], none, []⟩, ⟨some 17, .ext 0, [.t 13], none, []⟩, ⟨some 18, .ext 1, [.t 13], none, []⟩, ⟨some 5, .mv, [.t 17],
  none, []⟩, ⟨some 6, .mv, [.t 18], none, []⟩] [0, 1, 5, 6]) (.seq (.region false [⟨some 20, .mv, [.t 0], none, []⟩, ⟨some 21, .mv, [.t 1], none, []⟩, ⟨some 22, .call 27 true, [.t
  20, .t 21], none, []⟩, ⟨some 19, .mv, [.t 22], none, []⟩, ⟨some 23, .ext 0, [.t 19], none, []⟩, ⟨some 24, .ext 1, [.t 19], none, []⟩, ⟨some 7, .mv, [.t 23], none, []⟩, ⟨some 8,
  .mv, [.t 24], none, []⟩] [0, 5, 6, 7, 8]) (.seq (.region false [⟨some 26, .mv, [.t 0], none, []⟩, ⟨some 27, .call 22 true, [.t 26], none, []⟩, ⟨some 25, .mv, [.t 27], none, []⟩,
  ⟨some 28, .ext 0, [.t 25], none, []⟩, ⟨some 29, .ext 1, [.t 25], none, []⟩, ⟨some 9, .mv, [.t 28], none, []⟩, ⟨some 10, .mv, [.t 29], none, []⟩] [0, 5, 6, 7, 8, 9, 10]) (.seq
  (.region false [⟨some 31, .mv, [.t 0], none, []⟩, ⟨some 32, .call 28 true, [.t 31], none, []⟩, ⟨some 30, .mv, [.t 32], none, []⟩, ⟨some 33, .ext 0, [.t 30], none, []⟩, ⟨some 34,
  .ext 1, [.t 30], none, []⟩, ⟨some 11, .mv, [.t 33], none, []⟩, ⟨some 12, .mv, [.t 34], none, []⟩] [5, 6, 7, 8, 9, 10, 11, 12]) (.seq (.region false [⟨some 35, .mv, [.t 5], none,
  []⟩, ⟨some 36, .b2s, [.t 35], none, []⟩, ⟨some 37, .mv, [.t 7], none, []⟩, ⟨some 38, .b2s, [.t 37], none, []⟩, ⟨some 39, .bin .eql, [.t 36, .t 38], none, []⟩, ⟨some 40, .mv, [.t
  39], none, []⟩, ⟨some 41, .mv, [.t 6], some (40, true), []⟩, ⟨some 42, .mv, [.t 8], some (40, true), []⟩, ⟨some 43, .bin .eql, [.t 41, .t 42], some (40, true), []⟩, ⟨some 44,
  .pick, [.t 40, .t 43, .k (.d (.bool false))], none, []⟩, ⟨some 45, .mv, [.t 44], none, []⟩, ⟨some 46, .mv, [.t 9], some (45, true), []⟩, ⟨some 47, .b2s, [.t 46], some (45, true),
  []⟩, ⟨some 48, .mv, [.t 11], some (45, true), []⟩, ⟨some 49, .b2s, [.t 48], some (45, true), []⟩, ⟨some 50, .bin .eql, [.t 47, .t 49], some (45, true), []⟩, ⟨some 51, .pick, [.t
  45, .t 50, .k (.d (.bool false))], none, []⟩, ⟨some 52, .mv, [.t 51], none, []⟩, ⟨some 53, .mv, [.t 10], some (52, true), []⟩, ⟨some 54, .mv, [.t 12], some (52, true), []⟩, ⟨some
  55, .bin .eql, [.t 53, .t 54], some (52, true), []⟩, ⟨some 56, .pick, [.t 52, .t 55, .k (.d (.bool false))], none, []⟩, ⟨some 4, .mv, [.t 56], none, []⟩] [4]) .ret)))))
def passkeylaw37atRr : List RR := [.t 4]
theorem passkeylaw37atC : compFn Try.prog 21 passkeylaw37atH = some (passkeylaw37atRc, passkeylaw37atRr, 57) := by kernel_rfl
theorem passkeylaw37atOK (a0 : List (TApiShare)) (a1 : Int) (res : Bool) (h : passkeylaw37at a0 a1 = some res) : CallOK Try.prog 21 [.d ((eL 2 eTApiShare) a0), .d (eI a1)] [] (.d (eB res)) [] := by
  unfold passkeylaw37at at h
  refine callOK passkeylaw37atC fm rfl ?_
  simp only [initE, initM, nbor, List.map_cons, List.map_nil, Nat.reduceAdd]
  unfold passkeylaw37atRc
  refine rwp_seq fun K1 hK1 => ?_
  refine rwp_region fun K2 hK2 => ?_
  refine st0 128 rfl (ok (mv (.d (eB false)))) ?_
  refine hK2 _ _ ?_
  simp only [thenK, blockK, keepE, updM, List.filter_cons, List.filter_nil, List.nil_append, List.cons_append, List.map_cons, List.map_nil, envE, Mem.get, Nat.reduceEqDiff, reduceIte, Option.isNone_none, Option.isNone_some, Bool.false_eq_true, List.length_cons, List.length_nil, Nat.reduceAdd, Nat.reduceMul]
  refine hK1 _ _ _ ?_
  refine rwp_seq fun K3 hK3 => ?_
  refine rwp_region fun K4 hK4 => ?_
  refine st0 192 rfl (ok (mv (.d ((eL 2 eTApiShare) a0)))) ?_
  refine st0 256 rfl (ok (mv (.d (eI a1)))) ?_
  obtain ⟨y5, h6, h⟩ := bind_inv h
  refine st1 320 rfl (mem' := [(256, .row true 1 (y5.1.map eU8))]) (call_ok (v := .tup [.ref 256 y5.1.length 0 y5.1.length, .d (eI y5.2)]) (u := [(256, .row true 1 (y5.1.map eU8))]) (ar_d ((eL 2 eTApiShare) a0) (ar_d (eI a1) ar_nil)) rfl (sharingAtOK a0 a1 y5 h6) rfl) rfl ?_
  refine st0 384 rfl (ok (mv (.tup [.ref 256 y5.1.length 0 y5.1.length, .d (eI y5.2)]))) ?_
  refine st0 448 rfl (ok (extr (v := .ref 256 y5.1.length 0 y5.1.length) rfl rfl)) ?_
  refine st0 512 rfl (ok (extr (v := .d (eI y5.2)) rfl rfl)) ?_
  refine st0 576 rfl (ok (mv (.ref 256 y5.1.length 0 y5.1.length))) ?_
  refine st0 640 rfl (ok (mv (.d (eI y5.2)))) ?_
  refine hK4 _ _ ?_
  simp only [thenK, blockK, keepE, updM, List.filter_cons, List.filter_nil, List.nil_append, List.cons_append, List.map_cons, List.map_nil, envE, Mem.get, Nat.reduceEqDiff, reduceIte, Option.isNone_none, Option.isNone_some, Bool.false_eq_true, List.length_cons, List.length_nil, Nat.reduceAdd, Nat.reduceMul]
  refine hK3 _ _ _ ?_
  refine rwp_seq fun K7 hK7 => ?_
  refine rwp_region fun K8 hK8 => ?_
  refine st0 704 rfl (ok (mv (.d ((eL 2 eTApiShare) a0)))) ?_
  refine st0 768 rfl (ok (mv (.d (eI a1)))) ?_
  obtain ⟨y9, h10, h⟩ := bind_inv h
  refine st1 832 rfl (mem' := [(768, .row true 1 (y9.1.map eU8)), (256, .row true 1 (y5.1.map eU8))]) (call_ok (v := .tup [.ref 768 y9.1.length 0 y9.1.length, .d (eI y9.2)]) (u := [(768, .row true 1 (y9.1.map eU8))]) (ar_d ((eL 2 eTApiShare) a0) (ar_d (eI a1) ar_nil)) rfl (passkeyref37AtOK a0 a1 y9 h10) rfl) rfl ?_
  refine st0 896 rfl (ok (mv (.tup [.ref 768 y9.1.length 0 y9.1.length, .d (eI y9.2)]))) ?_
  refine st0 960 rfl (ok (extr (v := .ref 768 y9.1.length 0 y9.1.length) rfl rfl)) ?_
  refine st0 1024 rfl (ok (extr (v := .d (eI y9.2)) rfl rfl)) ?_
  refine st0 1088 rfl (ok (mv (.ref 768 y9.1.length 0 y9.1.length))) ?_
  refine st0 1152 rfl (ok (mv (.d (eI y9.2)))) ?_
  refine hK8 _ _ ?_
  simp only [thenK, blockK, keepE, updM, List.filter_cons, List.filter_nil, List.nil_append, List.cons_append, List.map_cons, List.map_nil, envE, Mem.get, Nat.reduceEqDiff, reduceIte, Option.isNone_none, Option.isNone_some, Bool.false_eq_true, List.length_cons, List.length_nil, Nat.reduceAdd, Nat.reduceMul]
  refine hK7 _ _ _ ?_
  refine rwp_seq fun K11 hK11 => ?_
  refine rwp_region fun K12 hK12 => ?_
  refine st0 1216 rfl (ok (mv (.d ((eL 2 eTApiShare) a0)))) ?_
  obtain ⟨y13, h14, h⟩ := bind_inv h
  refine st1 1280 rfl (mem' := [(1216, .row true 1 (y13.1.map eU8)), (768, .row true 1 (y9.1.map eU8)), (256, .row true 1 (y5.1.map eU8))]) (call_ok (v := .tup [.ref 1216 y13.1.length 0 y13.1.length, .d (eI y13.2)]) (u := [(1216, .row true 1 (y13.1.map eU8))]) (ar_d ((eL 2 eTApiShare) a0) ar_nil) rfl (sharingJoinOK a0 y13 h14) rfl) rfl ?_
  refine st0 1344 rfl (ok (mv (.tup [.ref 1216 y13.1.length 0 y13.1.length, .d (eI y13.2)]))) ?_
  refine st0 1408 rfl (ok (extr (v := .ref 1216 y13.1.length 0 y13.1.length) rfl rfl)) ?_
  refine st0 1472 rfl (ok (extr (v := .d (eI y13.2)) rfl rfl)) ?_
  refine st0 1536 rfl (ok (mv (.ref 1216 y13.1.length 0 y13.1.length))) ?_
  refine st0 1600 rfl (ok (mv (.d (eI y13.2)))) ?_
  refine hK12 _ _ ?_
  simp only [thenK, blockK, keepE, updM, List.filter_cons, List.filter_nil, List.nil_append, List.cons_append, List.map_cons, List.map_nil, envE, Mem.get, Nat.reduceEqDiff, reduceIte, Option.isNone_none, Option.isNone_some, Bool.false_eq_true, List.length_cons, List.length_nil, Nat.reduceAdd, Nat.reduceMul]
  refine hK11 _ _ _ ?_
  refine rwp_seq fun K15 hK15 => ?_
  refine rwp_region fun K16 hK16 => ?_
  refine st0 1664 rfl (ok (mv (.d ((eL 2 eTApiShare) a0)))) ?_
  obtain ⟨y17, h18, h⟩ := bind_inv h
  refine st1 1728 rfl (mem' := [(1664, .row true 1 (y17.1.map eU8)), (1216, .row true 1 (y13.1.map eU8)), (768, .row true 1 (y9.1.map eU8)), (256, .row true 1 (y5.1.map eU8))]) (call_ok (v := .tup [.ref 1664 y17.1.length 0 y17.1.length, .d (eI y17.2)]) (u := [(1664, .row true 1 (y17.1.map eU8))]) (ar_d ((eL 2 eTApiShare) a0) ar_nil) rfl (passkeyref37JoinOK a0 y17 h18) rfl) rfl ?_
  refine st0 1792 rfl (ok (mv (.tup [.ref 1664 y17.1.length 0 y17.1.length, .d (eI y17.2)]))) ?_
  refine st0 1856 rfl (ok (extr (v := .ref 1664 y17.1.length 0 y17.1.length) rfl rfl)) ?_
  refine st0 1920 rfl (ok (extr (v := .d (eI y17.2)) rfl rfl)) ?_
  refine st0 1984 rfl (ok (mv (.ref 1664 y17.1.length 0 y17.1.length))) ?_
  refine st0 2048 rfl (ok (mv (.d (eI y17.2)))) ?_
  refine hK16 _ _ ?_
  simp only [thenK, blockK, keepE, updM, List.filter_cons, List.filter_nil, List.nil_append, List.cons_append, List.map_cons, List.map_nil, envE, Mem.get, Nat.reduceEqDiff, reduceIte, Option.isNone_none, Option.isNone_some, Bool.false_eq_true, List.length_cons, List.length_nil, Nat.reduceAdd, Nat.reduceMul]
  refine hK15 _ _ _ ?_
  refine rwp_seq fun K19 hK19 => ?_
  refine rwp_region fun K20 hK20 => ?_
  refine st0 2112 rfl (ok (mv (.ref 256 y5.1.length 0 y5.1.length))) ?_
  refine st0 2176 rfl (ok (b2s (contR (xs := y5.1) rfl rfl rfl))) ?_
  refine st0 2240 rfl (ok (mv (.ref 768 y9.1.length 0 y9.1.length))) ?_
  refine st0 2304 rfl (ok (b2s (contR (xs := y9.1) rfl rfl rfl))) ?_
  refine st0 2368 rfl (ok (eqlS y5.1 y9.1)) ?_
  refine st0 2432 rfl (ok (mv (.d (eB (y5.1 == y9.1))))) ?_
  rcases Bool.eq_false_or_eq_true ((y5.1 == y9.1)) with h21 | h21
  · replace h := ite_t h h21
    refine stG (isT h21) ?_
    refine st0 2496 rfl (ok (mv (.d (eI y5.2)))) ?_
    refine stG (isT h21) ?_
    refine st0 2560 rfl (ok (mv (.d (eI y9.2)))) ?_
    refine stG (isT h21) ?_
    refine st0 2624 rfl (ok (eqlI _ _)) ?_
    refine st0 2688 rfl (ok (pick_t h21 (.d (eB (y5.2 == y9.2))) _)) ?_
    refine st0 2752 rfl (ok (mv (.d (eB (y5.2 == y9.2))))) ?_
    rcases Bool.eq_false_or_eq_true ((y5.2 == y9.2)) with h22 | h22
    · replace h := ite_t h h22
      refine stG (isT h22) ?_
      refine st0 2816 rfl (ok (mv (.ref 1216 y13.1.length 0 y13.1.length))) ?_
      refine stG (isT h22) ?_
      refine st0 2880 rfl (ok (b2s (contR (xs := y13.1) rfl rfl rfl))) ?_
      refine stG (isT h22) ?_
      refine st0 2944 rfl (ok (mv (.ref 1664 y17.1.length 0 y17.1.length))) ?_
      refine stG (isT h22) ?_
      refine st0 3008 rfl (ok (b2s (contR (xs := y17.1) rfl rfl rfl))) ?_
      refine stG (isT h22) ?_
      refine st0 3072 rfl (ok (eqlS y13.1 y17.1)) ?_
      refine st0 3136 rfl (ok (pick_t h22 (.d (eB (y13.1 == y17.1))) _)) ?_
      refine st0 3200 rfl (ok (mv (.d (eB (y13.1 == y17.1))))) ?_
      rcases Bool.eq_false_or_eq_true ((y13.1 == y17.1)) with h23 | h23
      · replace h := ite_t h h23
        refine stG (isT h23) ?_
        refine st0 3264 rfl (ok (mv (.d (eI y13.2)))) ?_
        refine stG (isT h23) ?_
        refine st0 3328 rfl (ok (mv (.d (eI y17.2)))) ?_
        refine stG (isT h23) ?_
        refine st0 3392 rfl (ok (eqlI _ _)) ?_
        refine st0 3456 rfl (ok (pick_t h23 (.d (eB (y13.2 == y17.2))) _)) ?_
        refine st0 3520 rfl (ok (mv (.d (eB (y13.2 == y17.2))))) ?_
        refine hK20 _ _ ?_
        simp only [thenK, blockK, keepE, updM, List.filter_cons, List.filter_nil, List.nil_append, List.cons_append, List.map_cons, List.map_nil, envE, Mem.get, Nat.reduceEqDiff, reduceIte, Option.isNone_none, Option.isNone_some, Bool.false_eq_true, List.length_cons, List.length_nil, Nat.reduceAdd, Nat.reduceMul]
        refine hK19 _ _ _ ?_
        refine rwp_ret ?_
        obtain rfl := Option.some.inj h
        try simp only [thenK, blockK, reduceIte]
        exact Or.inl (end_ok trivial (rs_t (v := .d (eB (y13.2 == y17.2))) rfl rs_nil) (en_d (to_d _) en_nil) ou_nil (by first | exact eok rfl rfl rfl rfl trivial | (refine eok ?_ ?_ ?_ ?_ ?_ <;> first | rfl | exact trivial | simp [retM, Mem.get, PV.renL, PV.ren, Blk.ren, comps, rhoR, rhoM, appN, PV.refsL, PV.refs, keys, nodupB, Blk.refs, allIn, Blk.bor])))
      · replace h := ite_f h h23
        refine stGN 3264 rfl rfl h23 ?_
        refine stGN 3328 rfl rfl h23 ?_
        refine stGN 3392 rfl rfl h23 ?_
        refine st0 3456 rfl (ok (pick_f h23 _ (.d (eB false)))) ?_
        refine st0 3520 rfl (ok (mv (.d (eB false)))) ?_
        refine hK20 _ _ ?_
        simp only [thenK, blockK, keepE, updM, List.filter_cons, List.filter_nil, List.nil_append, List.cons_append, List.map_cons, List.map_nil, envE, Mem.get, Nat.reduceEqDiff, reduceIte, Option.isNone_none, Option.isNone_some, Bool.false_eq_true, List.length_cons, List.length_nil, Nat.reduceAdd, Nat.reduceMul]
        refine hK19 _ _ _ ?_
        refine rwp_ret ?_
        obtain rfl := Option.some.inj h
        try simp only [thenK, blockK, reduceIte]
        exact Or.inl (end_ok trivial (rs_t (v := .d (eB false)) rfl rs_nil) (en_d (to_d _) en_nil) ou_nil (by first | exact eok rfl rfl rfl rfl trivial | (refine eok ?_ ?_ ?_ ?_ ?_ <;> first | rfl | exact trivial | simp [retM, Mem.get, PV.renL, PV.ren, Blk.ren, comps, rhoR, rhoM, appN, PV.refsL, PV.refs, keys, nodupB, Blk.refs, allIn, Blk.bor])))
    · replace h := ite_f h h22
      refine stGN 2816 rfl rfl h22 ?_
      refine stGN 2880 rfl rfl h22 ?_
      refine stGN 2944 rfl rfl h22 ?_
      refine stGN 3008 rfl rfl h22 ?_
      refine stGN 3072 rfl rfl h22 ?_
      refine st0 3136 rfl (ok (pick_f h22 _ (.d (eB false)))) ?_
      refine st0 3200 rfl (ok (mv (.d (eB false)))) ?_
      refine stGN 3264 rfl rfl rfl ?_
      refine stGN 3328 rfl rfl rfl ?_
      refine stGN 3392 rfl rfl rfl ?_
      refine st0 3456 rfl (ok (pick_f rfl _ (.d (eB false)))) ?_
      refine st0 3520 rfl (ok (mv (.d (eB false)))) ?_
      refine hK20 _ _ ?_
      simp only [thenK, blockK, keepE, updM, List.filter_cons, List.filter_nil, List.nil_append, List.cons_append, List.map_cons, List.map_nil, envE, Mem.get, Nat.reduceEqDiff, reduceIte, Option.isNone_none, Option.isNone_some, Bool.false_eq_true, List.length_cons, List.length_nil, Nat.reduceAdd, Nat.reduceMul]
      refine hK19 _ _ _ ?_
      refine rwp_ret ?_
      obtain rfl := Option.some.inj h
      try simp only [thenK, blockK, reduceIte]
      exact Or.inl (end_ok trivial (rs_t (v := .d (eB false)) rfl rs_nil) (en_d (to_d _) en_nil) ou_nil (by first | exact eok rfl rfl rfl rfl trivial | (refine eok ?_ ?_ ?_ ?_ ?_ <;> first | rfl | exact trivial | simp [retM, Mem.get, PV.renL, PV.ren, Blk.ren, comps, rhoR, rhoM, appN, PV.refsL, PV.refs, keys, nodupB, Blk.refs, allIn, Blk.bor])))
  · replace h := ite_f h h21
    refine stGN 2496 rfl rfl h21 ?_
    refine stGN 2560 rfl rfl h21 ?_
    refine stGN 2624 rfl rfl h21 ?_
    refine st0 2688 rfl (ok (pick_f h21 _ (.d (eB false)))) ?_
    refine st0 2752 rfl (ok (mv (.d (eB false)))) ?_
    refine stGN 2816 rfl rfl rfl ?_
    refine stGN 2880 rfl rfl rfl ?_
    refine stGN 2944 rfl rfl rfl ?_
    refine stGN 3008 rfl rfl rfl ?_
    refine stGN 3072 rfl rfl rfl ?_
    refine st0 3136 rfl (ok (pick_f rfl _ (.d (eB false)))) ?_
    refine st0 3200 rfl (ok (mv (.d (eB false)))) ?_
    refine stGN 3264 rfl rfl rfl ?_
    refine stGN 3328 rfl rfl rfl ?_
    refine stGN 3392 rfl rfl rfl ?_
    refine st0 3456 rfl (ok (pick_f rfl _ (.d (eB false)))) ?_
    refine st0 3520 rfl (ok (mv (.d (eB false)))) ?_
    refine hK20 _ _ ?_
    simp only [thenK, blockK, keepE, updM, List.filter_cons, List.filter_nil, List.nil_append, List.cons_append, List.map_cons, List.map_nil, envE, Mem.get, Nat.reduceEqDiff, reduceIte, Option.isNone_none, Option.isNone_some, Bool.false_eq_true, List.length_cons, List.length_nil, Nat.reduceAdd, Nat.reduceMul]
    refine hK19 _ _ _ ?_
    refine rwp_ret ?_
    obtain rfl := Option.some.inj h
    try simp only [thenK, blockK, reduceIte]
    exact Or.inl (end_ok trivial (rs_t (v := .d (eB false)) rfl rs_nil) (en_d (to_d _) en_nil) ou_nil (by first | exact eok rfl rfl rfl rfl trivial | (refine eok ?_ ?_ ?_ ?_ ?_ <;> first | rfl | exact trivial | simp [retM, Mem.get, PV.renL, PV.ren, Blk.ren, comps, rhoR, rhoM, appN, PV.refsL, PV.refs, keys, nodupB, Blk.refs, allIn, Blk.bor])))

end Go.Proofs.Ty
