/- Each Go function comes to what its plain function says. PRINTED by a program of this session (ty.py). -/
import Derived.Test.YtkcbojjoellloaaS7
set_option linter.unusedVariables false
set_option linter.unusedSimpArgs false
set_option maxHeartbeats 4000000
set_option maxRecDepth 10000
namespace Go.Proofs.Ty
open Go Go.RW Go.Proofs
/-- passkey/passkeylaw6.SealOnly -/
def passkeylaw6SealOnlyH : Hints := ⟨[(0, [0, 1, 2, 4]), (1, [0, 1, 2, 4, 23]), (2, [10]), (3, [0, 1, 2, 11]), (4, [0, 1, 2, 11, 13]), (5, [0, 1, 2, 11, 13, 34]), (7, [0, 1, 2, 11, 13, 14]), (8, [0, 1, 2, 11, 13, 14, 15, 16]), (9, [0, 1, 2, 11, 13, 14, 15, 51]), (10, [0, 1, 2, 11, 13, 14, 15, 54]), (11, [10]), (12, [0, 1, 2, 11, 13, 14, 17, 18]), (13, [0, 1, 2, 11, 13, 73]), (14, [10]), (6, [0, 1, 2, 11, 13]), (15, [10])], []⟩
def passkeylaw6SealOnlyRc : RCode :=
  .seq (.region false [⟨some 10, .mv, [.k (.d (.bool false))], none, []⟩] [0, 1, 2, 4]) (.seq (.seq (.region false [⟨some 19, .mv, [.t 1], none, []⟩, ⟨some 20, .mv, [.t 2], none,
  []⟩, ⟨some 21, .bslice 1 false 2 [.nil 1] [0, 1], [.t 19, .t 20], none, []⟩, ⟨some 22, .call 12 false, [.t 21], none, []⟩, ⟨some 23, .un .not, [.t 22], none, []⟩] [0, 1, 2, 4,
  23]) (.cond (.t 23) (.seq (.region false [⟨some 24, .call 11 false, [], none, []⟩, ⟨some 10, .mv, [.t 24], none, []⟩] [10]) .ret) .skip)) (.seq (.region false [⟨some 26, .mv, [.t
  0], none, []⟩, ⟨some 27, .mv, [.t 4], none, []⟩, ⟨some 28, .mv, [.t 1], none, []⟩, ⟨some 29, .mv, [.t 2], none, []⟩, ⟨some 30, .call 14 true, [.t 26, .t 27, .t 28, .t 29], none,
  []⟩, ⟨some 25, .mv, [.t 30], none, []⟩, ⟨some 31, .ext 0, [.t 25], none, []⟩, ⟨some 32, .ext 1, [.t 25], none, []⟩, ⟨some 11, .mv, [.t 31], none, []⟩, ⟨some 12, .mv, [.t 32],
  none, []⟩] [0, 1, 2, 11]) (.seq (.seq (.region false [⟨some 13, .mv, [.k (.d (.int .i64 0))], none, []⟩] [0, 1, 2, 11, 13]) (.block 0 (.loop [] (.seq (.seq (.region false [⟨some
  33, .mv, [.t 13], none, []⟩, ⟨some 34, .bin .lss, [.t 33, .k (.d (.int .i64 2))], none, []⟩] [0, 1, 2, 11, 13, 34]) (.cond (.t 34) .skip (.exit 0))) (.seq (.block 1 (.seq
  (.region false [⟨some 37, .mv, [.t 2], none, []⟩, ⟨some 38, .mv, [.t 11], none, []⟩, ⟨some 39, .bslice 1 false 2 [.nil 1] [0, 1], [.t 37, .t 38], none, []⟩, ⟨some 40, .mv, [.t
  13], none, []⟩, ⟨some 41, .ia 1, [.t 39, .t 40], none, []⟩, ⟨some 42, .load 1 false, [.t 41], none, []⟩, ⟨some 14, .mv, [.t 42], none, []⟩] [0, 1, 2, 11, 13, 14]) (.seq (.region
  false [⟨some 44, .mv, [.t 0], none, []⟩, ⟨some 45, .mv, [.t 1], none, []⟩, ⟨some 46, .mv, [.t 14], none, []⟩, ⟨some 47, .call 16 true, [.t 44, .t 45, .t 46], none, []⟩, ⟨some 43,
  .mv, [.t 47], none, []⟩, ⟨some 48, .ext 0, [.t 43], none, []⟩, ⟨some 49, .ext 1, [.t 43], none, []⟩, ⟨some 15, .mv, [.t 48], none, []⟩, ⟨some 16, .mv, [.t 49], none, []⟩] [0, 1,
  2, 11, 13, 14, 15, 16]) (.seq (.seq (.region false [⟨some 50, .mv, [.t 16], none, []⟩, ⟨some 51, .bin .neq, [.t 50, .k (.d (.int .i64 0))], none, []⟩] [0, 1, 2, 11, 13, 14, 15,
  51]) (.cond (.t 51) (.exit 1) .skip)) (.seq (.seq (.region false [⟨some 52, .mv, [.t 14], none, []⟩, ⟨some 53, .len, [.t 52], none, []⟩, ⟨some 54, .bin .lss, [.t 53, .k (.d (.int
  .i64 16))], none, []⟩] [0, 1, 2, 11, 13, 14, 15, 54]) (.cond (.t 54) (.seq (.region false [⟨some 10, .mv, [.k (.d (.bool false))], none, []⟩] [10]) .ret) .skip)) (.seq (.region
  false [⟨some 56, .mv, [.t 0], none, []⟩, ⟨some 57, .mv, [.t 14], none, []⟩, ⟨some 58, .slice 1 false true false, [.t 57, .k (.d (.int .i64 8))], none, []⟩, ⟨some 59, .call 17
  false, [.t 58], none, []⟩, ⟨some 60, .mv, [.t 1], none, []⟩, ⟨some 61, .mv, [.t 15], none, []⟩, ⟨some 62, .call 13 true, [.t 56, .t 59, .t 60, .t 61], none, []⟩, ⟨some 55, .mv,
  [.t 62], none, []⟩, ⟨some 63, .ext 0, [.t 55], none, []⟩, ⟨some 64, .ext 1, [.t 55], none, []⟩, ⟨some 17, .mv, [.t 63], none, []⟩, ⟨some 18, .mv, [.t 64], none, []⟩] [0, 1, 2,
  11, 13, 14, 17, 18]) (.seq (.region false [⟨some 65, .mv, [.t 18], none, []⟩, ⟨some 66, .bin .neq, [.t 65, .k (.d (.int .i64 0))], none, []⟩, ⟨some 67, .mv, [.t 66], none, []⟩,
  ⟨some 68, .mv, [.t 17], some (67, false), []⟩, ⟨some 69, .b2s, [.t 68], some (67, false), []⟩, ⟨some 70, .mv, [.t 14], some (67, false), []⟩, ⟨some 71, .b2s, [.t 70], some (67,
  false), []⟩, ⟨some 72, .bin .neq, [.t 69, .t 71], some (67, false), []⟩, ⟨some 73, .pick, [.t 67, .k (.d (.bool true)), .t 72], none, []⟩] [0, 1, 2, 11, 13, 73]) (.cond (.t 73)
  (.seq (.region false [⟨some 10, .mv, [.k (.d (.bool false))], none, []⟩] [10]) .ret) .skip)))))))) (.region false [⟨some 35, .mv, [.t 13], none, []⟩, ⟨some 36, .bin .add, [.t 35,
  .k (.d (.int .i64 1))], none, []⟩, ⟨some 13, .mv, [.t 36], none, []⟩] [0, 1, 2, 11, 13])))))) (.seq (.region false [⟨some 74, .call 11 false, [], none, []⟩, ⟨some 10, .mv, [.t
  74], none, []⟩] [10]) .ret))))
def passkeylaw6SealOnlyRr : List RR := [.t 10]
theorem passkeylaw6SealOnlyC : compFn Try.prog 7 passkeylaw6SealOnlyH = some (passkeylaw6SealOnlyRc, passkeylaw6SealOnlyRr, 75) := by kernel_rfl
theorem passkeylaw6SealOnlyOK (a0 : BitVec 64) (a1 : List (BitVec 8)) (a2 : List (BitVec 8)) (a3 : Int) (a4 : BitVec 64) (res : Bool) (h : passkeylaw6SealOnly a0 a1 a2 a3 a4 = some res) : CallOK Try.prog 7 [.d (eU64 a0), .d ((eL 1 eU8) a1), .d ((eL 1 eU8) a2), .d (eI a3), .d (eU64 a4)] [] (.d (eB res)) [] := by
  unfold passkeylaw6SealOnly at h
  refine callOK passkeylaw6SealOnlyC fm rfl ?_
  simp only [initE, initM, nbor, List.map_cons, List.map_nil, Nat.reduceAdd]
  unfold passkeylaw6SealOnlyRc
  refine rwp_seq fun K1 hK1 => ?_
  refine rwp_region fun K2 hK2 => ?_
  refine st0 128 rfl (ok (mv (.d (eB false)))) ?_
  refine hK2 _ _ ?_
  simp only [thenK, blockK, keepE, updM, List.filter_cons, List.filter_nil, List.nil_append, List.cons_append, List.map_cons, List.map_nil, envE, Mem.get, Nat.reduceEqDiff, reduceIte, Option.isNone_none, Option.isNone_some, Bool.false_eq_true, List.length_cons, List.length_nil, Nat.reduceAdd, Nat.reduceMul]
  refine hK1 _ _ _ ?_
  refine rwp_seq fun K3 hK3 => ?_
  refine rwp_seq fun K4 hK4 => ?_
  refine rwp_region fun K5 hK5 => ?_
  refine st0 192 rfl (ok (mv (.d ((eL 1 eU8) a1)))) ?_
  refine st0 256 rfl (ok (mv (.d ((eL 1 eU8) a2)))) ?_
  refine st1 320 rfl (mem' := [(256, .row true 1 (([a1, a2] : List (List (BitVec 8))).map (eL 1 eU8)))]) (ok (bsl (e := (eL 1 eU8)) (ys := ([a1, a2] : List (List (BitVec 8)))) rfl rfl rfl)) rfl ?_
  obtain ⟨y6, h7, h⟩ := bind_inv h
  refine st0 384 rfl (call_ok (v := .d (eB y6)) (u := []) (ar_to rfl (to_1 rfl (ds_r (ys := ([a1, a2] : List (List (BitVec 8)))) rfl rfl rfl ds_nil)) ar_nil) rfl (passkeylaw6shortOK ([a1, a2] : List (List (BitVec 8))) y6 h7) rfl) ?_
  refine st0 448 rfl (ok (notB _)) ?_
  refine hK5 _ _ ?_
  simp only [thenK, blockK, keepE, updM, List.filter_cons, List.filter_nil, List.nil_append, List.cons_append, List.map_cons, List.map_nil, envE, Mem.get, Nat.reduceEqDiff, reduceIte, Option.isNone_none, Option.isNone_some, Bool.false_eq_true, List.length_cons, List.length_nil, Nat.reduceAdd, Nat.reduceMul]
  refine hK4 _ _ _ ?_
  rcases Bool.eq_false_or_eq_true ((!y6)) with h8 | h8
  · replace h := ite_t h h8
    refine rwp_t (isT h8) ?_
    refine rwp_seq fun K9 hK9 => ?_
    refine rwp_region fun K10 hK10 => ?_
    obtain ⟨y11, h12, h⟩ := bind_inv h
    refine st0 512 rfl (call_ok (v := .d (eB y11)) (u := []) ar_nil rfl (passkeylaw6awakeOK  y11 h12) rfl) ?_
    refine st0 576 rfl (ok (mv (.d (eB y11)))) ?_
    refine hK10 _ _ ?_
    simp only [thenK, blockK, keepE, updM, List.filter_cons, List.filter_nil, List.nil_append, List.cons_append, List.map_cons, List.map_nil, envE, Mem.get, Nat.reduceEqDiff, reduceIte, Option.isNone_none, Option.isNone_some, Bool.false_eq_true, List.length_cons, List.length_nil, Nat.reduceAdd, Nat.reduceMul]
    refine hK9 _ _ _ ?_
    refine rwp_ret ?_
    obtain rfl := Option.some.inj h
    try simp only [thenK, blockK, reduceIte]
    exact Or.inl (end_ok trivial (rs_t (v := .d (eB y11)) rfl rs_nil) (en_d (to_d _) en_nil) ou_nil (by first | exact eok rfl rfl rfl rfl trivial | (refine eok ?_ ?_ ?_ ?_ ?_ <;> first | rfl | exact trivial | simp [retM, Mem.get, PV.renL, PV.ren, Blk.ren, comps, rhoR, rhoM, appN, PV.refsL, PV.refs, keys, nodupB, Blk.refs, allIn, Blk.bor])))
  · replace h := ite_f h h8
    refine rwp_f (isF h8) ?_
    refine rwp_skip ?_
    refine hK3 _ _ _ ?_
    refine rwp_seq fun K13 hK13 => ?_
    refine rwp_region fun K14 hK14 => ?_
    refine st0 512 rfl (ok (mv (.d (eU64 a0)))) ?_
    refine st0 576 rfl (ok (mv (.d (eU64 a4)))) ?_
    refine st0 640 rfl (ok (mv (.d ((eL 1 eU8) a1)))) ?_
    refine st0 704 rfl (ok (mv (.d ((eL 1 eU8) a2)))) ?_
    obtain ⟨y15, h16, h⟩ := bind_inv h
    refine st1 768 rfl (mem' := [(704, .row true 1 (y15.1.map eU8)), (256, .row true 1 (([a1, a2] : List (List (BitVec 8))).map (eL 1 eU8)))]) (call_ok (v := .tup [.ref 704 y15.1.length 0 y15.1.length, .d (eI y15.2)]) (u := [(704, .row true 1 (y15.1.map eU8))]) (ar_d (eU64 a0) (ar_d (eU64 a4) (ar_d ((eL 1 eU8) a1) (ar_d ((eL 1 eU8) a2) ar_nil)))) rfl (passkeyref3SealOK a0 a4 a1 a2 y15 h16) rfl) rfl ?_
    refine st0 832 rfl (ok (mv (.tup [.ref 704 y15.1.length 0 y15.1.length, .d (eI y15.2)]))) ?_
    refine st0 896 rfl (ok (extr (v := .ref 704 y15.1.length 0 y15.1.length) rfl rfl)) ?_
    refine st0 960 rfl (ok (extr (v := .d (eI y15.2)) rfl rfl)) ?_
    refine st0 1024 rfl (ok (mv (.ref 704 y15.1.length 0 y15.1.length))) ?_
    refine st0 1088 rfl (ok (mv (.d (eI y15.2)))) ?_
    refine hK14 _ _ ?_
    simp only [thenK, blockK, keepE, updM, List.filter_cons, List.filter_nil, List.nil_append, List.cons_append, List.map_cons, List.map_nil, envE, Mem.get, Nat.reduceEqDiff, reduceIte, Option.isNone_none, Option.isNone_some, Bool.false_eq_true, List.length_cons, List.length_nil, Nat.reduceAdd, Nat.reduceMul]
    refine hK13 _ _ _ ?_
    refine rwp_join ([], []) 4608 (fun env mem => passkeylaw6SealOnlyJ1 = some res ∧ env = [] ∧ mem = []) (fun _ _ hI => ?_) (fun K17 hK17 => ?_)
    · obtain ⟨h, rfl, rfl⟩ := hI
      unfold passkeylaw6SealOnlyJ1 at h
      refine rwp_seq fun K18 hK18 => ?_
      refine rwp_region fun K19 hK19 => ?_
      obtain ⟨y20, h21, h⟩ := bind_inv h
      refine st0 4672 rfl (call_ok (v := .d (eB y20)) (u := []) ar_nil rfl (passkeylaw6awakeOK  y20 h21) rfl) ?_
      refine st0 4736 rfl (ok (mv (.d (eB y20)))) ?_
      refine hK19 _ _ ?_
      simp only [thenK, blockK, keepE, updM, List.filter_cons, List.filter_nil, List.nil_append, List.cons_append, List.map_cons, List.map_nil, envE, Mem.get, Nat.reduceEqDiff, reduceIte, Option.isNone_none, Option.isNone_some, Bool.false_eq_true, List.length_cons, List.length_nil, Nat.reduceAdd, Nat.reduceMul]
      refine hK18 _ _ _ ?_
      refine rwp_ret ?_
      obtain rfl := Option.some.inj h
      try simp only [thenK, blockK, reduceIte]
      exact Or.inl (end_ok trivial (rs_t (v := .d (eB y20)) rfl rs_nil) (en_d (to_d _) en_nil) ou_nil (by first | exact eok rfl rfl rfl rfl trivial | (refine eok ?_ ?_ ?_ ?_ ?_ <;> first | rfl | exact trivial | simp [retM, Mem.get, PV.renL, PV.ren, Blk.ren, comps, rhoR, rhoM, appN, PV.refsL, PV.refs, keys, nodupB, Blk.refs, allIn, Blk.bor])))
    · refine rwp_seq fun K22 hK22 => ?_
      refine rwp_region fun K23 hK23 => ?_
      refine st0 1152 rfl (ok (mv (.d (eI (0 : Int))))) ?_
      refine hK23 _ _ ?_
      simp only [thenK, blockK, keepE, updM, List.filter_cons, List.filter_nil, List.nil_append, List.cons_append, List.map_cons, List.map_nil, envE, Mem.get, Nat.reduceEqDiff, reduceIte, Option.isNone_none, Option.isNone_some, Bool.false_eq_true, List.length_cons, List.length_nil, Nat.reduceAdd, Nat.reduceMul]
      refine hK22 _ _ _ ?_
      refine rwp_block fun K24 hK24 => ?_
      refine rwp_loop ([], []) 4416 (fun k env mem => ∃ (v25 : Int), passkeylaw6SealOnlyL2 a0 a1 a2 y15 k v25 = some res ∧ env = [(0, .d (eU64 a0)), (1, .d ((eL 1 eU8) a1)), (2, .d ((eL 1 eU8) a2)), (11, .d ((eL 1 eU8) y15.1)), (13, .d (eI v25))] ∧ mem = []) FUEL ⟨_, _, (Settled.slot 11 (to_1 rfl (ds_r (ys := y15.1) rfl rfl rfl ds_nil)) Settled.refl), _, _, ⟨_, h, rfl, rfl⟩, ⟨rfl, ⟨⟨rfl, rfl⟩, ⟨⟨rfl, rfl⟩, ⟨⟨rfl, rfl⟩, ⟨⟨rfl, rfl⟩, ⟨⟨rfl, rfl⟩, trivial⟩⟩⟩⟩⟩, trivial⟩, rfl⟩ (fun k2 env1 mem1 hI K26 hK26 => ?_)
      obtain ⟨v25, h, rfl, rfl⟩ := hI
      cases k2 with
      | zero => simp [passkeylaw6SealOnlyL2] at h
      | succ k2 =>
        rw [passkeylaw6SealOnlyL2] at h
        refine rwp_seq fun K27 hK27 => ?_
        refine rwp_seq fun K28 hK28 => ?_
        refine rwp_region fun K29 hK29 => ?_
        refine st0 4480 rfl (ok (mv (.d (eI v25)))) ?_
        refine st0 4544 rfl (ok (lssI _ (2 : Int))) ?_
        refine hK29 _ _ ?_
        simp only [thenK, blockK, keepE, updM, List.filter_cons, List.filter_nil, List.nil_append, List.cons_append, List.map_cons, List.map_nil, envE, Mem.get, Nat.reduceEqDiff, reduceIte, Option.isNone_none, Option.isNone_some, Bool.false_eq_true, List.length_cons, List.length_nil, Nat.reduceAdd, Nat.reduceMul]
        refine hK28 _ _ _ ?_
        rcases Bool.eq_false_or_eq_true ((decide (v25 < (2 : Int)))) with h30 | h30
        · replace h := ite_t h h30
          refine rwp_t (isT h30) ?_
          refine rwp_skip ?_
          refine hK27 _ _ _ ?_
          refine rwp_join ([], []) 7360 (fun env mem => passkeylaw6SealOnlyJ3 (passkeylaw6SealOnlyL2 a0 a1 a2 y15 k2) v25 = some res ∧ env = [(0, .d (eU64 a0)), (1, .d ((eL 1 eU8) a1)), (2, .d ((eL 1 eU8) a2)), (11, .d ((eL 1 eU8) y15.1)), (13, .d (eI v25))] ∧ mem = []) (fun _ _ hI => ?_) (fun K31 hK31 => ?_)
          · obtain ⟨h, rfl, rfl⟩ := hI
            unfold passkeylaw6SealOnlyJ3 at h
            refine rwp_region fun K32 hK32 => ?_
            refine st0 7424 rfl (ok (mv (.d (eI v25)))) ?_
            refine st0 7488 rfl (ok (addI _ (1 : Int))) ?_
            refine st0 7552 rfl (ok (mv (.d (eI (w64 (v25 + (1 : Int))))))) ?_
            refine hK32 _ _ ?_
            simp only [thenK, blockK, keepE, updM, List.filter_cons, List.filter_nil, List.nil_append, List.cons_append, List.map_cons, List.map_nil, envE, Mem.get, Nat.reduceEqDiff, reduceIte, Option.isNone_none, Option.isNone_some, Bool.false_eq_true, List.length_cons, List.length_nil, Nat.reduceAdd, Nat.reduceMul]
            exact hK26.out _ _ _ k2 (Nat.lt_succ_self k2) ⟨_, _, Settled.refl, _, _, ⟨_, h, rfl, rfl⟩, ⟨rfl, ⟨⟨rfl, rfl⟩, ⟨⟨rfl, rfl⟩, ⟨⟨rfl, rfl⟩, ⟨⟨rfl, rfl⟩, ⟨⟨rfl, rfl⟩, trivial⟩⟩⟩⟩⟩, trivial⟩, rfl⟩
          · refine rwp_block fun K33 hK33 => ?_
            refine rwp_seq fun K34 hK34 => ?_
            refine rwp_region fun K35 hK35 => ?_
            refine st0 4608 rfl (ok (mv (.d ((eL 1 eU8) a2)))) ?_
            refine st0 4672 rfl (ok (mv (.d ((eL 1 eU8) y15.1)))) ?_
            refine st1 4736 rfl (mem' := [(4672, .row true 1 (([a2, y15.1] : List (List (BitVec 8))).map (eL 1 eU8)))]) (ok (bsl (e := (eL 1 eU8)) (ys := ([a2, y15.1] : List (List (BitVec 8)))) rfl rfl rfl)) rfl ?_
            refine st0 4800 rfl (ok (mv (.d (eI v25)))) ?_
            obtain ⟨h36, h⟩ := asq_inv h
            refine st0 4864 rfl (ok (iaR (xs := ([a2, y15.1] : List (List (BitVec 8)))) (e := (eL 1 eU8)) rfl rfl h36)) ?_
            refine st0 4928 rfl (ok (ld_r (e := (eL 1 eU8)) (xs := ([a2, y15.1] : List (List (BitVec 8)))) ([] : List (BitVec 8)) rfl rfl (by have := h36; simp at this ⊢; omega) rfl)) ?_
            refine st0 4992 rfl (ok (mv (.d ((eL 1 eU8) (([a2, y15.1] : List (List (BitVec 8))).getD (0 + v25.toNat) ([] : List (BitVec 8))))))) ?_
            refine hK35 _ _ ?_
            simp only [thenK, blockK, keepE, updM, List.filter_cons, List.filter_nil, List.nil_append, List.cons_append, List.map_cons, List.map_nil, envE, Mem.get, Nat.reduceEqDiff, reduceIte, Option.isNone_none, Option.isNone_some, Bool.false_eq_true, List.length_cons, List.length_nil, Nat.reduceAdd, Nat.reduceMul]
            refine hK34 _ _ _ ?_
            refine rwp_seq fun K37 hK37 => ?_
            refine rwp_region fun K38 hK38 => ?_
            refine st0 5056 rfl (ok (mv (.d (eU64 a0)))) ?_
            refine st0 5120 rfl (ok (mv (.d ((eL 1 eU8) a1)))) ?_
            refine st0 5184 rfl (ok (mv (.d ((eL 1 eU8) (([a2, y15.1] : List (List (BitVec 8))).getD (0 + v25.toNat) ([] : List (BitVec 8))))))) ?_
            obtain ⟨y39, h40, h⟩ := bind_inv h
            refine st1 5248 rfl (mem' := [(5184, .row true 1 (y39.1.map eU8)), (4672, .row true 1 (([a2, y15.1] : List (List (BitVec 8))).map (eL 1 eU8)))]) (call_ok (v := .tup [.ref 5184 y39.1.length 0 y39.1.length, .d (eI y39.2)]) (u := [(5184, .row true 1 (y39.1.map eU8))]) (ar_d (eU64 a0) (ar_d ((eL 1 eU8) a1) (ar_d ((eL 1 eU8) (([a2, y15.1] : List (List (BitVec 8))).getD (0 + v25.toNat) ([] : List (BitVec 8)))) ar_nil))) rfl (sealOpenOK a0 a1 (([a2, y15.1] : List (List (BitVec 8))).getD (0 + v25.toNat) ([] : List (BitVec 8))) y39 h40) rfl) rfl ?_
            refine st0 5312 rfl (ok (mv (.tup [.ref 5184 y39.1.length 0 y39.1.length, .d (eI y39.2)]))) ?_
            refine st0 5376 rfl (ok (extr (v := .ref 5184 y39.1.length 0 y39.1.length) rfl rfl)) ?_
            refine st0 5440 rfl (ok (extr (v := .d (eI y39.2)) rfl rfl)) ?_
            refine st0 5504 rfl (ok (mv (.ref 5184 y39.1.length 0 y39.1.length))) ?_
            refine st0 5568 rfl (ok (mv (.d (eI y39.2)))) ?_
            refine hK38 _ _ ?_
            simp only [thenK, blockK, keepE, updM, List.filter_cons, List.filter_nil, List.nil_append, List.cons_append, List.map_cons, List.map_nil, envE, Mem.get, Nat.reduceEqDiff, reduceIte, Option.isNone_none, Option.isNone_some, Bool.false_eq_true, List.length_cons, List.length_nil, Nat.reduceAdd, Nat.reduceMul]
            refine hK37 _ _ _ ?_
            refine rwp_seq fun K41 hK41 => ?_
            refine rwp_seq fun K42 hK42 => ?_
            refine rwp_region fun K43 hK43 => ?_
            refine st0 5632 rfl (ok (mv (.d (eI y39.2)))) ?_
            refine st0 5696 rfl (ok (neqI _ (0 : Int))) ?_
            refine hK43 _ _ ?_
            simp only [thenK, blockK, keepE, updM, List.filter_cons, List.filter_nil, List.nil_append, List.cons_append, List.map_cons, List.map_nil, envE, Mem.get, Nat.reduceEqDiff, reduceIte, Option.isNone_none, Option.isNone_some, Bool.false_eq_true, List.length_cons, List.length_nil, Nat.reduceAdd, Nat.reduceMul]
            refine hK42 _ _ _ ?_
            rcases Bool.eq_false_or_eq_true ((y39.2 != (0 : Int))) with h44 | h44
            · replace h := ite_t h h44
              refine rwp_t (isT h44) ?_
              refine rwp_exit ?_
              refine hK33 _ _ _ ?_
              exact hK31 _ _ _ ⟨_, _, Settled.refl, _, _, ⟨h, rfl, rfl⟩, ⟨rfl, ⟨⟨rfl, rfl⟩, ⟨⟨rfl, rfl⟩, ⟨⟨rfl, rfl⟩, ⟨⟨rfl, rfl⟩, ⟨⟨rfl, rfl⟩, trivial⟩⟩⟩⟩⟩, trivial⟩, rfl⟩
            · replace h := ite_f h h44
              refine rwp_f (isF h44) ?_
              refine rwp_skip ?_
              refine hK41 _ _ _ ?_
              refine rwp_seq fun K45 hK45 => ?_
              refine rwp_seq fun K46 hK46 => ?_
              refine rwp_region fun K47 hK47 => ?_
              refine st0 5760 rfl (ok (mv (.d ((eL 1 eU8) (([a2, y15.1] : List (List (BitVec 8))).getD (0 + v25.toNat) ([] : List (BitVec 8))))))) ?_
              refine st0 5824 rfl (ok (lenL _ _)) ?_
              refine st0 5888 rfl (ok (lssI _ (16 : Int))) ?_
              refine hK47 _ _ ?_
              simp only [thenK, blockK, keepE, updM, List.filter_cons, List.filter_nil, List.nil_append, List.cons_append, List.map_cons, List.map_nil, envE, Mem.get, Nat.reduceEqDiff, reduceIte, Option.isNone_none, Option.isNone_some, Bool.false_eq_true, List.length_cons, List.length_nil, Nat.reduceAdd, Nat.reduceMul]
              refine hK46 _ _ _ ?_
              rcases Bool.eq_false_or_eq_true ((decide ((((([a2, y15.1] : List (List (BitVec 8))).getD (0 + v25.toNat) ([] : List (BitVec 8)))).length : Int) < (16 : Int)))) with h48 | h48
              · replace h := ite_t h h48
                refine rwp_t (isT h48) ?_
                refine rwp_seq fun K49 hK49 => ?_
                refine rwp_region fun K50 hK50 => ?_
                refine st0 5952 rfl (ok (mv (.d (eB false)))) ?_
                refine hK50 _ _ ?_
                simp only [thenK, blockK, keepE, updM, List.filter_cons, List.filter_nil, List.nil_append, List.cons_append, List.map_cons, List.map_nil, envE, Mem.get, Nat.reduceEqDiff, reduceIte, Option.isNone_none, Option.isNone_some, Bool.false_eq_true, List.length_cons, List.length_nil, Nat.reduceAdd, Nat.reduceMul]
                refine hK49 _ _ _ ?_
                refine rwp_ret ?_
                obtain rfl := Option.some.inj h
                try simp only [thenK, blockK, reduceIte]
                exact Or.inl (end_ok trivial (rs_t (v := .d (eB false)) rfl rs_nil) (en_d (to_d _) en_nil) ou_nil (by first | exact eok rfl rfl rfl rfl trivial | (refine eok ?_ ?_ ?_ ?_ ?_ <;> first | rfl | exact trivial | simp [retM, Mem.get, PV.renL, PV.ren, Blk.ren, comps, rhoR, rhoM, appN, PV.refsL, PV.refs, keys, nodupB, Blk.refs, allIn, Blk.bor])))
              · replace h := ite_f h h48
                refine rwp_f (isF h48) ?_
                refine rwp_skip ?_
                refine hK45 _ _ _ ?_
                refine rwp_seq fun K51 hK51 => ?_
                refine rwp_region fun K52 hK52 => ?_
                refine st0 5952 rfl (ok (mv (.d (eU64 a0)))) ?_
                refine st0 6016 rfl (ok (mv (.d ((eL 1 eU8) (([a2, y15.1] : List (List (BitVec 8))).getD (0 + v25.toNat) ([] : List (BitVec 8))))))) ?_
                obtain ⟨h53, h⟩ := asq_inv h
                obtain ⟨v54, h55, h⟩ := lett_inv h
                refine st0e 6080 rfl (ok (slL_h (xs := (([a2, y15.1] : List (List (BitVec 8))).getD (0 + v25.toNat) ([] : List (BitVec 8)))) (e := eU8) h53)) (congrArg (fun z => PV.d ((eL 1 eU8) z)) h55) ?_
                obtain ⟨y56, h57, h⟩ := bind_inv h
                refine st0 6144 rfl (call_ok (v := .d (eU64 y56)) (u := []) (ar_d ((eL 1 eU8) v54) ar_nil) rfl (passkeyref1WordOK v54 y56 h57) rfl) ?_
                refine st0 6208 rfl (ok (mv (.d ((eL 1 eU8) a1)))) ?_
                refine st0 6272 rfl (ok (mv (.ref 5184 y39.1.length 0 y39.1.length))) ?_
                obtain ⟨y58, h59, h⟩ := bind_inv h
                refine st1 6336 rfl (mem' := [(6272, .row true 1 (y58.1.map eU8)), (5184, .row false 1 (y39.1.map eU8)), (4672, .row true 1 (([a2, y15.1] : List (List (BitVec 8))).map (eL 1 eU8)))]) (call_ok (v := .tup [.ref 6272 y58.1.length 0 y58.1.length, .d (eI y58.2)]) (u := [(6272, .row true 1 (y58.1.map eU8)), (5184, .row false 1 (y39.1.map eU8))]) (ar_d (eU64 a0) (ar_d (eU64 y56) (ar_d ((eL 1 eU8) a1) (ar_to rfl (to_1 rfl (ds_r (ys := y39.1) rfl rfl rfl ds_nil)) ar_nil)))) rfl (sealSealOK a0 y56 a1 y39.1 y58 h59) rfl) rfl ?_
                refine st0 6400 rfl (ok (mv (.tup [.ref 6272 y58.1.length 0 y58.1.length, .d (eI y58.2)]))) ?_
                refine st0 6464 rfl (ok (extr (v := .ref 6272 y58.1.length 0 y58.1.length) rfl rfl)) ?_
                refine st0 6528 rfl (ok (extr (v := .d (eI y58.2)) rfl rfl)) ?_
                refine st0 6592 rfl (ok (mv (.ref 6272 y58.1.length 0 y58.1.length))) ?_
                refine st0 6656 rfl (ok (mv (.d (eI y58.2)))) ?_
                refine hK52 _ _ ?_
                simp only [thenK, blockK, keepE, updM, List.filter_cons, List.filter_nil, List.nil_append, List.cons_append, List.map_cons, List.map_nil, envE, Mem.get, Nat.reduceEqDiff, reduceIte, Option.isNone_none, Option.isNone_some, Bool.false_eq_true, List.length_cons, List.length_nil, Nat.reduceAdd, Nat.reduceMul]
                refine hK51 _ _ _ ?_
                refine rwp_join ([], []) 7296 (fun env mem => ∃ (v60 : Bool), passkeylaw6SealOnlyJ4 (passkeylaw6SealOnlyL2 a0 a1 a2 y15 k2) v25 v60 = some res ∧ env = [(0, .d (eU64 a0)), (1, .d ((eL 1 eU8) a1)), (2, .d ((eL 1 eU8) a2)), (11, .d ((eL 1 eU8) y15.1)), (13, .d (eI v25)), (73, .d (eB v60))] ∧ mem = []) (fun _ _ hI => ?_) (fun K61 hK61 => ?_)
                · obtain ⟨v60, h, rfl, rfl⟩ := hI
                  unfold passkeylaw6SealOnlyJ4 at h
                  rcases Bool.eq_false_or_eq_true (v60) with h62 | h62
                  · replace h := ite_t h h62
                    refine rwp_t (isT h62) ?_
                    refine rwp_seq fun K63 hK63 => ?_
                    refine rwp_region fun K64 hK64 => ?_
                    refine st0 7360 rfl (ok (mv (.d (eB false)))) ?_
                    refine hK64 _ _ ?_
                    simp only [thenK, blockK, keepE, updM, List.filter_cons, List.filter_nil, List.nil_append, List.cons_append, List.map_cons, List.map_nil, envE, Mem.get, Nat.reduceEqDiff, reduceIte, Option.isNone_none, Option.isNone_some, Bool.false_eq_true, List.length_cons, List.length_nil, Nat.reduceAdd, Nat.reduceMul]
                    refine hK63 _ _ _ ?_
                    refine rwp_ret ?_
                    obtain rfl := Option.some.inj h
                    try simp only [thenK, blockK, reduceIte]
                    exact Or.inl (end_ok trivial (rs_t (v := .d (eB false)) rfl rs_nil) (en_d (to_d _) en_nil) ou_nil (by first | exact eok rfl rfl rfl rfl trivial | (refine eok ?_ ?_ ?_ ?_ ?_ <;> first | rfl | exact trivial | simp [retM, Mem.get, PV.renL, PV.ren, Blk.ren, comps, rhoR, rhoM, appN, PV.refsL, PV.refs, keys, nodupB, Blk.refs, allIn, Blk.bor])))
                  · replace h := ite_f h h62
                    refine rwp_f (isF h62) ?_
                    refine rwp_skip ?_
                    refine hK33 _ _ _ ?_
                    exact hK31 _ _ _ ⟨_, _, Settled.refl, _, _, ⟨h, rfl, rfl⟩, ⟨rfl, ⟨⟨rfl, rfl⟩, ⟨⟨rfl, rfl⟩, ⟨⟨rfl, rfl⟩, ⟨⟨rfl, rfl⟩, ⟨⟨rfl, rfl⟩, trivial⟩⟩⟩⟩⟩, trivial⟩, rfl⟩
                · refine rwp_region fun K65 hK65 => ?_
                  refine st0 6720 rfl (ok (mv (.d (eI y58.2)))) ?_
                  refine st0 6784 rfl (ok (neqI _ (0 : Int))) ?_
                  refine st0 6848 rfl (ok (mv (.d (eB (y58.2 != (0 : Int)))))) ?_
                  rcases Bool.eq_false_or_eq_true ((y58.2 != (0 : Int))) with h66 | h66
                  · replace h := ite_t h h66
                    refine stGN 6912 rfl rfl h66 ?_
                    refine stGN 6976 rfl rfl h66 ?_
                    refine stGN 7040 rfl rfl h66 ?_
                    refine stGN 7104 rfl rfl h66 ?_
                    refine stGN 7168 rfl rfl h66 ?_
                    refine st0 7232 rfl (ok (pick_t h66 (.d (eB true)) _)) ?_
                    refine hK65 _ _ ?_
                    simp only [thenK, blockK, keepE, updM, List.filter_cons, List.filter_nil, List.nil_append, List.cons_append, List.map_cons, List.map_nil, envE, Mem.get, Nat.reduceEqDiff, reduceIte, Option.isNone_none, Option.isNone_some, Bool.false_eq_true, List.length_cons, List.length_nil, Nat.reduceAdd, Nat.reduceMul]
                    exact hK61 _ _ _ ⟨_, _, Settled.refl, _, _, ⟨_, h, rfl, rfl⟩, ⟨rfl, ⟨⟨rfl, rfl⟩, ⟨⟨rfl, rfl⟩, ⟨⟨rfl, rfl⟩, ⟨⟨rfl, rfl⟩, ⟨⟨rfl, rfl⟩, ⟨⟨rfl, rfl⟩, trivial⟩⟩⟩⟩⟩⟩, trivial⟩, rfl⟩
                  · replace h := ite_f h h66
                    refine stG (isF h66) ?_
                    refine st0 6912 rfl (ok (mv (.ref 6272 y58.1.length 0 y58.1.length))) ?_
                    refine stG (isF h66) ?_
                    refine st0 6976 rfl (ok (b2s (contR (xs := y58.1) rfl rfl rfl))) ?_
                    refine stG (isF h66) ?_
                    refine st0 7040 rfl (ok (mv (.d ((eL 1 eU8) (([a2, y15.1] : List (List (BitVec 8))).getD (0 + v25.toNat) ([] : List (BitVec 8))))))) ?_
                    refine stG (isF h66) ?_
                    refine st0 7104 rfl (ok (b2s contL)) ?_
                    refine stG (isF h66) ?_
                    refine st0 7168 rfl (ok (neqS y58.1 (([a2, y15.1] : List (List (BitVec 8))).getD (0 + v25.toNat) ([] : List (BitVec 8))))) ?_
                    refine st0 7232 rfl (ok (pick_f h66 _ (.d (eB (!(y58.1 == (([a2, y15.1] : List (List (BitVec 8))).getD (0 + v25.toNat) ([] : List (BitVec 8))))))))) ?_
                    refine hK65 _ _ ?_
                    simp only [thenK, blockK, keepE, updM, List.filter_cons, List.filter_nil, List.nil_append, List.cons_append, List.map_cons, List.map_nil, envE, Mem.get, Nat.reduceEqDiff, reduceIte, Option.isNone_none, Option.isNone_some, Bool.false_eq_true, List.length_cons, List.length_nil, Nat.reduceAdd, Nat.reduceMul]
                    exact hK61 _ _ _ ⟨_, _, Settled.refl, _, _, ⟨_, h, rfl, rfl⟩, ⟨rfl, ⟨⟨rfl, rfl⟩, ⟨⟨rfl, rfl⟩, ⟨⟨rfl, rfl⟩, ⟨⟨rfl, rfl⟩, ⟨⟨rfl, rfl⟩, ⟨⟨rfl, rfl⟩, trivial⟩⟩⟩⟩⟩⟩, trivial⟩, rfl⟩
        · replace h := ite_f h h30
          refine rwp_f (isF h30) ?_
          refine rwp_exit ?_
          refine hK24 _ _ _ ?_
          exact hK17 _ _ _ ⟨_, _, Settled.refl, _, _, ⟨h, rfl, rfl⟩, ⟨rfl, trivial, trivial⟩, rfl⟩

end Go.Proofs.Ty
