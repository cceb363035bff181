/- Each Go function comes to what its plain function says. PRINTED by a program of this session (ty.py). -/
import Derived.Test.YtkiffaadahpbkaaS8
set_option linter.unusedVariables false
set_option linter.unusedSimpArgs false
set_option maxHeartbeats 4000000
set_option maxRecDepth 10000
namespace Go.Proofs.Ty
open Go Go.RW Go.Proofs
/-- passkey/passkeyref37.At -/
def passkeyref37AtH : Hints := ⟨[(0, [0, 1]), (1, [0, 1, 15]), (2, [4, 5]), (3, [0, 1, 21]), (4, [4, 5]), (5, [0, 1, 6]), (6, [0, 1, 6, 25]), (8, [0, 1, 6, 7]), (9, [0, 1, 6, 7, 32]), (10, [4, 5]), (7, [0, 1, 6]), (11, [0, 1, 8]), (12, [0, 1, 8, 9]), (13, [0, 1, 8, 9, 43]), (15, [0, 1, 8, 9, 10]), (16, [0, 1, 8, 9, 10, 11]), (17, [0, 1, 8, 9, 10, 11, 49]), (19, [0, 1, 8, 9, 10, 11, 54]), (20, [0, 1, 8, 9, 10, 11]), (18, [0, 1, 8, 9, 10, 11]), (21, [0, 1, 8, 9, 10, 12]), (22, [0, 1, 8, 9, 10, 12, 84]), (24, [0, 1, 8, 9, 10, 12]), (23, [0, 1, 8, 9, 10, 12]), (14, [0, 1, 8, 9]), (25, [4, 5])], []⟩
def passkeyref37AtRc : RCode :=
  .seq (.region false [⟨some 4, .mv, [.k (.nil 1)], none, []⟩, ⟨some 5, .mv, [.k (.d (.int .i64 0))], none, []⟩] [0, 1]) (.seq (.seq (.region false [⟨some 13, .mv, [.t 0], none, []⟩,
  ⟨some 14, .len, [.t 13], none, []⟩, ⟨some 15, .bin .eql, [.t 14, .k (.d (.int .i64 0))], none, []⟩] [0, 1, 15]) (.cond (.t 15) (.seq (.region false [⟨some 4, .mv, [.k (.nil 1)],
  none, []⟩, ⟨some 5, .mv, [.k (.d (.int .i64 1))], none, []⟩] [4, 5]) .ret) .skip)) (.seq (.seq (.region false [⟨some 16, .mv, [.t 1], none, []⟩, ⟨some 17, .bin .lss, [.t 16, .k
  (.d (.int .i64 0))], none, []⟩, ⟨some 18, .mv, [.t 17], none, []⟩, ⟨some 19, .mv, [.t 1], some (18, false), []⟩, ⟨some 20, .bin .gtr, [.t 19, .k (.d (.int .i64 255))], some (18,
  false), []⟩, ⟨some 21, .pick, [.t 18, .k (.d (.bool true)), .t 20], none, []⟩] [0, 1, 21]) (.cond (.t 21) (.seq (.region false [⟨some 4, .mv, [.k (.nil 1)], none, []⟩, ⟨some 5,
  .mv, [.k (.d (.int .i64 9))], none, []⟩] [4, 5]) .ret) .skip)) (.seq (.seq (.region false [⟨some 6, .mv, [.k (.d (.int .i64 0))], none, []⟩] [0, 1, 6]) (.block 0 (.loop [] (.seq
  (.seq (.region false [⟨some 22, .mv, [.t 6], none, []⟩, ⟨some 23, .mv, [.t 0], none, []⟩, ⟨some 24, .len, [.t 23], none, []⟩, ⟨some 25, .bin .lss, [.t 22, .t 24], none, []⟩] [0,
  1, 6, 25]) (.cond (.t 25) .skip (.exit 0))) (.seq (.block 1 (.seq (.region false [⟨some 28, .mv, [.t 0], none, []⟩, ⟨some 29, .mv, [.t 6], none, []⟩, ⟨some 30, .call 33 false,
  [.t 28, .t 29], none, []⟩, ⟨some 7, .mv, [.t 30], none, []⟩] [0, 1, 6, 7]) (.seq (.region false [⟨some 31, .mv, [.t 7], none, []⟩, ⟨some 32, .bin .neq, [.t 31, .k (.d (.int .i64
  0))], none, []⟩] [0, 1, 6, 7, 32]) (.cond (.t 32) (.seq (.region false [⟨some 33, .mv, [.t 7], none, []⟩, ⟨some 4, .mv, [.k (.nil 1)], none, []⟩, ⟨some 5, .mv, [.t 33], none,
  []⟩] [4, 5]) .ret) .skip)))) (.region false [⟨some 26, .mv, [.t 6], none, []⟩, ⟨some 27, .bin .add, [.t 26, .k (.d (.int .i64 1))], none, []⟩, ⟨some 6, .mv, [.t 27], none, []⟩]
  [0, 1, 6])))))) (.seq (.region false [⟨some 34, .mv, [.t 0], none, []⟩, ⟨some 35, .ia 2, [.t 34, .k (.d (.int .i64 0))], none, []⟩, ⟨some 36, .fa 1, [.t 35], none, []⟩, ⟨some 37,
  .load 1 false, [.t 36], none, []⟩, ⟨some 38, .len, [.t 37], none, []⟩, ⟨some 39, .mks 1 false [.d (.int .u8 0)] 281474976710656, [.t 38, .t 38], none, []⟩, ⟨some 8, .mv, [.t 39],
  none, []⟩] [0, 1, 8]) (.seq (.seq (.region false [⟨some 9, .mv, [.k (.d (.int .i64 0))], none, []⟩] [0, 1, 8, 9]) (.block 2 (.loop [] (.seq (.seq (.region false [⟨some 40, .mv,
  [.t 9], none, []⟩, ⟨some 41, .mv, [.t 0], none, []⟩, ⟨some 42, .len, [.t 41], none, []⟩, ⟨some 43, .bin .lss, [.t 40, .t 42], none, []⟩] [0, 1, 8, 9, 43]) (.cond (.t 43) .skip
  (.exit 2))) (.seq (.block 3 (.seq (.region false [⟨some 10, .mv, [.k (.d (.int .u8 1))], none, []⟩] [0, 1, 8, 9, 10]) (.seq (.seq (.region false [⟨some 11, .mv, [.k (.d (.int
  .i64 0))], none, []⟩] [0, 1, 8, 9, 10, 11]) (.block 4 (.loop [] (.seq (.seq (.region false [⟨some 46, .mv, [.t 11], none, []⟩, ⟨some 47, .mv, [.t 0], none, []⟩, ⟨some 48, .len,
  [.t 47], none, []⟩, ⟨some 49, .bin .lss, [.t 46, .t 48], none, []⟩] [0, 1, 8, 9, 10, 11, 49]) (.cond (.t 49) .skip (.exit 4))) (.seq (.block 5 (.seq (.region false [⟨some 52,
  .mv, [.t 11], none, []⟩, ⟨some 53, .mv, [.t 9], none, []⟩, ⟨some 54, .bin .neq, [.t 52, .t 53], none, []⟩] [0, 1, 8, 9, 10, 11, 54]) (.cond (.t 54) (.region true [⟨some 55, .mv,
  [.t 10], none, []⟩, ⟨some 56, .mv, [.t 1], none, []⟩, ⟨some 57, .cvt .u8, [.t 56], none, [1]⟩, ⟨some 58, .mv, [.t 0], none, []⟩, ⟨some 59, .mv, [.t 11], none, []⟩, ⟨some 60, .ia
  2, [.t 58, .t 59], none, [3, 4]⟩, ⟨some 61, .fa 0, [.t 60], none, [3, 4, 5]⟩, ⟨some 62, .load 1 false, [.t 61], none, [3, 4, 5, 6]⟩, ⟨some 63, .cvt .u8, [.t 62], none, [3, 4, 5,
  6, 7]⟩, ⟨some 64, .bin .xor, [.t 57, .t 63], none, [1, 2, 3, 4, 5, 6, 7, 8]⟩, ⟨some 65, .mv, [.t 0], none, []⟩, ⟨some 66, .mv, [.t 9], none, []⟩, ⟨some 67, .ia 2, [.t 65, .t 66],
  none, [10, 11]⟩, ⟨some 68, .fa 0, [.t 67], none, [10, 11, 12]⟩, ⟨some 69, .load 1 false, [.t 68], none, [10, 11, 12, 13]⟩, ⟨some 70, .cvt .u8, [.t 69], none, [10, 11, 12, 13,
  14]⟩, ⟨some 71, .mv, [.t 0], none, []⟩, ⟨some 72, .mv, [.t 11], none, []⟩, ⟨some 73, .ia 2, [.t 71, .t 72], none, [16, 17]⟩, ⟨some 74, .fa 0, [.t 73], none, [16, 17, 18]⟩, ⟨some
  75, .load 1 false, [.t 74], none, [16, 17, 18, 19]⟩, ⟨some 76, .cvt .u8, [.t 75], none, [16, 17, 18, 19, 20]⟩, ⟨some 77, .bin .xor, [.t 70, .t 76], none, [10, 11, 12, 13, 14, 15,
  16, 17, 18, 19, 20, 21]⟩, ⟨some 78, .call 12 false, [.t 77], none, [10, 11, 12, 13, 14, 15, 16, 17, 18, 19, 20, 21, 22]⟩, ⟨some 79, .call 10 false, [.t 64, .t 78], none, [1, 2,
  3, 4, 5, 6, 7, 8, 9, 10, 11, 12, 13, 14, 15, 16, 17, 18, 19, 20, 21, 22, 23]⟩, ⟨some 80, .call 10 false, [.t 55, .t 79], none, [0, 1, 2, 3, 4, 5, 6, 7, 8, 9, 10, 11, 12, 13, 14,
  15, 16, 17, 18, 19, 20, 21, 22, 23, 24]⟩, ⟨some 10, .mv, [.t 80], none, [0, 1, 2, 3, 4, 5, 6, 7, 8, 9, 10, 11, 12, 13, 14, 15, 16, 17, 18, 19, 20, 21, 22, 23, 24, 25]⟩] [0, 1, 8,
  9, 10, 11]) .skip))) (.region false [⟨some 50, .mv, [.t 11], none, []⟩, ⟨some 51, .bin .add, [.t 50, .k (.d (.int .i64 1))], none, []⟩, ⟨some 11, .mv, [.t 51], none, []⟩] [0, 1,
  8, 9, 10, 11])))))) (.seq (.region false [⟨some 12, .mv, [.k (.d (.int .i64 0))], none, []⟩] [0, 1, 8, 9, 10, 12]) (.block 6 (.loop [] (.seq (.seq (.region false [⟨some 81, .mv,
  [.t 12], none, []⟩, ⟨some 82, .mv, [.t 8], none, []⟩, ⟨some 83, .len, [.t 82], none, []⟩, ⟨some 84, .bin .lss, [.t 81, .t 83], none, []⟩] [0, 1, 8, 9, 10, 12, 84]) (.cond (.t 84)
  .skip (.exit 6))) (.seq (.block 7 (.region true [⟨some 87, .mv, [.t 8], none, []⟩, ⟨some 88, .mv, [.t 12], none, []⟩, ⟨some 89, .ia 1, [.t 87, .t 88], none, [0, 1]⟩, ⟨some 90,
  .load 1 false, [.t 89], none, [0, 1, 2]⟩, ⟨some 91, .mv, [.t 10], none, []⟩, ⟨some 92, .mv, [.t 0], none, []⟩, ⟨some 93, .mv, [.t 9], none, []⟩, ⟨some 94, .ia 2, [.t 92, .t 93],
  none, [5, 6]⟩, ⟨some 95, .fa 1, [.t 94], none, [5, 6, 7]⟩, ⟨some 96, .load 1 false, [.t 95], none, [5, 6, 7, 8]⟩, ⟨some 97, .mv, [.t 12], none, []⟩, ⟨some 98, .ia 1, [.t 96, .t
  97], none, [5, 6, 7, 8, 9, 10]⟩, ⟨some 99, .load 1 false, [.t 98], none, [5, 6, 7, 8, 9, 10, 11]⟩, ⟨some 100, .call 10 false, [.t 91, .t 99], none, [4, 5, 6, 7, 8, 9, 10, 11,
  12]⟩, ⟨some 101, .bin .xor, [.t 90, .t 100], none, [0, 1, 2, 3, 4, 5, 6, 7, 8, 9, 10, 11, 12, 13]⟩, ⟨some 102, .ia 1, [.t 87, .t 88], none, [0, 1, 2, 3, 4, 5, 6, 7, 8, 9, 10, 11,
  12, 13, 14]⟩, ⟨none, .store 1, [.t 102, .t 101], none, [0, 1, 2, 3, 4, 5, 6, 7, 8, 9, 10, 11, 12, 13, 14, 15]⟩] [0, 1, 8, 9, 10, 12])) (.region false [⟨some 85, .mv, [.t 12],
  none, []⟩, ⟨some 86, .bin .add, [.t 85, .k (.d (.int .i64 1))], none, []⟩, ⟨some 12, .mv, [.t 86], none, []⟩] [0, 1, 8, 9, 10, 12]))))))))) (.region false [⟨some 44, .mv, [.t 9],
  none, []⟩, ⟨some 45, .bin .add, [.t 44, .k (.d (.int .i64 1))], none, []⟩, ⟨some 9, .mv, [.t 45], none, []⟩] [0, 1, 8, 9])))))) (.seq (.region false [⟨some 103, .mv, [.t 8],
  none, []⟩, ⟨some 4, .mv, [.t 103], none, []⟩, ⟨some 5, .mv, [.k (.d (.int .i64 0))], none, []⟩] [4, 5]) .ret))))))
def passkeyref37AtRr : List RR := [.t 4, .t 5]
theorem passkeyref37AtC : compFn Try.prog 27 passkeyref37AtH = some (passkeyref37AtRc, passkeyref37AtRr, 104) := by kernel_rfl
theorem passkeyref37AtOK (a0 : List (TApiShare)) (a1 : Int) (res : (List (BitVec 8)) × Int) (h : passkeyref37At a0 a1 = some res) : CallOK Try.prog 27 [.d ((eL 2 eTApiShare) a0), .d (eI a1)] [] (.tup [.ref 0 res.1.length 0 res.1.length, .d (eI res.2)]) [(0, .row true 1 (res.1.map eU8))] := by
  unfold passkeyref37At at h
  refine callOK passkeyref37AtC fm rfl ?_
  simp only [initE, initM, nbor, List.map_cons, List.map_nil, Nat.reduceAdd]
  unfold passkeyref37AtRc
  refine rwp_seq fun K1 hK1 => ?_
  refine rwp_region fun K2 hK2 => ?_
  refine st0 128 rfl (ok (mv (.nil 1))) ?_
  refine st0 192 rfl (ok (mv (.d (eI (0 : Int))))) ?_
  refine hK2 _ _ ?_
  simp only [thenK, blockK, keepE, updM, List.filter_cons, List.filter_nil, List.nil_append, List.cons_append, List.map_cons, List.map_nil, envE, Mem.get, Nat.reduceEqDiff, reduceIte, Option.isNone_none, Option.isNone_some, Bool.false_eq_true, List.length_cons, List.length_nil, Nat.reduceAdd, Nat.reduceMul]
  refine hK1 _ _ _ ?_
  refine rwp_seq fun K3 hK3 => ?_
  refine rwp_seq fun K4 hK4 => ?_
  refine rwp_region fun K5 hK5 => ?_
  refine st0 256 rfl (ok (mv (.d ((eL 2 eTApiShare) a0)))) ?_
  refine st0 320 rfl (ok (lenL _ _)) ?_
  refine st0 384 rfl (ok (eqlI _ (0 : Int))) ?_
  refine hK5 _ _ ?_
  simp only [thenK, blockK, keepE, updM, List.filter_cons, List.filter_nil, List.nil_append, List.cons_append, List.map_cons, List.map_nil, envE, Mem.get, Nat.reduceEqDiff, reduceIte, Option.isNone_none, Option.isNone_some, Bool.false_eq_true, List.length_cons, List.length_nil, Nat.reduceAdd, Nat.reduceMul]
  refine hK4 _ _ _ ?_
  rcases Bool.eq_false_or_eq_true (((a0.length : Int) == (0 : Int))) with h6 | h6
  · replace h := ite_t h h6
    refine rwp_t (isT h6) ?_
    refine rwp_seq fun K7 hK7 => ?_
    refine rwp_region fun K8 hK8 => ?_
    refine st0 448 rfl (ok (mv (.nil 1))) ?_
    refine st0 512 rfl (ok (mv (.d (eI (1 : Int))))) ?_
    refine hK8 _ _ ?_
    simp only [thenK, blockK, keepE, updM, List.filter_cons, List.filter_nil, List.nil_append, List.cons_append, List.map_cons, List.map_nil, envE, Mem.get, Nat.reduceEqDiff, reduceIte, Option.isNone_none, Option.isNone_some, Bool.false_eq_true, List.length_cons, List.length_nil, Nat.reduceAdd, Nat.reduceMul]
    refine hK7 _ _ _ ?_
    refine rwp_ret ?_
    obtain rfl := Option.some.inj h
    try simp only [thenK, blockK, reduceIte]
    exact Or.inl (end_ok trivial (rs_t (v := .nil 1) rfl (rs_t (v := .d (eI (1 : Int))) rfl rs_nil)) (en_nilr (en_d (to_d _) en_nil)) ou_nil (by first | exact eok rfl rfl rfl rfl (And.intro (And.intro rfl rfl) trivial) | (refine eok ?_ ?_ ?_ ?_ ?_ <;> first | rfl | exact (And.intro (And.intro rfl rfl) trivial) | simp [retM, Mem.get, PV.renL, PV.ren, Blk.ren, comps, rhoR, rhoM, appN, PV.refsL, PV.refs, keys, nodupB, Blk.refs, allIn, Blk.bor])))
  · replace h := ite_f h h6
    refine rwp_f (isF h6) ?_
    refine rwp_skip ?_
    refine hK3 _ _ _ ?_
    refine rwp_seq fun K9 hK9 => ?_
    refine rwp_join ([], []) 832 (fun env mem => ∃ (v10 : Bool), passkeyref37AtJ1 a0 a1 v10 = some res ∧ env = [(0, .d ((eL 2 eTApiShare) a0)), (1, .d (eI a1)), (21, .d (eB v10))] ∧ mem = []) (fun _ _ hI => ?_) (fun K11 hK11 => ?_)
    · obtain ⟨v10, h, rfl, rfl⟩ := hI
      unfold passkeyref37AtJ1 at h
      rcases Bool.eq_false_or_eq_true (v10) with h12 | h12
      · replace h := ite_t h h12
        refine rwp_t (isT h12) ?_
        refine rwp_seq fun K13 hK13 => ?_
        refine rwp_region fun K14 hK14 => ?_
        refine st0 896 rfl (ok (mv (.nil 1))) ?_
        refine st0 960 rfl (ok (mv (.d (eI (9 : Int))))) ?_
        refine hK14 _ _ ?_
        simp only [thenK, blockK, keepE, updM, List.filter_cons, List.filter_nil, List.nil_append, List.cons_append, List.map_cons, List.map_nil, envE, Mem.get, Nat.reduceEqDiff, reduceIte, Option.isNone_none, Option.isNone_some, Bool.false_eq_true, List.length_cons, List.length_nil, Nat.reduceAdd, Nat.reduceMul]
        refine hK13 _ _ _ ?_
        refine rwp_ret ?_
        obtain rfl := Option.some.inj h
        try simp only [thenK, blockK, reduceIte]
        exact Or.inl (end_ok trivial (rs_t (v := .nil 1) rfl (rs_t (v := .d (eI (9 : Int))) rfl rs_nil)) (en_nilr (en_d (to_d _) en_nil)) ou_nil (by first | exact eok rfl rfl rfl rfl (And.intro (And.intro rfl rfl) trivial) | (refine eok ?_ ?_ ?_ ?_ ?_ <;> first | rfl | exact (And.intro (And.intro rfl rfl) trivial) | simp [retM, Mem.get, PV.renL, PV.ren, Blk.ren, comps, rhoR, rhoM, appN, PV.refsL, PV.refs, keys, nodupB, Blk.refs, allIn, Blk.bor])))
      · replace h := ite_f h h12
        refine rwp_f (isF h12) ?_
        refine rwp_skip ?_
        refine hK9 _ _ _ ?_
        refine rwp_join ([], []) 2176 (fun env mem => passkeyref37AtJ2 a0 a1 = some res ∧ env = [(0, .d ((eL 2 eTApiShare) a0)), (1, .d (eI a1))] ∧ mem = []) (fun _ _ hI => ?_) (fun K15 hK15 => ?_)
        · obtain ⟨h, rfl, rfl⟩ := hI
          unfold passkeyref37AtJ2 at h
          refine rwp_seq fun K16 hK16 => ?_
          refine rwp_region fun K17 hK17 => ?_
          refine st0 2240 rfl (ok (mv (.d ((eL 2 eTApiShare) a0)))) ?_
          obtain ⟨h18, h⟩ := asq_inv h
          refine st0 2304 rfl (ok (iaL (e := eTApiShare) (xs := a0) (TApiShare.mk (0 : Int) ([] : List (BitVec 8))) h18)) ?_
          refine st0 2368 rfl (ok fa_iptr) ?_
          refine st0 2432 rfl (ok (ld_i (v := (eL 1 eU8) ((a0.getD (0 : Int).toNat (TApiShare.mk (0 : Int) ([] : List (BitVec 8)))).Data)) rfl rfl)) ?_
          refine st0 2496 rfl (ok (lenL _ _)) ?_
          obtain ⟨h19, h⟩ := asq_inv h
          refine st1 2560 rfl (mem' := [(2496, .row true 1 ((List.replicate ((((a0.getD (0 : Int).toNat (TApiShare.mk (0 : Int) ([] : List (BitVec 8)))).Data)).length : Int).toNat 0#8).map eU8))]) (ok (mks1 (e := eU8) 0#8 rfl rfl h19)) rfl ?_
          refine st0 2624 rfl (ok (mv (.ref 2496 (((List.replicate ((((a0.getD (0 : Int).toNat (TApiShare.mk (0 : Int) ([] : List (BitVec 8)))).Data)).length : Int).toNat 0#8)).length) 0 (((List.replicate ((((a0.getD (0 : Int).toNat (TApiShare.mk (0 : Int) ([] : List (BitVec 8)))).Data)).length : Int).toNat 0#8)).length)))) ?_
          refine hK17 _ _ ?_
          simp only [thenK, blockK, keepE, updM, List.filter_cons, List.filter_nil, List.nil_append, List.cons_append, List.map_cons, List.map_nil, envE, Mem.get, Nat.reduceEqDiff, reduceIte, Option.isNone_none, Option.isNone_some, Bool.false_eq_true, List.length_cons, List.length_nil, Nat.reduceAdd, Nat.reduceMul]
          refine hK16 _ _ _ ?_
          refine rwp_join ([], []) 8640 (fun env mem => ∃ (v20 : List (BitVec 8)), passkeyref37AtJ3 v20 = some res ∧ env = [(8, .ref 2496 v20.length 0 v20.length)] ∧ mem = [(2496, .row true 1 (v20.map eU8))]) (fun _ _ hI => ?_) (fun K21 hK21 => ?_)
          · obtain ⟨v20, h, rfl, rfl⟩ := hI
            unfold passkeyref37AtJ3 at h
            refine rwp_seq fun K22 hK22 => ?_
            refine rwp_region fun K23 hK23 => ?_
            refine st0 8704 rfl (ok (mv (.ref 2496 v20.length 0 v20.length))) ?_
            refine st0 8768 rfl (ok (mv (.ref 2496 v20.length 0 v20.length))) ?_
            refine st0 8832 rfl (ok (mv (.d (eI (0 : Int))))) ?_
            refine hK23 _ _ ?_
            simp only [thenK, blockK, keepE, updM, List.filter_cons, List.filter_nil, List.nil_append, List.cons_append, List.map_cons, List.map_nil, envE, Mem.get, Nat.reduceEqDiff, reduceIte, Option.isNone_none, Option.isNone_some, Bool.false_eq_true, List.length_cons, List.length_nil, Nat.reduceAdd, Nat.reduceMul]
            refine hK22 _ _ _ ?_
            refine rwp_ret ?_
            obtain rfl := Option.some.inj h
            try simp only [thenK, blockK, reduceIte]
            exact Or.inl (end_ok trivial (rs_t (v := .ref 2496 v20.length 0 v20.length) rfl (rs_t (v := .d (eI (0 : Int))) rfl rs_nil)) (en_ref (en_d (to_d _) en_nil)) ou_nil (by first | exact eok rfl rfl rfl rfl (And.intro (And.intro rfl rfl) trivial) | (refine eok ?_ ?_ ?_ ?_ ?_ <;> first | rfl | exact (And.intro (And.intro rfl rfl) trivial) | simp [retM, Mem.get, PV.renL, PV.ren, Blk.ren, comps, rhoR, rhoM, appN, PV.refsL, PV.refs, keys, nodupB, Blk.refs, allIn, Blk.bor])))
          · refine rwp_seq fun K24 hK24 => ?_
            refine rwp_region fun K25 hK25 => ?_
            refine st0 2688 rfl (ok (mv (.d (eI (0 : Int))))) ?_
            refine hK25 _ _ ?_
            simp only [thenK, blockK, keepE, updM, List.filter_cons, List.filter_nil, List.nil_append, List.cons_append, List.map_cons, List.map_nil, envE, Mem.get, Nat.reduceEqDiff, reduceIte, Option.isNone_none, Option.isNone_some, Bool.false_eq_true, List.length_cons, List.length_nil, Nat.reduceAdd, Nat.reduceMul]
            refine hK24 _ _ _ ?_
            refine rwp_block fun K26 hK26 => ?_
            refine rwp_loop ([], []) 8320 (fun k env mem => ∃ (v27 : List (BitVec 8)) (v28 : Int), passkeyref37AtL4 a0 a1 k v27 v28 = some res ∧ env = [(0, .d ((eL 2 eTApiShare) a0)), (1, .d (eI a1)), (8, .ref 2496 v27.length 0 v27.length), (9, .d (eI v28))] ∧ mem = [(2496, .row true 1 (v27.map eU8))]) FUEL ⟨_, _, Settled.refl, _, _, ⟨_, _, h, rfl, rfl⟩, ⟨rfl, ⟨⟨rfl, rfl⟩, ⟨⟨rfl, rfl⟩, ⟨⟨rfl, rfl⟩, ⟨⟨rfl, rfl⟩, trivial⟩⟩⟩⟩, ⟨⟨rfl, rfl⟩, trivial⟩⟩, rfl⟩ (fun k4 env1 mem1 hI K29 hK29 => ?_)
            obtain ⟨v27, v28, h, rfl, rfl⟩ := hI
            cases k4 with
            | zero => simp [passkeyref37AtL4] at h
            | succ k4 =>
              rw [passkeyref37AtL4] at h
              refine rwp_seq fun K30 hK30 => ?_
              refine rwp_seq fun K31 hK31 => ?_
              refine rwp_region fun K32 hK32 => ?_
              refine st0 8384 rfl (ok (mv (.d (eI v28)))) ?_
              refine st0 8448 rfl (ok (mv (.d ((eL 2 eTApiShare) a0)))) ?_
              refine st0 8512 rfl (ok (lenL _ _)) ?_
              refine st0 8576 rfl (ok (lssI _ _)) ?_
              refine hK32 _ _ ?_
              simp only [thenK, blockK, keepE, updM, List.filter_cons, List.filter_nil, List.nil_append, List.cons_append, List.map_cons, List.map_nil, envE, Mem.get, Nat.reduceEqDiff, reduceIte, Option.isNone_none, Option.isNone_some, Bool.false_eq_true, List.length_cons, List.length_nil, Nat.reduceAdd, Nat.reduceMul]
              refine hK31 _ _ _ ?_
              rcases Bool.eq_false_or_eq_true ((decide (v28 < (a0.length : Int)))) with h33 | h33
              · replace h := ite_t h h33
                refine rwp_t (isT h33) ?_
                refine rwp_skip ?_
                refine hK30 _ _ _ ?_
                refine rwp_join ([], []) 13632 (fun env mem => ∃ (v34 : List (BitVec 8)), passkeyref37AtJ5 (passkeyref37AtL4 a0 a1 k4) v28 v34 = some res ∧ env = [(0, .d ((eL 2 eTApiShare) a0)), (1, .d (eI a1)), (8, .ref 2496 v34.length 0 v34.length), (9, .d (eI v28))] ∧ mem = [(2496, .row true 1 (v34.map eU8))]) (fun _ _ hI => ?_) (fun K35 hK35 => ?_)
                · obtain ⟨v34, h, rfl, rfl⟩ := hI
                  unfold passkeyref37AtJ5 at h
                  refine rwp_region fun K36 hK36 => ?_
                  refine st0 13696 rfl (ok (mv (.d (eI v28)))) ?_
                  refine st0 13760 rfl (ok (addI _ (1 : Int))) ?_
                  refine st0 13824 rfl (ok (mv (.d (eI (w64 (v28 + (1 : Int))))))) ?_
                  refine hK36 _ _ ?_
                  simp only [thenK, blockK, keepE, updM, List.filter_cons, List.filter_nil, List.nil_append, List.cons_append, List.map_cons, List.map_nil, envE, Mem.get, Nat.reduceEqDiff, reduceIte, Option.isNone_none, Option.isNone_some, Bool.false_eq_true, List.length_cons, List.length_nil, Nat.reduceAdd, Nat.reduceMul]
                  exact hK29.out _ _ _ k4 (Nat.lt_succ_self k4) ⟨_, _, Settled.refl, _, _, ⟨_, _, h, rfl, rfl⟩, ⟨rfl, ⟨⟨rfl, rfl⟩, ⟨⟨rfl, rfl⟩, ⟨⟨rfl, rfl⟩, ⟨⟨rfl, rfl⟩, trivial⟩⟩⟩⟩, ⟨⟨rfl, rfl⟩, trivial⟩⟩, rfl⟩
                · refine rwp_block fun K37 hK37 => ?_
                  refine rwp_seq fun K38 hK38 => ?_
                  refine rwp_region fun K39 hK39 => ?_
                  refine st0 8640 rfl (ok (mv (.d (eU8 (1#8))))) ?_
                  refine hK39 _ _ ?_
                  simp only [thenK, blockK, keepE, updM, List.filter_cons, List.filter_nil, List.nil_append, List.cons_append, List.map_cons, List.map_nil, envE, Mem.get, Nat.reduceEqDiff, reduceIte, Option.isNone_none, Option.isNone_some, Bool.false_eq_true, List.length_cons, List.length_nil, Nat.reduceAdd, Nat.reduceMul]
                  refine hK38 _ _ _ ?_
                  refine rwp_join ([], []) 11584 (fun env mem => ∃ (v40 : BitVec 8), passkeyref37AtJ6 (passkeyref37AtL4 a0 a1 k4) a0 v27 v28 v40 = some res ∧ env = [(0, .d ((eL 2 eTApiShare) a0)), (1, .d (eI a1)), (8, .ref 2496 v27.length 0 v27.length), (9, .d (eI v28)), (10, .d (eU8 v40))] ∧ mem = [(2496, .row true 1 (v27.map eU8))]) (fun _ _ hI => ?_) (fun K41 hK41 => ?_)
                  · obtain ⟨v40, h, rfl, rfl⟩ := hI
                    unfold passkeyref37AtJ6 at h
                    refine rwp_seq fun K42 hK42 => ?_
                    refine rwp_region fun K43 hK43 => ?_
                    refine st0 11648 rfl (ok (mv (.d (eI (0 : Int))))) ?_
                    refine hK43 _ _ ?_
                    simp only [thenK, blockK, keepE, updM, List.filter_cons, List.filter_nil, List.nil_append, List.cons_append, List.map_cons, List.map_nil, envE, Mem.get, Nat.reduceEqDiff, reduceIte, Option.isNone_none, Option.isNone_some, Bool.false_eq_true, List.length_cons, List.length_nil, Nat.reduceAdd, Nat.reduceMul]
                    refine hK42 _ _ _ ?_
                    refine rwp_block fun K44 hK44 => ?_
                    refine rwp_loop ([], []) 13312 (fun k env mem => ∃ (v45 : List (BitVec 8)) (v46 : Int), passkeyref37AtL7 (passkeyref37AtL4 a0 a1 k4) a0 v28 v40 k v45 v46 = some res ∧ env = [(0, .d ((eL 2 eTApiShare) a0)), (1, .d (eI a1)), (8, .ref 2496 v45.length 0 v45.length), (9, .d (eI v28)), (10, .d (eU8 v40)), (12, .d (eI v46))] ∧ mem = [(2496, .row true 1 (v45.map eU8))]) FUEL ⟨_, _, Settled.refl, _, _, ⟨_, _, h, rfl, rfl⟩, ⟨rfl, ⟨⟨rfl, rfl⟩, ⟨⟨rfl, rfl⟩, ⟨⟨rfl, rfl⟩, ⟨⟨rfl, rfl⟩, ⟨⟨rfl, rfl⟩, ⟨⟨rfl, rfl⟩, trivial⟩⟩⟩⟩⟩⟩, ⟨⟨rfl, rfl⟩, trivial⟩⟩, rfl⟩ (fun k7 env1 mem1 hI K47 hK47 => ?_)
                    obtain ⟨v45, v46, h, rfl, rfl⟩ := hI
                    cases k7 with
                    | zero => simp [passkeyref37AtL7] at h
                    | succ k7 =>
                      rw [passkeyref37AtL7] at h
                      refine rwp_seq fun K48 hK48 => ?_
                      refine rwp_seq fun K49 hK49 => ?_
                      refine rwp_region fun K50 hK50 => ?_
                      refine st0 13376 rfl (ok (mv (.d (eI v46)))) ?_
                      refine st0 13440 rfl (ok (mv (.ref 2496 v45.length 0 v45.length))) ?_
                      refine st0 13504 rfl (ok (lenR _ _ _ _)) ?_
                      refine st0 13568 rfl (ok (lssI _ _)) ?_
                      refine hK50 _ _ ?_
                      simp only [thenK, blockK, keepE, updM, List.filter_cons, List.filter_nil, List.nil_append, List.cons_append, List.map_cons, List.map_nil, envE, Mem.get, Nat.reduceEqDiff, reduceIte, Option.isNone_none, Option.isNone_some, Bool.false_eq_true, List.length_cons, List.length_nil, Nat.reduceAdd, Nat.reduceMul]
                      refine hK49 _ _ _ ?_
                      rcases Bool.eq_false_or_eq_true ((decide (v46 < (v45.length : Int)))) with h51 | h51
                      · replace h := ite_t h h51
                        refine rwp_t (isT h51) ?_
                        refine rwp_skip ?_
                        refine hK48 _ _ _ ?_
                        refine rwp_seq fun K52 hK52 => ?_
                        refine rwp_block fun K53 hK53 => ?_
                        refine rwp_draw fun K54 hK54 => ?_
                        refine dr0 13632 rfl (ok (mv (.ref 2496 v45.length 0 v45.length))) (by kernel_rfl) ?_
                        refine dr0 13696 rfl (ok (mv (.d (eI v46)))) (by kernel_rfl) ?_
                        obtain ⟨h55, h⟩ := asq_inv h
                        refine dr0 13760 rfl (ok (iaR (xs := v45) (e := eU8) rfl rfl h55)) (by kernel_rfl) ?_
                        refine dr0 13824 rfl (ok (ld_r (e := eU8) (xs := v45) 0#8 rfl rfl (by have := h55; simp at this ⊢; omega) rfl)) (by kernel_rfl) ?_
                        refine dr0 13888 rfl (ok (mv (.d (eU8 v40)))) (by kernel_rfl) ?_
                        refine dr0 13952 rfl (ok (mv (.d ((eL 2 eTApiShare) a0)))) (by kernel_rfl) ?_
                        refine dr0 14016 rfl (ok (mv (.d (eI v28)))) (by kernel_rfl) ?_
                        obtain ⟨h56, h⟩ := asq_inv h
                        refine dr0 14080 rfl (ok (iaL (e := eTApiShare) (xs := a0) (TApiShare.mk (0 : Int) ([] : List (BitVec 8))) h56)) (by kernel_rfl) ?_
                        refine dr0 14144 rfl (ok fa_iptr) (by kernel_rfl) ?_
                        refine dr0 14208 rfl (ok (ld_i (v := (eL 1 eU8) ((a0.getD v28.toNat (TApiShare.mk (0 : Int) ([] : List (BitVec 8)))).Data)) rfl rfl)) (by kernel_rfl) ?_
                        refine dr0 14272 rfl (ok (mv (.d (eI v46)))) (by kernel_rfl) ?_
                        obtain ⟨h57, h⟩ := asq_inv h
                        refine dr0 14336 rfl (ok (iaL (e := eU8) (xs := ((a0.getD v28.toNat (TApiShare.mk (0 : Int) ([] : List (BitVec 8)))).Data)) 0#8 h57)) (by kernel_rfl) ?_
                        refine dr0 14400 rfl (ok (ld_i (v := eU8 (((a0.getD v28.toNat (TApiShare.mk (0 : Int) ([] : List (BitVec 8)))).Data).getD v46.toNat 0#8)) rfl rfl)) (by kernel_rfl) ?_
                        obtain ⟨y58, h59, h⟩ := bind_inv h
                        refine dr0 14464 rfl (call_ok (v := .d (eU8 y58)) (u := []) (ar_d (eU8 v40) (ar_d (eU8 (((a0.getD v28.toNat (TApiShare.mk (0 : Int) ([] : List (BitVec 8)))).Data).getD v46.toNat 0#8)) ar_nil)) rfl (passkeyref37MulOK v40 (((a0.getD v28.toNat (TApiShare.mk (0 : Int) ([] : List (BitVec 8)))).Data).getD v46.toNat 0#8) y58 h59) rfl) (by kernel_rfl) ?_
                        refine dr0 14528 rfl (ok (xor8 _ _)) (by kernel_rfl) ?_
                        obtain ⟨h60, h⟩ := asq_inv h
                        refine dr0 14592 rfl (ok (iaR (xs := v45) (e := eU8) rfl rfl h60)) (by kernel_rfl) ?_
                        refine drn 14656 rfl (mem' := [(2496, .row true 1 ((v45.set (0 + v46.toNat) ((v45.getD (0 + v46.toNat) 0#8) ^^^ y58)).map eU8))]) (ok (sto_r (e := eU8) (xs := v45) (y := ((v45.getD (0 + v46.toNat) 0#8) ^^^ y58)) rfl rfl rfl)) rfl (by kernel_rfl) ?_
                        refine hK54 _ _ ?_
                        simp only [thenK, blockK, keepE, updM, List.filter_cons, List.filter_nil, List.nil_append, List.cons_append, List.map_cons, List.map_nil, envE, Mem.get, Nat.reduceEqDiff, reduceIte, Option.isNone_none, Option.isNone_some, Bool.false_eq_true, List.length_cons, List.length_nil, Nat.reduceAdd, Nat.reduceMul]
                        refine hK53 _ _ _ ?_
                        refine hK52 _ _ _ ?_
                        refine rwp_region fun K61 hK61 => ?_
                        refine st0 14720 rfl (ok (mv (.d (eI v46)))) ?_
                        refine st0 14784 rfl (ok (addI _ (1 : Int))) ?_
                        refine st0 14848 rfl (ok (mv (.d (eI (w64 (v46 + (1 : Int))))))) ?_
                        refine hK61 _ _ ?_
                        simp only [thenK, blockK, keepE, updM, List.filter_cons, List.filter_nil, List.nil_append, List.cons_append, List.map_cons, List.map_nil, envE, Mem.get, Nat.reduceEqDiff, reduceIte, Option.isNone_none, Option.isNone_some, Bool.false_eq_true, List.length_cons, List.length_nil, Nat.reduceAdd, Nat.reduceMul]
                        exact hK47.out _ _ _ k7 (Nat.lt_succ_self k7) ⟨_, _, Settled.refl, _, _, ⟨_, _, h, rfl, rfl⟩, (by refine ⟨rfl, ⟨⟨?_, rfl⟩, ⟨⟨?_, rfl⟩, ⟨⟨?_, rfl⟩, ⟨⟨?_, rfl⟩, ⟨⟨?_, rfl⟩, ⟨⟨?_, rfl⟩, trivial⟩⟩⟩⟩⟩⟩, ⟨⟨?_, rfl⟩, trivial⟩⟩ <;> first | rfl | (exact refEq rfl (by simp) rfl (by simp)) | simp [envE, Mem.get, liftE, liftV, rhoOf, rhoE, rhoM, appN, PV.refs, PV.refsL, Blk.refs, PV.ren, PV.renL, Blk.ren]), rfl⟩
                      · replace h := ite_f h h51
                        refine rwp_f (isF h51) ?_
                        refine rwp_exit ?_
                        refine hK44 _ _ _ ?_
                        refine hK37 _ _ _ ?_
                        exact hK35 _ _ _ ⟨_, _, Settled.refl, _, _, ⟨_, h, rfl, rfl⟩, ⟨rfl, ⟨⟨rfl, rfl⟩, ⟨⟨rfl, rfl⟩, ⟨⟨rfl, rfl⟩, ⟨⟨rfl, rfl⟩, trivial⟩⟩⟩⟩, ⟨⟨rfl, rfl⟩, trivial⟩⟩, rfl⟩
                  · refine rwp_seq fun K62 hK62 => ?_
                    refine rwp_region fun K63 hK63 => ?_
                    refine st0 8704 rfl (ok (mv (.d (eI (0 : Int))))) ?_
                    refine hK63 _ _ ?_
                    simp only [thenK, blockK, keepE, updM, List.filter_cons, List.filter_nil, List.nil_append, List.cons_append, List.map_cons, List.map_nil, envE, Mem.get, Nat.reduceEqDiff, reduceIte, Option.isNone_none, Option.isNone_some, Bool.false_eq_true, List.length_cons, List.length_nil, Nat.reduceAdd, Nat.reduceMul]
                    refine hK62 _ _ _ ?_
                    refine rwp_block fun K64 hK64 => ?_
                    refine rwp_loop ([], []) 11264 (fun k env mem => ∃ (v65 : BitVec 8) (v66 : Int), passkeyref37AtL8 (passkeyref37AtL4 a0 a1 k4) a0 a1 v27 v28 k v65 v66 = some res ∧ env = [(0, .d ((eL 2 eTApiShare) a0)), (1, .d (eI a1)), (8, .ref 2496 v27.length 0 v27.length), (9, .d (eI v28)), (10, .d (eU8 v65)), (11, .d (eI v66))] ∧ mem = [(2496, .row true 1 (v27.map eU8))]) FUEL ⟨_, _, Settled.refl, _, _, ⟨_, _, h, rfl, rfl⟩, ⟨rfl, ⟨⟨rfl, rfl⟩, ⟨⟨rfl, rfl⟩, ⟨⟨rfl, rfl⟩, ⟨⟨rfl, rfl⟩, ⟨⟨rfl, rfl⟩, ⟨⟨rfl, rfl⟩, trivial⟩⟩⟩⟩⟩⟩, ⟨⟨rfl, rfl⟩, trivial⟩⟩, rfl⟩ (fun k8 env1 mem1 hI K67 hK67 => ?_)
                    obtain ⟨v65, v66, h, rfl, rfl⟩ := hI
                    cases k8 with
                    | zero => simp [passkeyref37AtL8] at h
                    | succ k8 =>
                      rw [passkeyref37AtL8] at h
                      refine rwp_seq fun K68 hK68 => ?_
                      refine rwp_seq fun K69 hK69 => ?_
                      refine rwp_region fun K70 hK70 => ?_
                      refine st0 11328 rfl (ok (mv (.d (eI v66)))) ?_
                      refine st0 11392 rfl (ok (mv (.d ((eL 2 eTApiShare) a0)))) ?_
                      refine st0 11456 rfl (ok (lenL _ _)) ?_
                      refine st0 11520 rfl (ok (lssI _ _)) ?_
                      refine hK70 _ _ ?_
                      simp only [thenK, blockK, keepE, updM, List.filter_cons, List.filter_nil, List.nil_append, List.cons_append, List.map_cons, List.map_nil, envE, Mem.get, Nat.reduceEqDiff, reduceIte, Option.isNone_none, Option.isNone_some, Bool.false_eq_true, List.length_cons, List.length_nil, Nat.reduceAdd, Nat.reduceMul]
                      refine hK69 _ _ _ ?_
                      rcases Bool.eq_false_or_eq_true ((decide (v66 < (a0.length : Int)))) with h71 | h71
                      · replace h := ite_t h h71
                        refine rwp_t (isT h71) ?_
                        refine rwp_skip ?_
                        refine hK68 _ _ _ ?_
                        refine rwp_join ([], []) 13504 (fun env mem => ∃ (v72 : BitVec 8), passkeyref37AtJ9 (passkeyref37AtL8 (passkeyref37AtL4 a0 a1 k4) a0 a1 v27 v28 k8) v66 v72 = some res ∧ env = [(0, .d ((eL 2 eTApiShare) a0)), (1, .d (eI a1)), (8, .ref 2496 v27.length 0 v27.length), (9, .d (eI v28)), (10, .d (eU8 v72)), (11, .d (eI v66))] ∧ mem = [(2496, .row true 1 (v27.map eU8))]) (fun _ _ hI => ?_) (fun K73 hK73 => ?_)
                        · obtain ⟨v72, h, rfl, rfl⟩ := hI
                          unfold passkeyref37AtJ9 at h
                          refine rwp_region fun K74 hK74 => ?_
                          refine st0 13568 rfl (ok (mv (.d (eI v66)))) ?_
                          refine st0 13632 rfl (ok (addI _ (1 : Int))) ?_
                          refine st0 13696 rfl (ok (mv (.d (eI (w64 (v66 + (1 : Int))))))) ?_
                          refine hK74 _ _ ?_
                          simp only [thenK, blockK, keepE, updM, List.filter_cons, List.filter_nil, List.nil_append, List.cons_append, List.map_cons, List.map_nil, envE, Mem.get, Nat.reduceEqDiff, reduceIte, Option.isNone_none, Option.isNone_some, Bool.false_eq_true, List.length_cons, List.length_nil, Nat.reduceAdd, Nat.reduceMul]
                          exact hK67.out _ _ _ k8 (Nat.lt_succ_self k8) ⟨_, _, Settled.refl, _, _, ⟨_, _, h, rfl, rfl⟩, ⟨rfl, ⟨⟨rfl, rfl⟩, ⟨⟨rfl, rfl⟩, ⟨⟨rfl, rfl⟩, ⟨⟨rfl, rfl⟩, ⟨⟨rfl, rfl⟩, ⟨⟨rfl, rfl⟩, trivial⟩⟩⟩⟩⟩⟩, ⟨⟨rfl, rfl⟩, trivial⟩⟩, rfl⟩
                        · refine rwp_block fun K75 hK75 => ?_
                          refine rwp_seq fun K76 hK76 => ?_
                          refine rwp_region fun K77 hK77 => ?_
                          refine st0 11584 rfl (ok (mv (.d (eI v66)))) ?_
                          refine st0 11648 rfl (ok (mv (.d (eI v28)))) ?_
                          refine st0 11712 rfl (ok (neqI _ _)) ?_
                          refine hK77 _ _ ?_
                          simp only [thenK, blockK, keepE, updM, List.filter_cons, List.filter_nil, List.nil_append, List.cons_append, List.map_cons, List.map_nil, envE, Mem.get, Nat.reduceEqDiff, reduceIte, Option.isNone_none, Option.isNone_some, Bool.false_eq_true, List.length_cons, List.length_nil, Nat.reduceAdd, Nat.reduceMul]
                          refine hK76 _ _ _ ?_
                          rcases Bool.eq_false_or_eq_true ((v66 != v28)) with h78 | h78
                          · replace h := ite_t h h78
                            refine rwp_t (isT h78) ?_
                            refine rwp_draw fun K79 hK79 => ?_
                            refine dr0 11776 rfl (ok (mv (.d (eU8 v65)))) (by kernel_rfl) ?_
                            refine dr0 11840 rfl (ok (mv (.d (eI a1)))) (by kernel_rfl) ?_
                            refine dr0 11904 rfl (ok (ofI8 _ a1)) (by kernel_rfl) ?_
                            refine dr0 11968 rfl (ok (mv (.d ((eL 2 eTApiShare) a0)))) (by kernel_rfl) ?_
                            refine dr0 12032 rfl (ok (mv (.d (eI v66)))) (by kernel_rfl) ?_
                            obtain ⟨h80, h⟩ := asq_inv h
                            refine dr0 12096 rfl (ok (iaL (e := eTApiShare) (xs := a0) (TApiShare.mk (0 : Int) ([] : List (BitVec 8))) h80)) (by kernel_rfl) ?_
                            refine dr0 12160 rfl (ok fa_iptr) (by kernel_rfl) ?_
                            refine dr0 12224 rfl (ok (ld_i (v := eI ((a0.getD v66.toNat (TApiShare.mk (0 : Int) ([] : List (BitVec 8)))).X)) rfl rfl)) (by kernel_rfl) ?_
                            obtain ⟨v81, h82, h⟩ := lett_inv h
                            refine dr0e 12288 rfl (ok (ofI8 _ ((a0.getD v66.toNat (TApiShare.mk (0 : Int) ([] : List (BitVec 8)))).X))) (congrArg (fun z => PV.d (eU8 z)) h82) (by kernel_rfl) ?_
                            refine dr0 12352 rfl (ok (xor8 _ _)) (by kernel_rfl) ?_
                            refine dr0 12416 rfl (ok (mv (.d ((eL 2 eTApiShare) a0)))) (by kernel_rfl) ?_
                            refine dr0 12480 rfl (ok (mv (.d (eI v28)))) (by kernel_rfl) ?_
                            obtain ⟨h83, h⟩ := asq_inv h
                            refine dr0 12544 rfl (ok (iaL (e := eTApiShare) (xs := a0) (TApiShare.mk (0 : Int) ([] : List (BitVec 8))) h83)) (by kernel_rfl) ?_
                            refine dr0 12608 rfl (ok fa_iptr) (by kernel_rfl) ?_
                            refine dr0 12672 rfl (ok (ld_i (v := eI ((a0.getD v28.toNat (TApiShare.mk (0 : Int) ([] : List (BitVec 8)))).X)) rfl rfl)) (by kernel_rfl) ?_
                            obtain ⟨v84, h85, h⟩ := lett_inv h
                            refine dr0e 12736 rfl (ok (ofI8 _ ((a0.getD v28.toNat (TApiShare.mk (0 : Int) ([] : List (BitVec 8)))).X))) (congrArg (fun z => PV.d (eU8 z)) h85) (by kernel_rfl) ?_
                            refine dr0 12800 rfl (ok (mv (.d ((eL 2 eTApiShare) a0)))) (by kernel_rfl) ?_
                            refine dr0 12864 rfl (ok (mv (.d (eI v66)))) (by kernel_rfl) ?_
                            obtain ⟨h86, h⟩ := asq_inv h
                            refine dr0 12928 rfl (ok (iaL (e := eTApiShare) (xs := a0) (TApiShare.mk (0 : Int) ([] : List (BitVec 8))) h86)) (by kernel_rfl) ?_
                            refine dr0 12992 rfl (ok fa_iptr) (by kernel_rfl) ?_
                            refine dr0 13056 rfl (ok (ld_i (v := eI ((a0.getD v66.toNat (TApiShare.mk (0 : Int) ([] : List (BitVec 8)))).X)) rfl rfl)) (by kernel_rfl) ?_
                            obtain ⟨v87, h88, h⟩ := lett_inv h
                            refine dr0e 13120 rfl (ok (ofI8 _ ((a0.getD v66.toNat (TApiShare.mk (0 : Int) ([] : List (BitVec 8)))).X))) (congrArg (fun z => PV.d (eU8 z)) h88) (by kernel_rfl) ?_
                            refine dr0 13184 rfl (ok (xor8 _ _)) (by kernel_rfl) ?_
                            obtain ⟨y89, h90, h⟩ := bind_inv h
                            refine dr0 13248 rfl (call_ok (v := .d (eU8 y89)) (u := []) (ar_d (eU8 (v84 ^^^ v87)) ar_nil) rfl (passkeyref37InverseOK (v84 ^^^ v87) y89 h90) rfl) (by kernel_rfl) ?_
                            obtain ⟨y91, h92, h⟩ := bind_inv h
                            refine dr0 13312 rfl (call_ok (v := .d (eU8 y91)) (u := []) (ar_d (eU8 ((BitVec.ofInt 8 a1) ^^^ v81)) (ar_d (eU8 y89) ar_nil)) rfl (passkeyref37MulOK ((BitVec.ofInt 8 a1) ^^^ v81) y89 y91 h92) rfl) (by kernel_rfl) ?_
                            obtain ⟨y93, h94, h⟩ := bind_inv h
                            refine dr0 13376 rfl (call_ok (v := .d (eU8 y93)) (u := []) (ar_d (eU8 v65) (ar_d (eU8 y91) ar_nil)) rfl (passkeyref37MulOK v65 y91 y93 h94) rfl) (by kernel_rfl) ?_
                            refine dr0 13440 rfl (ok (mv (.d (eU8 y93)))) (by kernel_rfl) ?_
                            refine hK79 _ _ ?_
                            simp only [thenK, blockK, keepE, updM, List.filter_cons, List.filter_nil, List.nil_append, List.cons_append, List.map_cons, List.map_nil, envE, Mem.get, Nat.reduceEqDiff, reduceIte, Option.isNone_none, Option.isNone_some, Bool.false_eq_true, List.length_cons, List.length_nil, Nat.reduceAdd, Nat.reduceMul]
                            refine hK75 _ _ _ ?_
                            exact hK73 _ _ _ ⟨_, _, Settled.refl, _, _, ⟨_, h, rfl, rfl⟩, ⟨rfl, ⟨⟨rfl, rfl⟩, ⟨⟨rfl, rfl⟩, ⟨⟨rfl, rfl⟩, ⟨⟨rfl, rfl⟩, ⟨⟨rfl, rfl⟩, ⟨⟨rfl, rfl⟩, trivial⟩⟩⟩⟩⟩⟩, ⟨⟨rfl, rfl⟩, trivial⟩⟩, rfl⟩
                          · replace h := ite_f h h78
                            refine rwp_f (isF h78) ?_
                            refine rwp_skip ?_
                            refine hK75 _ _ _ ?_
                            exact hK73 _ _ _ ⟨_, _, Settled.refl, _, _, ⟨_, h, rfl, rfl⟩, ⟨rfl, ⟨⟨rfl, rfl⟩, ⟨⟨rfl, rfl⟩, ⟨⟨rfl, rfl⟩, ⟨⟨rfl, rfl⟩, ⟨⟨rfl, rfl⟩, ⟨⟨rfl, rfl⟩, trivial⟩⟩⟩⟩⟩⟩, ⟨⟨rfl, rfl⟩, trivial⟩⟩, rfl⟩
                      · replace h := ite_f h h71
                        refine rwp_f (isF h71) ?_
                        refine rwp_exit ?_
                        refine hK64 _ _ _ ?_
                        exact hK41 _ _ _ ⟨_, _, Settled.refl, _, _, ⟨_, h, rfl, rfl⟩, ⟨rfl, ⟨⟨rfl, rfl⟩, ⟨⟨rfl, rfl⟩, ⟨⟨rfl, rfl⟩, ⟨⟨rfl, rfl⟩, ⟨⟨rfl, rfl⟩, trivial⟩⟩⟩⟩⟩, ⟨⟨rfl, rfl⟩, trivial⟩⟩, rfl⟩
              · replace h := ite_f h h33
                refine rwp_f (isF h33) ?_
                refine rwp_exit ?_
                refine hK26 _ _ _ ?_
                exact hK21 _ _ _ ⟨_, _, Settled.refl, _, _, ⟨_, h, rfl, rfl⟩, ⟨rfl, ⟨⟨rfl, rfl⟩, trivial⟩, ⟨⟨rfl, rfl⟩, trivial⟩⟩, rfl⟩
        · refine rwp_seq fun K95 hK95 => ?_
          refine rwp_region fun K96 hK96 => ?_
          refine st0 896 rfl (ok (mv (.d (eI (0 : Int))))) ?_
          refine hK96 _ _ ?_
          simp only [thenK, blockK, keepE, updM, List.filter_cons, List.filter_nil, List.nil_append, List.cons_append, List.map_cons, List.map_nil, envE, Mem.get, Nat.reduceEqDiff, reduceIte, Option.isNone_none, Option.isNone_some, Bool.false_eq_true, List.length_cons, List.length_nil, Nat.reduceAdd, Nat.reduceMul]
          refine hK95 _ _ _ ?_
          refine rwp_block fun K97 hK97 => ?_
          refine rwp_loop ([], []) 1856 (fun k env mem => ∃ (v98 : Int), passkeyref37AtL10 a0 a1 k v98 = some res ∧ env = [(0, .d ((eL 2 eTApiShare) a0)), (1, .d (eI a1)), (6, .d (eI v98))] ∧ mem = []) FUEL ⟨_, _, Settled.refl, _, _, ⟨_, h, rfl, rfl⟩, ⟨rfl, ⟨⟨rfl, rfl⟩, ⟨⟨rfl, rfl⟩, ⟨⟨rfl, rfl⟩, trivial⟩⟩⟩, trivial⟩, rfl⟩ (fun k10 env1 mem1 hI K99 hK99 => ?_)
          obtain ⟨v98, h, rfl, rfl⟩ := hI
          cases k10 with
          | zero => simp [passkeyref37AtL10] at h
          | succ k10 =>
            rw [passkeyref37AtL10] at h
            refine rwp_seq fun K100 hK100 => ?_
            refine rwp_seq fun K101 hK101 => ?_
            refine rwp_region fun K102 hK102 => ?_
            refine st0 1920 rfl (ok (mv (.d (eI v98)))) ?_
            refine st0 1984 rfl (ok (mv (.d ((eL 2 eTApiShare) a0)))) ?_
            refine st0 2048 rfl (ok (lenL _ _)) ?_
            refine st0 2112 rfl (ok (lssI _ _)) ?_
            refine hK102 _ _ ?_
            simp only [thenK, blockK, keepE, updM, List.filter_cons, List.filter_nil, List.nil_append, List.cons_append, List.map_cons, List.map_nil, envE, Mem.get, Nat.reduceEqDiff, reduceIte, Option.isNone_none, Option.isNone_some, Bool.false_eq_true, List.length_cons, List.length_nil, Nat.reduceAdd, Nat.reduceMul]
            refine hK101 _ _ _ ?_
            rcases Bool.eq_false_or_eq_true ((decide (v98 < (a0.length : Int)))) with h103 | h103
            · replace h := ite_t h h103
              refine rwp_t (isT h103) ?_
              refine rwp_skip ?_
              refine hK100 _ _ _ ?_
              refine rwp_seq fun K104 hK104 => ?_
              refine rwp_block fun K105 hK105 => ?_
              refine rwp_seq fun K106 hK106 => ?_
              refine rwp_region fun K107 hK107 => ?_
              refine st0 2176 rfl (ok (mv (.d ((eL 2 eTApiShare) a0)))) ?_
              refine st0 2240 rfl (ok (mv (.d (eI v98)))) ?_
              obtain ⟨y108, h109, h⟩ := bind_inv h
              refine st0 2304 rfl (call_ok (v := .d (eI y108)) (u := []) (ar_d ((eL 2 eTApiShare) a0) (ar_d (eI v98) ar_nil)) rfl (passkeyref37shareOK a0 v98 y108 h109) rfl) ?_
              refine st0 2368 rfl (ok (mv (.d (eI y108)))) ?_
              refine hK107 _ _ ?_
              simp only [thenK, blockK, keepE, updM, List.filter_cons, List.filter_nil, List.nil_append, List.cons_append, List.map_cons, List.map_nil, envE, Mem.get, Nat.reduceEqDiff, reduceIte, Option.isNone_none, Option.isNone_some, Bool.false_eq_true, List.length_cons, List.length_nil, Nat.reduceAdd, Nat.reduceMul]
              refine hK106 _ _ _ ?_
              refine rwp_seq fun K110 hK110 => ?_
              refine rwp_region fun K111 hK111 => ?_
              refine st0 2432 rfl (ok (mv (.d (eI y108)))) ?_
              refine st0 2496 rfl (ok (neqI _ (0 : Int))) ?_
              refine hK111 _ _ ?_
              simp only [thenK, blockK, keepE, updM, List.filter_cons, List.filter_nil, List.nil_append, List.cons_append, List.map_cons, List.map_nil, envE, Mem.get, Nat.reduceEqDiff, reduceIte, Option.isNone_none, Option.isNone_some, Bool.false_eq_true, List.length_cons, List.length_nil, Nat.reduceAdd, Nat.reduceMul]
              refine hK110 _ _ _ ?_
              rcases Bool.eq_false_or_eq_true ((y108 != (0 : Int))) with h112 | h112
              · replace h := ite_t h h112
                refine rwp_t (isT h112) ?_
                refine rwp_seq fun K113 hK113 => ?_
                refine rwp_region fun K114 hK114 => ?_
                refine st0 2560 rfl (ok (mv (.d (eI y108)))) ?_
                refine st0 2624 rfl (ok (mv (.nil 1))) ?_
                refine st0 2688 rfl (ok (mv (.d (eI y108)))) ?_
                refine hK114 _ _ ?_
                simp only [thenK, blockK, keepE, updM, List.filter_cons, List.filter_nil, List.nil_append, List.cons_append, List.map_cons, List.map_nil, envE, Mem.get, Nat.reduceEqDiff, reduceIte, Option.isNone_none, Option.isNone_some, Bool.false_eq_true, List.length_cons, List.length_nil, Nat.reduceAdd, Nat.reduceMul]
                refine hK113 _ _ _ ?_
                refine rwp_ret ?_
                obtain rfl := Option.some.inj h
                try simp only [thenK, blockK, reduceIte]
                exact Or.inl (end_ok trivial (rs_t (v := .nil 1) rfl (rs_t (v := .d (eI y108)) rfl rs_nil)) (en_nilr (en_d (to_d _) en_nil)) ou_nil (by first | exact eok rfl rfl rfl rfl (And.intro (And.intro rfl rfl) trivial) | (refine eok ?_ ?_ ?_ ?_ ?_ <;> first | rfl | exact (And.intro (And.intro rfl rfl) trivial) | simp [retM, Mem.get, PV.renL, PV.ren, Blk.ren, comps, rhoR, rhoM, appN, PV.refsL, PV.refs, keys, nodupB, Blk.refs, allIn, Blk.bor])))
              · replace h := ite_f h h112
                refine rwp_f (isF h112) ?_
                refine rwp_skip ?_
                refine hK105 _ _ _ ?_
                refine hK104 _ _ _ ?_
                refine rwp_region fun K115 hK115 => ?_
                refine st0 2560 rfl (ok (mv (.d (eI v98)))) ?_
                refine st0 2624 rfl (ok (addI _ (1 : Int))) ?_
                refine st0 2688 rfl (ok (mv (.d (eI (w64 (v98 + (1 : Int))))))) ?_
                refine hK115 _ _ ?_
                simp only [thenK, blockK, keepE, updM, List.filter_cons, List.filter_nil, List.nil_append, List.cons_append, List.map_cons, List.map_nil, envE, Mem.get, Nat.reduceEqDiff, reduceIte, Option.isNone_none, Option.isNone_some, Bool.false_eq_true, List.length_cons, List.length_nil, Nat.reduceAdd, Nat.reduceMul]
                exact hK99.out _ _ _ k10 (Nat.lt_succ_self k10) ⟨_, _, Settled.refl, _, _, ⟨_, h, rfl, rfl⟩, ⟨rfl, ⟨⟨rfl, rfl⟩, ⟨⟨rfl, rfl⟩, ⟨⟨rfl, rfl⟩, trivial⟩⟩⟩, trivial⟩, rfl⟩
            · replace h := ite_f h h103
              refine rwp_f (isF h103) ?_
              refine rwp_exit ?_
              refine hK97 _ _ _ ?_
              exact hK15 _ _ _ ⟨_, _, Settled.refl, _, _, ⟨h, rfl, rfl⟩, ⟨rfl, ⟨⟨rfl, rfl⟩, ⟨⟨rfl, rfl⟩, trivial⟩⟩, trivial⟩, rfl⟩
    · refine rwp_region fun K116 hK116 => ?_
      refine st0 448 rfl (ok (mv (.d (eI a1)))) ?_
      refine st0 512 rfl (ok (lssI _ (0 : Int))) ?_
      refine st0 576 rfl (ok (mv (.d (eB (decide (a1 < (0 : Int))))))) ?_
      rcases Bool.eq_false_or_eq_true ((decide (a1 < (0 : Int)))) with h117 | h117
      · replace h := ite_t h h117
        refine stGN 640 rfl rfl h117 ?_
        refine stGN 704 rfl rfl h117 ?_
        refine st0 768 rfl (ok (pick_t h117 (.d (eB true)) _)) ?_
        refine hK116 _ _ ?_
        simp only [thenK, blockK, keepE, updM, List.filter_cons, List.filter_nil, List.nil_append, List.cons_append, List.map_cons, List.map_nil, envE, Mem.get, Nat.reduceEqDiff, reduceIte, Option.isNone_none, Option.isNone_some, Bool.false_eq_true, List.length_cons, List.length_nil, Nat.reduceAdd, Nat.reduceMul]
        exact hK11 _ _ _ ⟨_, _, Settled.refl, _, _, ⟨_, h, rfl, rfl⟩, ⟨rfl, ⟨⟨rfl, rfl⟩, ⟨⟨rfl, rfl⟩, ⟨⟨rfl, rfl⟩, trivial⟩⟩⟩, trivial⟩, rfl⟩
      · replace h := ite_f h h117
        refine stG (isF h117) ?_
        refine st0 640 rfl (ok (mv (.d (eI a1)))) ?_
        refine stG (isF h117) ?_
        refine st0 704 rfl (ok (gtrI _ (255 : Int))) ?_
        refine st0 768 rfl (ok (pick_f h117 _ (.d (eB (decide ((255 : Int) < a1)))))) ?_
        refine hK116 _ _ ?_
        simp only [thenK, blockK, keepE, updM, List.filter_cons, List.filter_nil, List.nil_append, List.cons_append, List.map_cons, List.map_nil, envE, Mem.get, Nat.reduceEqDiff, reduceIte, Option.isNone_none, Option.isNone_some, Bool.false_eq_true, List.length_cons, List.length_nil, Nat.reduceAdd, Nat.reduceMul]
        exact hK11 _ _ _ ⟨_, _, Settled.refl, _, _, ⟨_, h, rfl, rfl⟩, ⟨rfl, ⟨⟨rfl, rfl⟩, ⟨⟨rfl, rfl⟩, ⟨⟨rfl, rfl⟩, trivial⟩⟩⟩, trivial⟩, rfl⟩

/-- passkey/passkeyref37.Join -/
def passkeyref37JoinH : Hints := ⟨[(0, [0]), (1, [2, 3])], []⟩
def passkeyref37JoinRc : RCode :=
  .seq (.region false [⟨some 2, .mv, [.k (.nil 1)], none, []⟩, ⟨some 3, .mv, [.k (.d (.int .i64 0))], none, []⟩] [0]) (.seq (.region false [⟨some 4, .mv, [.t 0], none, []⟩, ⟨some 5,
  .call 27 true, [.t 4, .k (.d (.int .i64 0))], none, []⟩, ⟨some 6, .ext 0, [.t 5], none, []⟩, ⟨some 7, .ext 1, [.t 5], none, []⟩, ⟨some 2, .mv, [.t 6], none, []⟩, ⟨some 3, .mv,
  [.t 7], none, []⟩] [2, 3]) .ret)
def passkeyref37JoinRr : List RR := [.t 2, .t 3]
theorem passkeyref37JoinC : compFn Try.prog 28 passkeyref37JoinH = some (passkeyref37JoinRc, passkeyref37JoinRr, 8) := by kernel_rfl
theorem passkeyref37JoinOK (a0 : List (TApiShare)) (res : (List (BitVec 8)) × Int) (h : passkeyref37Join a0 = some res) : CallOK Try.prog 28 [.d ((eL 2 eTApiShare) a0)] [] (.tup [.ref 0 res.1.length 0 res.1.length, .d (eI res.2)]) [(0, .row true 1 (res.1.map eU8))] := by
  unfold passkeyref37Join at h
  refine callOK passkeyref37JoinC fm rfl ?_
  simp only [initE, initM, nbor, List.map_cons, List.map_nil, Nat.reduceAdd]
  unfold passkeyref37JoinRc
  refine rwp_seq fun K1 hK1 => ?_
  refine rwp_region fun K2 hK2 => ?_
  refine st0 128 rfl (ok (mv (.nil 1))) ?_
  refine st0 192 rfl (ok (mv (.d (eI (0 : Int))))) ?_
  refine hK2 _ _ ?_
  simp only [thenK, blockK, keepE, updM, List.filter_cons, List.filter_nil, List.nil_append, List.cons_append, List.map_cons, List.map_nil, envE, Mem.get, Nat.reduceEqDiff, reduceIte, Option.isNone_none, Option.isNone_some, Bool.false_eq_true, List.length_cons, List.length_nil, Nat.reduceAdd, Nat.reduceMul]
  refine hK1 _ _ _ ?_
  refine rwp_seq fun K3 hK3 => ?_
  refine rwp_region fun K4 hK4 => ?_
  refine st0 256 rfl (ok (mv (.d ((eL 2 eTApiShare) a0)))) ?_
  obtain ⟨y5, h6, h⟩ := bind_inv h
  refine st1 320 rfl (mem' := [(256, .row true 1 (y5.1.map eU8))]) (call_ok (v := .tup [.ref 256 y5.1.length 0 y5.1.length, .d (eI y5.2)]) (u := [(256, .row true 1 (y5.1.map eU8))]) (ar_d ((eL 2 eTApiShare) a0) (ar_d (eI (0 : Int)) ar_nil)) rfl (passkeyref37AtOK a0 (0 : Int) y5 h6) rfl) rfl ?_
  refine st0 384 rfl (ok (extr (v := .ref 256 y5.1.length 0 y5.1.length) rfl rfl)) ?_
  refine st0 448 rfl (ok (extr (v := .d (eI y5.2)) rfl rfl)) ?_
  refine st0 512 rfl (ok (mv (.ref 256 y5.1.length 0 y5.1.length))) ?_
  refine st0 576 rfl (ok (mv (.d (eI y5.2)))) ?_
  refine hK4 _ _ ?_
  simp only [thenK, blockK, keepE, updM, List.filter_cons, List.filter_nil, List.nil_append, List.cons_append, List.map_cons, List.map_nil, envE, Mem.get, Nat.reduceEqDiff, reduceIte, Option.isNone_none, Option.isNone_some, Bool.false_eq_true, List.length_cons, List.length_nil, Nat.reduceAdd, Nat.reduceMul]
  refine hK3 _ _ _ ?_
  refine rwp_ret ?_
  obtain rfl := Option.some.inj h
  try simp only [thenK, blockK, reduceIte]
  exact Or.inl (end_ok trivial (rs_t (v := .ref 256 y5.1.length 0 y5.1.length) rfl (rs_t (v := .d (eI y5.2)) rfl rs_nil)) (en_ref (en_d (to_d _) en_nil)) ou_nil (by first | exact eok rfl rfl rfl rfl (And.intro (And.intro rfl rfl) trivial) | (refine eok ?_ ?_ ?_ ?_ ?_ <;> first | rfl | exact (And.intro (And.intro rfl rfl) trivial) | simp [retM, Mem.get, PV.renL, PV.ren, Blk.ren, comps, rhoR, rhoM, appN, PV.refsL, PV.refs, keys, nodupB, Blk.refs, allIn, Blk.bor])))

end Go.Proofs.Ty
