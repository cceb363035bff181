/- Each Go function comes to what its plain function says. PRINTED by a program of this session (ty.py). -/
import Derived.Test.YtkiffaadahpbkaaProg
import Derived.Test.YtkiffaadahpbkaaF
import Derived.KernelRfl
set_option linter.unusedVariables false
set_option linter.unusedSimpArgs false
set_option maxHeartbeats 4000000
set_option maxRecDepth 10000
namespace Go.Proofs.Ty
open Go Go.RW Go.Proofs
theorem fm : Try.prog.follows .mixedOrders = true := by kernel_rfl
/-- passkey/sharing.Mul -/
def sharingMulH : Hints := ⟨[(0, [0, 1]), (1, [0, 1, 5]), (2, [0, 1, 5, 7]), (4, [0, 1, 5, 12]), (5, [0, 1, 5]), (6, [0, 1, 5, 17]), (7, [0, 1, 5]), (8, [0, 1, 5]), (3, [0, 1, 5]), (9, [4])], []⟩
def sharingMulRc : RCode :=
  .seq (.region false [⟨some 4, .mv, [.k (.d (.int .u8 0))], none, []⟩] [0, 1]) (.seq (.region false [⟨some 5, .mv, [.k (.d (.int .u8 0))], none, []⟩] [0, 1, 5]) (.seq (.block 0
  (.loop [] (.seq (.seq (.region false [⟨some 6, .mv, [.t 1], none, []⟩, ⟨some 7, .bin .gtr, [.t 6, .k (.d (.int .u8 0))], none, []⟩] [0, 1, 5, 7]) (.cond (.t 7) .skip (.exit 0)))
  (.seq (.block 1 (.seq (.seq (.region false [⟨some 10, .mv, [.t 1], none, []⟩, ⟨some 11, .bin .and, [.t 10, .k (.d (.int .u8 1))], none, []⟩, ⟨some 12, .bin .eql, [.t 11, .k (.d
  (.int .u8 1))], none, []⟩] [0, 1, 5, 12]) (.cond (.t 12) (.region false [⟨some 13, .mv, [.t 5], none, []⟩, ⟨some 14, .mv, [.t 0], none, []⟩, ⟨some 15, .bin .xor, [.t 13, .t 14],
  none, []⟩, ⟨some 5, .mv, [.t 15], none, []⟩] [0, 1, 5]) .skip)) (.seq (.region false [⟨some 16, .mv, [.t 0], none, []⟩, ⟨some 17, .bin .geq, [.t 16, .k (.d (.int .u8 128))],
  none, []⟩] [0, 1, 5, 17]) (.cond (.t 17) (.region false [⟨some 18, .mv, [.t 0], none, []⟩, ⟨some 19, .bin .shl, [.t 18, .k (.d (.int .u64 1))], none, []⟩, ⟨some 20, .bin .xor,
  [.t 19, .k (.d (.int .u8 27))], none, []⟩, ⟨some 0, .mv, [.t 20], none, []⟩] [0, 1, 5]) (.region false [⟨some 21, .mv, [.t 0], none, []⟩, ⟨some 22, .bin .shl, [.t 21, .k (.d
  (.int .u64 1))], none, []⟩, ⟨some 0, .mv, [.t 22], none, []⟩] [0, 1, 5]))))) (.region false [⟨some 8, .mv, [.t 1], none, []⟩, ⟨some 9, .bin .shr, [.t 8, .k (.d (.int .u64 1))],
  none, []⟩, ⟨some 1, .mv, [.t 9], none, []⟩] [0, 1, 5]))))) (.seq (.region false [⟨some 23, .mv, [.t 5], none, []⟩, ⟨some 4, .mv, [.t 23], none, []⟩] [4]) .ret)))
def sharingMulRr : List RR := [.t 4]
theorem sharingMulC : compFn Try.prog 9 sharingMulH = some (sharingMulRc, sharingMulRr, 24) := by kernel_rfl
theorem sharingMulOK (a0 : BitVec 8) (a1 : BitVec 8) (res : BitVec 8) (h : sharingMul a0 a1 = some res) : CallOK Try.prog 9 [.d (eU8 a0), .d (eU8 a1)] [] (.d (eU8 res)) [] := by
  unfold sharingMul at h
  refine callOK sharingMulC fm rfl ?_
  simp only [initE, initM, nbor, List.map_cons, List.map_nil, Nat.reduceAdd]
  unfold sharingMulRc
  refine rwp_seq fun K1 hK1 => ?_
  refine rwp_region fun K2 hK2 => ?_
  refine st0 128 rfl (ok (mv (.d (eU8 (0#8))))) ?_
  refine hK2 _ _ ?_
  simp only [thenK, blockK, keepE, updM, List.filter_cons, List.filter_nil, List.nil_append, List.cons_append, List.map_cons, List.map_nil, envE, Mem.get, Nat.reduceEqDiff, reduceIte, Option.isNone_none, Option.isNone_some, Bool.false_eq_true, List.length_cons, List.length_nil, Nat.reduceAdd, Nat.reduceMul]
  refine hK1 _ _ _ ?_
  refine rwp_seq fun K3 hK3 => ?_
  refine rwp_region fun K4 hK4 => ?_
  refine st0 192 rfl (ok (mv (.d (eU8 (0#8))))) ?_
  refine hK4 _ _ ?_
  simp only [thenK, blockK, keepE, updM, List.filter_cons, List.filter_nil, List.nil_append, List.cons_append, List.map_cons, List.map_nil, envE, Mem.get, Nat.reduceEqDiff, reduceIte, Option.isNone_none, Option.isNone_some, Bool.false_eq_true, List.length_cons, List.length_nil, Nat.reduceAdd, Nat.reduceMul]
  refine hK3 _ _ _ ?_
  refine rwp_join ([], []) 1792 (fun env mem => ∃ (v5 : BitVec 8), sharingMulJ1 v5 = some res ∧ env = [(5, .d (eU8 v5))] ∧ mem = []) (fun _ _ hI => ?_) (fun K6 hK6 => ?_)
  · obtain ⟨v5, h, rfl, rfl⟩ := hI
    unfold sharingMulJ1 at h
    refine rwp_seq fun K7 hK7 => ?_
    refine rwp_region fun K8 hK8 => ?_
    refine st0 1856 rfl (ok (mv (.d (eU8 v5)))) ?_
    refine st0 1920 rfl (ok (mv (.d (eU8 v5)))) ?_
    refine hK8 _ _ ?_
    simp only [thenK, blockK, keepE, updM, List.filter_cons, List.filter_nil, List.nil_append, List.cons_append, List.map_cons, List.map_nil, envE, Mem.get, Nat.reduceEqDiff, reduceIte, Option.isNone_none, Option.isNone_some, Bool.false_eq_true, List.length_cons, List.length_nil, Nat.reduceAdd, Nat.reduceMul]
    refine hK7 _ _ _ ?_
    refine rwp_ret ?_
    obtain rfl := Option.some.inj h
    try simp only [thenK, blockK, reduceIte]
    exact Or.inl (end_ok trivial (rs_t (v := .d (eU8 v5)) rfl rs_nil) (en_d (to_d _) en_nil) ou_nil (by first | exact eok rfl rfl rfl rfl trivial | (refine eok ?_ ?_ ?_ ?_ ?_ <;> first | rfl | exact trivial | simp [retM, Mem.get, PV.renL, PV.ren, Blk.ren, comps, rhoR, rhoM, appN, PV.refsL, PV.refs, keys, nodupB, Blk.refs, allIn, Blk.bor])))
  · refine rwp_block fun K9 hK9 => ?_
    refine rwp_loop ([], []) 1600 (fun k env mem => ∃ (v10 : BitVec 8) (v11 : BitVec 8) (v12 : BitVec 8), sharingMulL2 k v10 v11 v12 = some res ∧ env = [(0, .d (eU8 v10)), (1, .d (eU8 v11)), (5, .d (eU8 v12))] ∧ mem = []) FUEL ⟨_, _, Settled.refl, _, _, ⟨_, _, _, h, rfl, rfl⟩, ⟨rfl, ⟨⟨rfl, rfl⟩, ⟨⟨rfl, rfl⟩, ⟨⟨rfl, rfl⟩, trivial⟩⟩⟩, trivial⟩, rfl⟩ (fun k2 env1 mem1 hI K13 hK13 => ?_)
    obtain ⟨v10, v11, v12, h, rfl, rfl⟩ := hI
    cases k2 with
    | zero => simp [sharingMulL2] at h
    | succ k2 =>
      rw [sharingMulL2] at h
      refine rwp_seq fun K14 hK14 => ?_
      refine rwp_seq fun K15 hK15 => ?_
      refine rwp_region fun K16 hK16 => ?_
      refine st0 1664 rfl (ok (mv (.d (eU8 v11)))) ?_
      refine st0 1728 rfl (ok (gtr8 _ (0#8))) ?_
      refine hK16 _ _ ?_
      simp only [thenK, blockK, keepE, updM, List.filter_cons, List.filter_nil, List.nil_append, List.cons_append, List.map_cons, List.map_nil, envE, Mem.get, Nat.reduceEqDiff, reduceIte, Option.isNone_none, Option.isNone_some, Bool.false_eq_true, List.length_cons, List.length_nil, Nat.reduceAdd, Nat.reduceMul]
      refine hK15 _ _ _ ?_
      rcases Bool.eq_false_or_eq_true ((decide ((0#8).toNat < v11.toNat))) with h17 | h17
      · replace h := ite_t h h17
        refine rwp_t (isT h17) ?_
        refine rwp_skip ?_
        refine hK14 _ _ _ ?_
        refine rwp_join ([], []) 2688 (fun env mem => ∃ (v18 : BitVec 8) (v19 : BitVec 8), sharingMulJ3 (sharingMulL2 k2) v11 v18 v19 = some res ∧ env = [(0, .d (eU8 v18)), (1, .d (eU8 v11)), (5, .d (eU8 v19))] ∧ mem = []) (fun _ _ hI => ?_) (fun K20 hK20 => ?_)
        · obtain ⟨v18, v19, h, rfl, rfl⟩ := hI
          unfold sharingMulJ3 at h
          refine rwp_region fun K21 hK21 => ?_
          refine st0 2752 rfl (ok (mv (.d (eU8 v11)))) ?_
          refine st0 2816 rfl (ok (shrL8 _ 1 rfl)) ?_
          refine st0 2880 rfl (ok (mv (.d (eU8 (v11 >>> 1))))) ?_
          refine hK21 _ _ ?_
          simp only [thenK, blockK, keepE, updM, List.filter_cons, List.filter_nil, List.nil_append, List.cons_append, List.map_cons, List.map_nil, envE, Mem.get, Nat.reduceEqDiff, reduceIte, Option.isNone_none, Option.isNone_some, Bool.false_eq_true, List.length_cons, List.length_nil, Nat.reduceAdd, Nat.reduceMul]
          exact hK13.out _ _ _ k2 (Nat.lt_succ_self k2) ⟨_, _, Settled.refl, _, _, ⟨_, _, _, h, rfl, rfl⟩, ⟨rfl, ⟨⟨rfl, rfl⟩, ⟨⟨rfl, rfl⟩, ⟨⟨rfl, rfl⟩, trivial⟩⟩⟩, trivial⟩, rfl⟩
        · refine rwp_block fun K22 hK22 => ?_
          refine rwp_join ([], []) 2240 (fun env mem => ∃ (v23 : BitVec 8), sharingMulJ4 (sharingMulL2 k2) v10 v11 v23 = some res ∧ env = [(0, .d (eU8 v10)), (1, .d (eU8 v11)), (5, .d (eU8 v23))] ∧ mem = []) (fun _ _ hI => ?_) (fun K24 hK24 => ?_)
          · obtain ⟨v23, h, rfl, rfl⟩ := hI
            unfold sharingMulJ4 at h
            refine rwp_seq fun K25 hK25 => ?_
            refine rwp_region fun K26 hK26 => ?_
            refine st0 2304 rfl (ok (mv (.d (eU8 v10)))) ?_
            refine st0 2368 rfl (ok (geq8 _ (128#8))) ?_
            refine hK26 _ _ ?_
            simp only [thenK, blockK, keepE, updM, List.filter_cons, List.filter_nil, List.nil_append, List.cons_append, List.map_cons, List.map_nil, envE, Mem.get, Nat.reduceEqDiff, reduceIte, Option.isNone_none, Option.isNone_some, Bool.false_eq_true, List.length_cons, List.length_nil, Nat.reduceAdd, Nat.reduceMul]
            refine hK25 _ _ _ ?_
            rcases Bool.eq_false_or_eq_true ((decide ((128#8).toNat ≤ v10.toNat))) with h27 | h27
            · replace h := ite_t h h27
              refine rwp_t (isT h27) ?_
              refine rwp_region fun K28 hK28 => ?_
              refine st0 2432 rfl (ok (mv (.d (eU8 v10)))) ?_
              refine st0 2496 rfl (ok (shlL8 _ 1 rfl)) ?_
              refine st0 2560 rfl (ok (xor8 _ (27#8))) ?_
              refine st0 2624 rfl (ok (mv (.d (eU8 ((v10 <<< 1) ^^^ (27#8)))))) ?_
              refine hK28 _ _ ?_
              simp only [thenK, blockK, keepE, updM, List.filter_cons, List.filter_nil, List.nil_append, List.cons_append, List.map_cons, List.map_nil, envE, Mem.get, Nat.reduceEqDiff, reduceIte, Option.isNone_none, Option.isNone_some, Bool.false_eq_true, List.length_cons, List.length_nil, Nat.reduceAdd, Nat.reduceMul]
              refine hK22 _ _ _ ?_
              exact hK20 _ _ _ ⟨_, _, Settled.refl, _, _, ⟨_, _, h, rfl, rfl⟩, ⟨rfl, ⟨⟨rfl, rfl⟩, ⟨⟨rfl, rfl⟩, ⟨⟨rfl, rfl⟩, trivial⟩⟩⟩, trivial⟩, rfl⟩
            · replace h := ite_f h h27
              refine rwp_f (isF h27) ?_
              refine rwp_region fun K29 hK29 => ?_
              refine st0 2432 rfl (ok (mv (.d (eU8 v10)))) ?_
              refine st0 2496 rfl (ok (shlL8 _ 1 rfl)) ?_
              refine st0 2560 rfl (ok (mv (.d (eU8 (v10 <<< 1))))) ?_
              refine hK29 _ _ ?_
              simp only [thenK, blockK, keepE, updM, List.filter_cons, List.filter_nil, List.nil_append, List.cons_append, List.map_cons, List.map_nil, envE, Mem.get, Nat.reduceEqDiff, reduceIte, Option.isNone_none, Option.isNone_some, Bool.false_eq_true, List.length_cons, List.length_nil, Nat.reduceAdd, Nat.reduceMul]
              refine hK22 _ _ _ ?_
              exact hK20 _ _ _ ⟨_, _, Settled.refl, _, _, ⟨_, _, h, rfl, rfl⟩, ⟨rfl, ⟨⟨rfl, rfl⟩, ⟨⟨rfl, rfl⟩, ⟨⟨rfl, rfl⟩, trivial⟩⟩⟩, trivial⟩, rfl⟩
          · refine rwp_seq fun K30 hK30 => ?_
            refine rwp_region fun K31 hK31 => ?_
            refine st0 1792 rfl (ok (mv (.d (eU8 v11)))) ?_
            refine st0 1856 rfl (ok (and8 _ (1#8))) ?_
            refine st0 1920 rfl (ok (eql8 _ (1#8))) ?_
            refine hK31 _ _ ?_
            simp only [thenK, blockK, keepE, updM, List.filter_cons, List.filter_nil, List.nil_append, List.cons_append, List.map_cons, List.map_nil, envE, Mem.get, Nat.reduceEqDiff, reduceIte, Option.isNone_none, Option.isNone_some, Bool.false_eq_true, List.length_cons, List.length_nil, Nat.reduceAdd, Nat.reduceMul]
            refine hK30 _ _ _ ?_
            rcases Bool.eq_false_or_eq_true (((v11 &&& (1#8)) == (1#8))) with h32 | h32
            · replace h := ite_t h h32
              refine rwp_t (isT h32) ?_
              refine rwp_region fun K33 hK33 => ?_
              refine st0 1984 rfl (ok (mv (.d (eU8 v12)))) ?_
              refine st0 2048 rfl (ok (mv (.d (eU8 v10)))) ?_
              refine st0 2112 rfl (ok (xor8 _ _)) ?_
              refine st0 2176 rfl (ok (mv (.d (eU8 (v12 ^^^ v10))))) ?_
              refine hK33 _ _ ?_
              simp only [thenK, blockK, keepE, updM, List.filter_cons, List.filter_nil, List.nil_append, List.cons_append, List.map_cons, List.map_nil, envE, Mem.get, Nat.reduceEqDiff, reduceIte, Option.isNone_none, Option.isNone_some, Bool.false_eq_true, List.length_cons, List.length_nil, Nat.reduceAdd, Nat.reduceMul]
              exact hK24 _ _ _ ⟨_, _, Settled.refl, _, _, ⟨_, h, rfl, rfl⟩, ⟨rfl, ⟨⟨rfl, rfl⟩, ⟨⟨rfl, rfl⟩, ⟨⟨rfl, rfl⟩, trivial⟩⟩⟩, trivial⟩, rfl⟩
            · replace h := ite_f h h32
              refine rwp_f (isF h32) ?_
              refine rwp_skip ?_
              exact hK24 _ _ _ ⟨_, _, Settled.refl, _, _, ⟨_, h, rfl, rfl⟩, ⟨rfl, ⟨⟨rfl, rfl⟩, ⟨⟨rfl, rfl⟩, ⟨⟨rfl, rfl⟩, trivial⟩⟩⟩, trivial⟩, rfl⟩
      · replace h := ite_f h h17
        refine rwp_f (isF h17) ?_
        refine rwp_exit ?_
        refine hK9 _ _ _ ?_
        exact hK6 _ _ _ ⟨_, _, Settled.refl, _, _, ⟨_, h, rfl, rfl⟩, ⟨rfl, ⟨⟨rfl, rfl⟩, trivial⟩, trivial⟩, rfl⟩

/-- passkey/passkeyref37.Mul -/
def passkeyref37MulH : Hints := ⟨[(0, [0, 1]), (1, [0, 1, 5]), (2, [1, 5, 6]), (3, [1, 5, 6, 7]), (4, [1, 5, 6, 7, 11]), (6, [1, 5, 6, 7, 18]), (7, [1, 5, 6, 7]), (8, [1, 5, 6, 7]), (9, [1, 5, 6, 7, 27]), (10, [1, 5, 6, 7]), (5, [1, 5, 6, 7]), (11, [4])], []⟩
def passkeyref37MulRc : RCode :=
  .seq (.region false [⟨some 4, .mv, [.k (.d (.int .u8 0))], none, []⟩] [0, 1]) (.seq (.region false [⟨some 5, .mv, [.k (.d (.int .u8 0))], none, []⟩] [0, 1, 5]) (.seq (.region false
  [⟨some 8, .mv, [.t 0], none, []⟩, ⟨some 9, .cvt .u64, [.t 8], none, []⟩, ⟨some 6, .mv, [.t 9], none, []⟩] [1, 5, 6]) (.seq (.seq (.region false [⟨some 7, .mv, [.k (.d (.int .u64
  0))], none, []⟩] [1, 5, 6, 7]) (.block 0 (.loop [] (.seq (.seq (.region false [⟨some 10, .mv, [.t 7], none, []⟩, ⟨some 11, .bin .lss, [.t 10, .k (.d (.int .u64 8))], none, []⟩]
  [1, 5, 6, 7, 11]) (.cond (.t 11) .skip (.exit 0))) (.seq (.block 1 (.seq (.seq (.region false [⟨some 14, .mv, [.t 1], none, []⟩, ⟨some 15, .mv, [.t 7], none, []⟩, ⟨some 16, .bin
  .shr, [.t 14, .t 15], none, []⟩, ⟨some 17, .bin .and, [.t 16, .k (.d (.int .u8 1))], none, []⟩, ⟨some 18, .bin .eql, [.t 17, .k (.d (.int .u8 1))], none, []⟩] [1, 5, 6, 7, 18])
  (.cond (.t 18) (.region false [⟨some 19, .mv, [.t 5], none, []⟩, ⟨some 20, .mv, [.t 6], none, []⟩, ⟨some 21, .cvt .u8, [.t 20], none, []⟩, ⟨some 22, .bin .xor, [.t 19, .t 21],
  none, []⟩, ⟨some 5, .mv, [.t 22], none, []⟩] [1, 5, 6, 7]) .skip)) (.seq (.region false [⟨some 23, .mv, [.t 6], none, []⟩, ⟨some 24, .bin .shl, [.t 23, .k (.d (.int .u64 1))],
  none, []⟩, ⟨some 6, .mv, [.t 24], none, []⟩] [1, 5, 6, 7]) (.seq (.region false [⟨some 25, .mv, [.t 6], none, []⟩, ⟨some 26, .bin .and, [.t 25, .k (.d (.int .u64 256))], none,
  []⟩, ⟨some 27, .bin .neq, [.t 26, .k (.d (.int .u64 0))], none, []⟩] [1, 5, 6, 7, 27]) (.cond (.t 27) (.region false [⟨some 28, .mv, [.t 6], none, []⟩, ⟨some 29, .bin .xor, [.t
  28, .k (.d (.int .u64 283))], none, []⟩, ⟨some 6, .mv, [.t 29], none, []⟩] [1, 5, 6, 7]) .skip))))) (.region false [⟨some 12, .mv, [.t 7], none, []⟩, ⟨some 13, .bin .add, [.t 12,
  .k (.d (.int .u64 1))], none, []⟩, ⟨some 7, .mv, [.t 13], none, []⟩] [1, 5, 6, 7])))))) (.seq (.region false [⟨some 30, .mv, [.t 5], none, []⟩, ⟨some 4, .mv, [.t 30], none, []⟩]
  [4]) .ret))))
def passkeyref37MulRr : List RR := [.t 4]
theorem passkeyref37MulC : compFn Try.prog 10 passkeyref37MulH = some (passkeyref37MulRc, passkeyref37MulRr, 31) := by kernel_rfl
theorem passkeyref37MulOK (a0 : BitVec 8) (a1 : BitVec 8) (res : BitVec 8) (h : passkeyref37Mul a0 a1 = some res) : CallOK Try.prog 10 [.d (eU8 a0), .d (eU8 a1)] [] (.d (eU8 res)) [] := by
  unfold passkeyref37Mul at h
  refine callOK passkeyref37MulC fm rfl ?_
  simp only [initE, initM, nbor, List.map_cons, List.map_nil, Nat.reduceAdd]
  unfold passkeyref37MulRc
  refine rwp_seq fun K1 hK1 => ?_
  refine rwp_region fun K2 hK2 => ?_
  refine st0 128 rfl (ok (mv (.d (eU8 (0#8))))) ?_
  refine hK2 _ _ ?_
  simp only [thenK, blockK, keepE, updM, List.filter_cons, List.filter_nil, List.nil_append, List.cons_append, List.map_cons, List.map_nil, envE, Mem.get, Nat.reduceEqDiff, reduceIte, Option.isNone_none, Option.isNone_some, Bool.false_eq_true, List.length_cons, List.length_nil, Nat.reduceAdd, Nat.reduceMul]
  refine hK1 _ _ _ ?_
  refine rwp_seq fun K3 hK3 => ?_
  refine rwp_region fun K4 hK4 => ?_
  refine st0 192 rfl (ok (mv (.d (eU8 (0#8))))) ?_
  refine hK4 _ _ ?_
  simp only [thenK, blockK, keepE, updM, List.filter_cons, List.filter_nil, List.nil_append, List.cons_append, List.map_cons, List.map_nil, envE, Mem.get, Nat.reduceEqDiff, reduceIte, Option.isNone_none, Option.isNone_some, Bool.false_eq_true, List.length_cons, List.length_nil, Nat.reduceAdd, Nat.reduceMul]
  refine hK3 _ _ _ ?_
  refine rwp_seq fun K5 hK5 => ?_
  refine rwp_region fun K6 hK6 => ?_
  refine st0 256 rfl (ok (mv (.d (eU8 a0)))) ?_
  refine st0 320 rfl (ok (cvt8_64 _)) ?_
  refine st0 384 rfl (ok (mv (.d (eU64 (a0.setWidth 64))))) ?_
  refine hK6 _ _ ?_
  simp only [thenK, blockK, keepE, updM, List.filter_cons, List.filter_nil, List.nil_append, List.cons_append, List.map_cons, List.map_nil, envE, Mem.get, Nat.reduceEqDiff, reduceIte, Option.isNone_none, Option.isNone_some, Bool.false_eq_true, List.length_cons, List.length_nil, Nat.reduceAdd, Nat.reduceMul]
  refine hK5 _ _ _ ?_
  refine rwp_join ([], []) 2432 (fun env mem => ∃ (v7 : BitVec 8), passkeyref37MulJ1 v7 = some res ∧ env = [(5, .d (eU8 v7))] ∧ mem = []) (fun _ _ hI => ?_) (fun K8 hK8 => ?_)
  · obtain ⟨v7, h, rfl, rfl⟩ := hI
    unfold passkeyref37MulJ1 at h
    refine rwp_seq fun K9 hK9 => ?_
    refine rwp_region fun K10 hK10 => ?_
    refine st0 2496 rfl (ok (mv (.d (eU8 v7)))) ?_
    refine st0 2560 rfl (ok (mv (.d (eU8 v7)))) ?_
    refine hK10 _ _ ?_
    simp only [thenK, blockK, keepE, updM, List.filter_cons, List.filter_nil, List.nil_append, List.cons_append, List.map_cons, List.map_nil, envE, Mem.get, Nat.reduceEqDiff, reduceIte, Option.isNone_none, Option.isNone_some, Bool.false_eq_true, List.length_cons, List.length_nil, Nat.reduceAdd, Nat.reduceMul]
    refine hK9 _ _ _ ?_
    refine rwp_ret ?_
    obtain rfl := Option.some.inj h
    try simp only [thenK, blockK, reduceIte]
    exact Or.inl (end_ok trivial (rs_t (v := .d (eU8 v7)) rfl rs_nil) (en_d (to_d _) en_nil) ou_nil (by first | exact eok rfl rfl rfl rfl trivial | (refine eok ?_ ?_ ?_ ?_ ?_ <;> first | rfl | exact trivial | simp [retM, Mem.get, PV.renL, PV.ren, Blk.ren, comps, rhoR, rhoM, appN, PV.refsL, PV.refs, keys, nodupB, Blk.refs, allIn, Blk.bor])))
  · refine rwp_seq fun K11 hK11 => ?_
    refine rwp_region fun K12 hK12 => ?_
    refine st0 448 rfl (ok (mv (.d (eU64 (0#64))))) ?_
    refine hK12 _ _ ?_
    simp only [thenK, blockK, keepE, updM, List.filter_cons, List.filter_nil, List.nil_append, List.cons_append, List.map_cons, List.map_nil, envE, Mem.get, Nat.reduceEqDiff, reduceIte, Option.isNone_none, Option.isNone_some, Bool.false_eq_true, List.length_cons, List.length_nil, Nat.reduceAdd, Nat.reduceMul]
    refine hK11 _ _ _ ?_
    refine rwp_block fun K13 hK13 => ?_
    refine rwp_loop ([], []) 2240 (fun k env mem => ∃ (v14 : BitVec 8) (v15 : BitVec 64) (v16 : BitVec 64), passkeyref37MulL2 a1 k v14 v15 v16 = some res ∧ env = [(1, .d (eU8 a1)), (5, .d (eU8 v14)), (6, .d (eU64 v15)), (7, .d (eU64 v16))] ∧ mem = []) FUEL ⟨_, _, Settled.refl, _, _, ⟨_, _, _, h, rfl, rfl⟩, ⟨rfl, ⟨⟨rfl, rfl⟩, ⟨⟨rfl, rfl⟩, ⟨⟨rfl, rfl⟩, ⟨⟨rfl, rfl⟩, trivial⟩⟩⟩⟩, trivial⟩, rfl⟩ (fun k2 env1 mem1 hI K17 hK17 => ?_)
    obtain ⟨v14, v15, v16, h, rfl, rfl⟩ := hI
    cases k2 with
    | zero => simp [passkeyref37MulL2] at h
    | succ k2 =>
      rw [passkeyref37MulL2] at h
      refine rwp_seq fun K18 hK18 => ?_
      refine rwp_seq fun K19 hK19 => ?_
      refine rwp_region fun K20 hK20 => ?_
      refine st0 2304 rfl (ok (mv (.d (eU64 v16)))) ?_
      refine st0 2368 rfl (ok (lss64 _ (8#64))) ?_
      refine hK20 _ _ ?_
      simp only [thenK, blockK, keepE, updM, List.filter_cons, List.filter_nil, List.nil_append, List.cons_append, List.map_cons, List.map_nil, envE, Mem.get, Nat.reduceEqDiff, reduceIte, Option.isNone_none, Option.isNone_some, Bool.false_eq_true, List.length_cons, List.length_nil, Nat.reduceAdd, Nat.reduceMul]
      refine hK19 _ _ _ ?_
      rcases Bool.eq_false_or_eq_true ((decide (v16.toNat < (8#64).toNat))) with h21 | h21
      · replace h := ite_t h h21
        refine rwp_t (isT h21) ?_
        refine rwp_skip ?_
        refine hK18 _ _ _ ?_
        refine rwp_join ([], []) 3712 (fun env mem => ∃ (v22 : BitVec 8) (v23 : BitVec 64), passkeyref37MulJ3 (passkeyref37MulL2 a1 k2) v16 v22 v23 = some res ∧ env = [(1, .d (eU8 a1)), (5, .d (eU8 v22)), (6, .d (eU64 v23)), (7, .d (eU64 v16))] ∧ mem = []) (fun _ _ hI => ?_) (fun K24 hK24 => ?_)
        · obtain ⟨v22, v23, h, rfl, rfl⟩ := hI
          unfold passkeyref37MulJ3 at h
          refine rwp_region fun K25 hK25 => ?_
          refine st0 3776 rfl (ok (mv (.d (eU64 v16)))) ?_
          refine st0 3840 rfl (ok (add64 _ (1#64))) ?_
          refine st0 3904 rfl (ok (mv (.d (eU64 (v16 + (1#64)))))) ?_
          refine hK25 _ _ ?_
          simp only [thenK, blockK, keepE, updM, List.filter_cons, List.filter_nil, List.nil_append, List.cons_append, List.map_cons, List.map_nil, envE, Mem.get, Nat.reduceEqDiff, reduceIte, Option.isNone_none, Option.isNone_some, Bool.false_eq_true, List.length_cons, List.length_nil, Nat.reduceAdd, Nat.reduceMul]
          exact hK17.out _ _ _ k2 (Nat.lt_succ_self k2) ⟨_, _, Settled.refl, _, _, ⟨_, _, _, h, rfl, rfl⟩, ⟨rfl, ⟨⟨rfl, rfl⟩, ⟨⟨rfl, rfl⟩, ⟨⟨rfl, rfl⟩, ⟨⟨rfl, rfl⟩, trivial⟩⟩⟩⟩, trivial⟩, rfl⟩
        · refine rwp_block fun K26 hK26 => ?_
          refine rwp_join ([], []) 3072 (fun env mem => ∃ (v27 : BitVec 8), passkeyref37MulJ4 (passkeyref37MulL2 a1 k2) v15 v16 v27 = some res ∧ env = [(1, .d (eU8 a1)), (5, .d (eU8 v27)), (6, .d (eU64 v15)), (7, .d (eU64 v16))] ∧ mem = []) (fun _ _ hI => ?_) (fun K28 hK28 => ?_)
          · obtain ⟨v27, h, rfl, rfl⟩ := hI
            unfold passkeyref37MulJ4 at h
            refine rwp_seq fun K29 hK29 => ?_
            refine rwp_region fun K30 hK30 => ?_
            refine st0 3136 rfl (ok (mv (.d (eU64 v15)))) ?_
            refine st0 3200 rfl (ok (shlL64 _ 1 rfl)) ?_
            refine st0 3264 rfl (ok (mv (.d (eU64 (v15 <<< 1))))) ?_
            refine hK30 _ _ ?_
            simp only [thenK, blockK, keepE, updM, List.filter_cons, List.filter_nil, List.nil_append, List.cons_append, List.map_cons, List.map_nil, envE, Mem.get, Nat.reduceEqDiff, reduceIte, Option.isNone_none, Option.isNone_some, Bool.false_eq_true, List.length_cons, List.length_nil, Nat.reduceAdd, Nat.reduceMul]
            refine hK29 _ _ _ ?_
            refine rwp_seq fun K31 hK31 => ?_
            refine rwp_region fun K32 hK32 => ?_
            refine st0 3328 rfl (ok (mv (.d (eU64 (v15 <<< 1))))) ?_
            refine st0 3392 rfl (ok (and64 _ (256#64))) ?_
            refine st0 3456 rfl (ok (neq64 _ (0#64))) ?_
            refine hK32 _ _ ?_
            simp only [thenK, blockK, keepE, updM, List.filter_cons, List.filter_nil, List.nil_append, List.cons_append, List.map_cons, List.map_nil, envE, Mem.get, Nat.reduceEqDiff, reduceIte, Option.isNone_none, Option.isNone_some, Bool.false_eq_true, List.length_cons, List.length_nil, Nat.reduceAdd, Nat.reduceMul]
            refine hK31 _ _ _ ?_
            rcases Bool.eq_false_or_eq_true ((((v15 <<< 1) &&& (256#64)) != (0#64))) with h33 | h33
            · replace h := ite_t h h33
              refine rwp_t (isT h33) ?_
              refine rwp_region fun K34 hK34 => ?_
              refine st0 3520 rfl (ok (mv (.d (eU64 (v15 <<< 1))))) ?_
              refine st0 3584 rfl (ok (xor64 _ (283#64))) ?_
              refine st0 3648 rfl (ok (mv (.d (eU64 ((v15 <<< 1) ^^^ (283#64)))))) ?_
              refine hK34 _ _ ?_
              simp only [thenK, blockK, keepE, updM, List.filter_cons, List.filter_nil, List.nil_append, List.cons_append, List.map_cons, List.map_nil, envE, Mem.get, Nat.reduceEqDiff, reduceIte, Option.isNone_none, Option.isNone_some, Bool.false_eq_true, List.length_cons, List.length_nil, Nat.reduceAdd, Nat.reduceMul]
              refine hK26 _ _ _ ?_
              exact hK24 _ _ _ ⟨_, _, Settled.refl, _, _, ⟨_, _, h, rfl, rfl⟩, ⟨rfl, ⟨⟨rfl, rfl⟩, ⟨⟨rfl, rfl⟩, ⟨⟨rfl, rfl⟩, ⟨⟨rfl, rfl⟩, trivial⟩⟩⟩⟩, trivial⟩, rfl⟩
            · replace h := ite_f h h33
              refine rwp_f (isF h33) ?_
              refine rwp_skip ?_
              refine hK26 _ _ _ ?_
              exact hK24 _ _ _ ⟨_, _, Settled.refl, _, _, ⟨_, _, h, rfl, rfl⟩, ⟨rfl, ⟨⟨rfl, rfl⟩, ⟨⟨rfl, rfl⟩, ⟨⟨rfl, rfl⟩, ⟨⟨rfl, rfl⟩, trivial⟩⟩⟩⟩, trivial⟩, rfl⟩
          · refine rwp_seq fun K35 hK35 => ?_
            refine rwp_region fun K36 hK36 => ?_
            refine st0 2432 rfl (ok (mv (.d (eU8 a1)))) ?_
            refine st0 2496 rfl (ok (mv (.d (eU64 v16)))) ?_
            refine st0 2560 rfl (ok (shr8_64 _ _)) ?_
            refine st0 2624 rfl (ok (and8 _ (1#8))) ?_
            refine st0 2688 rfl (ok (eql8 _ (1#8))) ?_
            refine hK36 _ _ ?_
            simp only [thenK, blockK, keepE, updM, List.filter_cons, List.filter_nil, List.nil_append, List.cons_append, List.map_cons, List.map_nil, envE, Mem.get, Nat.reduceEqDiff, reduceIte, Option.isNone_none, Option.isNone_some, Bool.false_eq_true, List.length_cons, List.length_nil, Nat.reduceAdd, Nat.reduceMul]
            refine hK35 _ _ _ ?_
            rcases Bool.eq_false_or_eq_true ((((a1 >>> v16.toNat) &&& (1#8)) == (1#8))) with h37 | h37
            · replace h := ite_t h h37
              refine rwp_t (isT h37) ?_
              refine rwp_region fun K38 hK38 => ?_
              refine st0 2752 rfl (ok (mv (.d (eU8 v14)))) ?_
              refine st0 2816 rfl (ok (mv (.d (eU64 v15)))) ?_
              refine st0 2880 rfl (ok (cvt64_8 _)) ?_
              refine st0 2944 rfl (ok (xor8 _ _)) ?_
              refine st0 3008 rfl (ok (mv (.d (eU8 (v14 ^^^ (v15.setWidth 8)))))) ?_
              refine hK38 _ _ ?_
              simp only [thenK, blockK, keepE, updM, List.filter_cons, List.filter_nil, List.nil_append, List.cons_append, List.map_cons, List.map_nil, envE, Mem.get, Nat.reduceEqDiff, reduceIte, Option.isNone_none, Option.isNone_some, Bool.false_eq_true, List.length_cons, List.length_nil, Nat.reduceAdd, Nat.reduceMul]
              exact hK28 _ _ _ ⟨_, _, Settled.refl, _, _, ⟨_, h, rfl, rfl⟩, ⟨rfl, ⟨⟨rfl, rfl⟩, ⟨⟨rfl, rfl⟩, ⟨⟨rfl, rfl⟩, ⟨⟨rfl, rfl⟩, trivial⟩⟩⟩⟩, trivial⟩, rfl⟩
            · replace h := ite_f h h37
              refine rwp_f (isF h37) ?_
              refine rwp_skip ?_
              exact hK28 _ _ _ ⟨_, _, Settled.refl, _, _, ⟨_, h, rfl, rfl⟩, ⟨rfl, ⟨⟨rfl, rfl⟩, ⟨⟨rfl, rfl⟩, ⟨⟨rfl, rfl⟩, ⟨⟨rfl, rfl⟩, trivial⟩⟩⟩⟩, trivial⟩, rfl⟩
      · replace h := ite_f h h21
        refine rwp_f (isF h21) ?_
        refine rwp_exit ?_
        refine hK13 _ _ _ ?_
        exact hK8 _ _ _ ⟨_, _, Settled.refl, _, _, ⟨_, h, rfl, rfl⟩, ⟨rfl, ⟨⟨rfl, rfl⟩, trivial⟩, trivial⟩, rfl⟩

/-- passkey/sharing.Inverse -/
def sharingInverseH : Hints := ⟨[(0, [0]), (1, [0, 3]), (2, [0, 3, 4]), (3, [0, 3, 4, 6]), (5, [0, 3, 4]), (6, [0, 3, 4]), (4, [0, 3, 4]), (7, [2])], []⟩
def sharingInverseRc : RCode :=
  .seq (.region false [⟨some 2, .mv, [.k (.d (.int .u8 0))], none, []⟩] [0]) (.seq (.region false [⟨some 3, .mv, [.k (.d (.int .u8 1))], none, []⟩] [0, 3]) (.seq (.seq (.region false
  [⟨some 4, .mv, [.k (.d (.int .i64 0))], none, []⟩] [0, 3, 4]) (.block 0 (.loop [] (.seq (.seq (.region false [⟨some 5, .mv, [.t 4], none, []⟩, ⟨some 6, .bin .lss, [.t 5, .k (.d
  (.int .i64 7))], none, []⟩] [0, 3, 4, 6]) (.cond (.t 6) .skip (.exit 0))) (.seq (.block 1 (.seq (.region false [⟨some 9, .mv, [.t 0], none, []⟩, ⟨some 10, .mv, [.t 0], none, []⟩,
  ⟨some 11, .call 9 false, [.t 9, .t 10], none, []⟩, ⟨some 0, .mv, [.t 11], none, []⟩] [0, 3, 4]) (.region false [⟨some 12, .mv, [.t 3], none, []⟩, ⟨some 13, .mv, [.t 0], none,
  []⟩, ⟨some 14, .call 9 false, [.t 12, .t 13], none, []⟩, ⟨some 3, .mv, [.t 14], none, []⟩] [0, 3, 4]))) (.region false [⟨some 7, .mv, [.t 4], none, []⟩, ⟨some 8, .bin .add, [.t
  7, .k (.d (.int .i64 1))], none, []⟩, ⟨some 4, .mv, [.t 8], none, []⟩] [0, 3, 4])))))) (.seq (.region false [⟨some 15, .mv, [.t 3], none, []⟩, ⟨some 2, .mv, [.t 15], none, []⟩]
  [2]) .ret)))
def sharingInverseRr : List RR := [.t 2]
theorem sharingInverseC : compFn Try.prog 11 sharingInverseH = some (sharingInverseRc, sharingInverseRr, 16) := by kernel_rfl
theorem sharingInverseOK (a0 : BitVec 8) (res : BitVec 8) (h : sharingInverse a0 = some res) : CallOK Try.prog 11 [.d (eU8 a0)] [] (.d (eU8 res)) [] := by
  unfold sharingInverse at h
  refine callOK sharingInverseC fm rfl ?_
  simp only [initE, initM, nbor, List.map_cons, List.map_nil, Nat.reduceAdd]
  unfold sharingInverseRc
  refine rwp_seq fun K1 hK1 => ?_
  refine rwp_region fun K2 hK2 => ?_
  refine st0 128 rfl (ok (mv (.d (eU8 (0#8))))) ?_
  refine hK2 _ _ ?_
  simp only [thenK, blockK, keepE, updM, List.filter_cons, List.filter_nil, List.nil_append, List.cons_append, List.map_cons, List.map_nil, envE, Mem.get, Nat.reduceEqDiff, reduceIte, Option.isNone_none, Option.isNone_some, Bool.false_eq_true, List.length_cons, List.length_nil, Nat.reduceAdd, Nat.reduceMul]
  refine hK1 _ _ _ ?_
  refine rwp_seq fun K3 hK3 => ?_
  refine rwp_region fun K4 hK4 => ?_
  refine st0 192 rfl (ok (mv (.d (eU8 (1#8))))) ?_
  refine hK4 _ _ ?_
  simp only [thenK, blockK, keepE, updM, List.filter_cons, List.filter_nil, List.nil_append, List.cons_append, List.map_cons, List.map_nil, envE, Mem.get, Nat.reduceEqDiff, reduceIte, Option.isNone_none, Option.isNone_some, Bool.false_eq_true, List.length_cons, List.length_nil, Nat.reduceAdd, Nat.reduceMul]
  refine hK3 _ _ _ ?_
  refine rwp_join ([], []) 1408 (fun env mem => ∃ (v5 : BitVec 8), sharingInverseJ1 v5 = some res ∧ env = [(3, .d (eU8 v5))] ∧ mem = []) (fun _ _ hI => ?_) (fun K6 hK6 => ?_)
  · obtain ⟨v5, h, rfl, rfl⟩ := hI
    unfold sharingInverseJ1 at h
    refine rwp_seq fun K7 hK7 => ?_
    refine rwp_region fun K8 hK8 => ?_
    refine st0 1472 rfl (ok (mv (.d (eU8 v5)))) ?_
    refine st0 1536 rfl (ok (mv (.d (eU8 v5)))) ?_
    refine hK8 _ _ ?_
    simp only [thenK, blockK, keepE, updM, List.filter_cons, List.filter_nil, List.nil_append, List.cons_append, List.map_cons, List.map_nil, envE, Mem.get, Nat.reduceEqDiff, reduceIte, Option.isNone_none, Option.isNone_some, Bool.false_eq_true, List.length_cons, List.length_nil, Nat.reduceAdd, Nat.reduceMul]
    refine hK7 _ _ _ ?_
    refine rwp_ret ?_
    obtain rfl := Option.some.inj h
    try simp only [thenK, blockK, reduceIte]
    exact Or.inl (end_ok trivial (rs_t (v := .d (eU8 v5)) rfl rs_nil) (en_d (to_d _) en_nil) ou_nil (by first | exact eok rfl rfl rfl rfl trivial | (refine eok ?_ ?_ ?_ ?_ ?_ <;> first | rfl | exact trivial | simp [retM, Mem.get, PV.renL, PV.ren, Blk.ren, comps, rhoR, rhoM, appN, PV.refsL, PV.refs, keys, nodupB, Blk.refs, allIn, Blk.bor])))
  · refine rwp_seq fun K9 hK9 => ?_
    refine rwp_region fun K10 hK10 => ?_
    refine st0 256 rfl (ok (mv (.d (eI (0 : Int))))) ?_
    refine hK10 _ _ ?_
    simp only [thenK, blockK, keepE, updM, List.filter_cons, List.filter_nil, List.nil_append, List.cons_append, List.map_cons, List.map_nil, envE, Mem.get, Nat.reduceEqDiff, reduceIte, Option.isNone_none, Option.isNone_some, Bool.false_eq_true, List.length_cons, List.length_nil, Nat.reduceAdd, Nat.reduceMul]
    refine hK9 _ _ _ ?_
    refine rwp_block fun K11 hK11 => ?_
    refine rwp_loop ([], []) 1216 (fun k env mem => ∃ (v12 : BitVec 8) (v13 : BitVec 8) (v14 : Int), sharingInverseL2 k v12 v13 v14 = some res ∧ env = [(0, .d (eU8 v12)), (3, .d (eU8 v13)), (4, .d (eI v14))] ∧ mem = []) FUEL ⟨_, _, Settled.refl, _, _, ⟨_, _, _, h, rfl, rfl⟩, ⟨rfl, ⟨⟨rfl, rfl⟩, ⟨⟨rfl, rfl⟩, ⟨⟨rfl, rfl⟩, trivial⟩⟩⟩, trivial⟩, rfl⟩ (fun k2 env1 mem1 hI K15 hK15 => ?_)
    obtain ⟨v12, v13, v14, h, rfl, rfl⟩ := hI
    cases k2 with
    | zero => simp [sharingInverseL2] at h
    | succ k2 =>
      rw [sharingInverseL2] at h
      refine rwp_seq fun K16 hK16 => ?_
      refine rwp_seq fun K17 hK17 => ?_
      refine rwp_region fun K18 hK18 => ?_
      refine st0 1280 rfl (ok (mv (.d (eI v14)))) ?_
      refine st0 1344 rfl (ok (lssI _ (7 : Int))) ?_
      refine hK18 _ _ ?_
      simp only [thenK, blockK, keepE, updM, List.filter_cons, List.filter_nil, List.nil_append, List.cons_append, List.map_cons, List.map_nil, envE, Mem.get, Nat.reduceEqDiff, reduceIte, Option.isNone_none, Option.isNone_some, Bool.false_eq_true, List.length_cons, List.length_nil, Nat.reduceAdd, Nat.reduceMul]
      refine hK17 _ _ _ ?_
      rcases Bool.eq_false_or_eq_true ((decide (v14 < (7 : Int)))) with h19 | h19
      · replace h := ite_t h h19
        refine rwp_t (isT h19) ?_
        refine rwp_skip ?_
        refine hK16 _ _ _ ?_
        refine rwp_seq fun K20 hK20 => ?_
        refine rwp_block fun K21 hK21 => ?_
        refine rwp_seq fun K22 hK22 => ?_
        refine rwp_region fun K23 hK23 => ?_
        refine st0 1408 rfl (ok (mv (.d (eU8 v12)))) ?_
        refine st0 1472 rfl (ok (mv (.d (eU8 v12)))) ?_
        obtain ⟨y24, h25, h⟩ := bind_inv h
        refine st0 1536 rfl (call_ok (v := .d (eU8 y24)) (u := []) (ar_d (eU8 v12) (ar_d (eU8 v12) ar_nil)) rfl (sharingMulOK v12 v12 y24 h25) rfl) ?_
        refine st0 1600 rfl (ok (mv (.d (eU8 y24)))) ?_
        refine hK23 _ _ ?_
        simp only [thenK, blockK, keepE, updM, List.filter_cons, List.filter_nil, List.nil_append, List.cons_append, List.map_cons, List.map_nil, envE, Mem.get, Nat.reduceEqDiff, reduceIte, Option.isNone_none, Option.isNone_some, Bool.false_eq_true, List.length_cons, List.length_nil, Nat.reduceAdd, Nat.reduceMul]
        refine hK22 _ _ _ ?_
        refine rwp_region fun K26 hK26 => ?_
        refine st0 1664 rfl (ok (mv (.d (eU8 v13)))) ?_
        refine st0 1728 rfl (ok (mv (.d (eU8 y24)))) ?_
        obtain ⟨y27, h28, h⟩ := bind_inv h
        refine st0 1792 rfl (call_ok (v := .d (eU8 y27)) (u := []) (ar_d (eU8 v13) (ar_d (eU8 y24) ar_nil)) rfl (sharingMulOK v13 y24 y27 h28) rfl) ?_
        refine st0 1856 rfl (ok (mv (.d (eU8 y27)))) ?_
        refine hK26 _ _ ?_
        simp only [thenK, blockK, keepE, updM, List.filter_cons, List.filter_nil, List.nil_append, List.cons_append, List.map_cons, List.map_nil, envE, Mem.get, Nat.reduceEqDiff, reduceIte, Option.isNone_none, Option.isNone_some, Bool.false_eq_true, List.length_cons, List.length_nil, Nat.reduceAdd, Nat.reduceMul]
        refine hK21 _ _ _ ?_
        refine hK20 _ _ _ ?_
        refine rwp_region fun K29 hK29 => ?_
        refine st0 1920 rfl (ok (mv (.d (eI v14)))) ?_
        refine st0 1984 rfl (ok (addI _ (1 : Int))) ?_
        refine st0 2048 rfl (ok (mv (.d (eI (w64 (v14 + (1 : Int))))))) ?_
        refine hK29 _ _ ?_
        simp only [thenK, blockK, keepE, updM, List.filter_cons, List.filter_nil, List.nil_append, List.cons_append, List.map_cons, List.map_nil, envE, Mem.get, Nat.reduceEqDiff, reduceIte, Option.isNone_none, Option.isNone_some, Bool.false_eq_true, List.length_cons, List.length_nil, Nat.reduceAdd, Nat.reduceMul]
        exact hK15.out _ _ _ k2 (Nat.lt_succ_self k2) ⟨_, _, Settled.refl, _, _, ⟨_, _, _, h, rfl, rfl⟩, ⟨rfl, ⟨⟨rfl, rfl⟩, ⟨⟨rfl, rfl⟩, ⟨⟨rfl, rfl⟩, trivial⟩⟩⟩, trivial⟩, rfl⟩
      · replace h := ite_f h h19
        refine rwp_f (isF h19) ?_
        refine rwp_exit ?_
        refine hK11 _ _ _ ?_
        exact hK6 _ _ _ ⟨_, _, Settled.refl, _, _, ⟨_, h, rfl, rfl⟩, ⟨rfl, ⟨⟨rfl, rfl⟩, trivial⟩, trivial⟩, rfl⟩

/-- passkey/passkeyref37.Inverse -/
def passkeyref37InverseH : Hints := ⟨[(0, [0]), (1, [0, 3]), (2, [0, 3, 4]), (3, [0, 3, 4, 6]), (5, [0, 3, 4]), (4, [0, 3, 4]), (6, [2])], []⟩
def passkeyref37InverseRc : RCode :=
  .seq (.region false [⟨some 2, .mv, [.k (.d (.int .u8 0))], none, []⟩] [0]) (.seq (.region false [⟨some 3, .mv, [.k (.d (.int .u8 1))], none, []⟩] [0, 3]) (.seq (.seq (.region false
  [⟨some 4, .mv, [.k (.d (.int .i64 0))], none, []⟩] [0, 3, 4]) (.block 0 (.loop [] (.seq (.seq (.region false [⟨some 5, .mv, [.t 4], none, []⟩, ⟨some 6, .bin .lss, [.t 5, .k (.d
  (.int .i64 254))], none, []⟩] [0, 3, 4, 6]) (.cond (.t 6) .skip (.exit 0))) (.seq (.block 1 (.region false [⟨some 9, .mv, [.t 3], none, []⟩, ⟨some 10, .mv, [.t 0], none, []⟩,
  ⟨some 11, .call 10 false, [.t 9, .t 10], none, []⟩, ⟨some 3, .mv, [.t 11], none, []⟩] [0, 3, 4])) (.region false [⟨some 7, .mv, [.t 4], none, []⟩, ⟨some 8, .bin .add, [.t 7, .k
  (.d (.int .i64 1))], none, []⟩, ⟨some 4, .mv, [.t 8], none, []⟩] [0, 3, 4])))))) (.seq (.region false [⟨some 12, .mv, [.t 3], none, []⟩, ⟨some 2, .mv, [.t 12], none, []⟩] [2])
  .ret)))
def passkeyref37InverseRr : List RR := [.t 2]
theorem passkeyref37InverseC : compFn Try.prog 12 passkeyref37InverseH = some (passkeyref37InverseRc, passkeyref37InverseRr, 13) := by kernel_rfl
theorem passkeyref37InverseOK (a0 : BitVec 8) (res : BitVec 8) (h : passkeyref37Inverse a0 = some res) : CallOK Try.prog 12 [.d (eU8 a0)] [] (.d (eU8 res)) [] := by
  unfold passkeyref37Inverse at h
  refine callOK passkeyref37InverseC fm rfl ?_
  simp only [initE, initM, nbor, List.map_cons, List.map_nil, Nat.reduceAdd]
  unfold passkeyref37InverseRc
  refine rwp_seq fun K1 hK1 => ?_
  refine rwp_region fun K2 hK2 => ?_
  refine st0 128 rfl (ok (mv (.d (eU8 (0#8))))) ?_
  refine hK2 _ _ ?_
  simp only [thenK, blockK, keepE, updM, List.filter_cons, List.filter_nil, List.nil_append, List.cons_append, List.map_cons, List.map_nil, envE, Mem.get, Nat.reduceEqDiff, reduceIte, Option.isNone_none, Option.isNone_some, Bool.false_eq_true, List.length_cons, List.length_nil, Nat.reduceAdd, Nat.reduceMul]
  refine hK1 _ _ _ ?_
  refine rwp_seq fun K3 hK3 => ?_
  refine rwp_region fun K4 hK4 => ?_
  refine st0 192 rfl (ok (mv (.d (eU8 (1#8))))) ?_
  refine hK4 _ _ ?_
  simp only [thenK, blockK, keepE, updM, List.filter_cons, List.filter_nil, List.nil_append, List.cons_append, List.map_cons, List.map_nil, envE, Mem.get, Nat.reduceEqDiff, reduceIte, Option.isNone_none, Option.isNone_some, Bool.false_eq_true, List.length_cons, List.length_nil, Nat.reduceAdd, Nat.reduceMul]
  refine hK3 _ _ _ ?_
  refine rwp_join ([], []) 1152 (fun env mem => ∃ (v5 : BitVec 8), passkeyref37InverseJ1 v5 = some res ∧ env = [(3, .d (eU8 v5))] ∧ mem = []) (fun _ _ hI => ?_) (fun K6 hK6 => ?_)
  · obtain ⟨v5, h, rfl, rfl⟩ := hI
    unfold passkeyref37InverseJ1 at h
    refine rwp_seq fun K7 hK7 => ?_
    refine rwp_region fun K8 hK8 => ?_
    refine st0 1216 rfl (ok (mv (.d (eU8 v5)))) ?_
    refine st0 1280 rfl (ok (mv (.d (eU8 v5)))) ?_
    refine hK8 _ _ ?_
    simp only [thenK, blockK, keepE, updM, List.filter_cons, List.filter_nil, List.nil_append, List.cons_append, List.map_cons, List.map_nil, envE, Mem.get, Nat.reduceEqDiff, reduceIte, Option.isNone_none, Option.isNone_some, Bool.false_eq_true, List.length_cons, List.length_nil, Nat.reduceAdd, Nat.reduceMul]
    refine hK7 _ _ _ ?_
    refine rwp_ret ?_
    obtain rfl := Option.some.inj h
    try simp only [thenK, blockK, reduceIte]
    exact Or.inl (end_ok trivial (rs_t (v := .d (eU8 v5)) rfl rs_nil) (en_d (to_d _) en_nil) ou_nil (by first | exact eok rfl rfl rfl rfl trivial | (refine eok ?_ ?_ ?_ ?_ ?_ <;> first | rfl | exact trivial | simp [retM, Mem.get, PV.renL, PV.ren, Blk.ren, comps, rhoR, rhoM, appN, PV.refsL, PV.refs, keys, nodupB, Blk.refs, allIn, Blk.bor])))
  · refine rwp_seq fun K9 hK9 => ?_
    refine rwp_region fun K10 hK10 => ?_
    refine st0 256 rfl (ok (mv (.d (eI (0 : Int))))) ?_
    refine hK10 _ _ ?_
    simp only [thenK, blockK, keepE, updM, List.filter_cons, List.filter_nil, List.nil_append, List.cons_append, List.map_cons, List.map_nil, envE, Mem.get, Nat.reduceEqDiff, reduceIte, Option.isNone_none, Option.isNone_some, Bool.false_eq_true, List.length_cons, List.length_nil, Nat.reduceAdd, Nat.reduceMul]
    refine hK9 _ _ _ ?_
    refine rwp_block fun K11 hK11 => ?_
    refine rwp_loop ([], []) 960 (fun k env mem => ∃ (v12 : BitVec 8) (v13 : Int), passkeyref37InverseL2 a0 k v12 v13 = some res ∧ env = [(0, .d (eU8 a0)), (3, .d (eU8 v12)), (4, .d (eI v13))] ∧ mem = []) FUEL ⟨_, _, Settled.refl, _, _, ⟨_, _, h, rfl, rfl⟩, ⟨rfl, ⟨⟨rfl, rfl⟩, ⟨⟨rfl, rfl⟩, ⟨⟨rfl, rfl⟩, trivial⟩⟩⟩, trivial⟩, rfl⟩ (fun k2 env1 mem1 hI K14 hK14 => ?_)
    obtain ⟨v12, v13, h, rfl, rfl⟩ := hI
    cases k2 with
    | zero => simp [passkeyref37InverseL2] at h
    | succ k2 =>
      rw [passkeyref37InverseL2] at h
      refine rwp_seq fun K15 hK15 => ?_
      refine rwp_seq fun K16 hK16 => ?_
      refine rwp_region fun K17 hK17 => ?_
      refine st0 1024 rfl (ok (mv (.d (eI v13)))) ?_
      refine st0 1088 rfl (ok (lssI _ (254 : Int))) ?_
      refine hK17 _ _ ?_
      simp only [thenK, blockK, keepE, updM, List.filter_cons, List.filter_nil, List.nil_append, List.cons_append, List.map_cons, List.map_nil, envE, Mem.get, Nat.reduceEqDiff, reduceIte, Option.isNone_none, Option.isNone_some, Bool.false_eq_true, List.length_cons, List.length_nil, Nat.reduceAdd, Nat.reduceMul]
      refine hK16 _ _ _ ?_
      rcases Bool.eq_false_or_eq_true ((decide (v13 < (254 : Int)))) with h18 | h18
      · replace h := ite_t h h18
        refine rwp_t (isT h18) ?_
        refine rwp_skip ?_
        refine hK15 _ _ _ ?_
        refine rwp_seq fun K19 hK19 => ?_
        refine rwp_block fun K20 hK20 => ?_
        refine rwp_region fun K21 hK21 => ?_
        refine st0 1152 rfl (ok (mv (.d (eU8 v12)))) ?_
        refine st0 1216 rfl (ok (mv (.d (eU8 a0)))) ?_
        obtain ⟨y22, h23, h⟩ := bind_inv h
        refine st0 1280 rfl (call_ok (v := .d (eU8 y22)) (u := []) (ar_d (eU8 v12) (ar_d (eU8 a0) ar_nil)) rfl (passkeyref37MulOK v12 a0 y22 h23) rfl) ?_
        refine st0 1344 rfl (ok (mv (.d (eU8 y22)))) ?_
        refine hK21 _ _ ?_
        simp only [thenK, blockK, keepE, updM, List.filter_cons, List.filter_nil, List.nil_append, List.cons_append, List.map_cons, List.map_nil, envE, Mem.get, Nat.reduceEqDiff, reduceIte, Option.isNone_none, Option.isNone_some, Bool.false_eq_true, List.length_cons, List.length_nil, Nat.reduceAdd, Nat.reduceMul]
        refine hK20 _ _ _ ?_
        refine hK19 _ _ _ ?_
        refine rwp_region fun K24 hK24 => ?_
        refine st0 1408 rfl (ok (mv (.d (eI v13)))) ?_
        refine st0 1472 rfl (ok (addI _ (1 : Int))) ?_
        refine st0 1536 rfl (ok (mv (.d (eI (w64 (v13 + (1 : Int))))))) ?_
        refine hK24 _ _ ?_
        simp only [thenK, blockK, keepE, updM, List.filter_cons, List.filter_nil, List.nil_append, List.cons_append, List.map_cons, List.map_nil, envE, Mem.get, Nat.reduceEqDiff, reduceIte, Option.isNone_none, Option.isNone_some, Bool.false_eq_true, List.length_cons, List.length_nil, Nat.reduceAdd, Nat.reduceMul]
        exact hK14.out _ _ _ k2 (Nat.lt_succ_self k2) ⟨_, _, Settled.refl, _, _, ⟨_, _, h, rfl, rfl⟩, ⟨rfl, ⟨⟨rfl, rfl⟩, ⟨⟨rfl, rfl⟩, ⟨⟨rfl, rfl⟩, trivial⟩⟩⟩, trivial⟩, rfl⟩
      · replace h := ite_f h h18
        refine rwp_f (isF h18) ?_
        refine rwp_exit ?_
        refine hK11 _ _ _ ?_
        exact hK6 _ _ _ ⟨_, _, Settled.refl, _, _, ⟨_, h, rfl, rfl⟩, ⟨rfl, ⟨⟨rfl, rfl⟩, trivial⟩, trivial⟩, rfl⟩

end Go.Proofs.Ty
