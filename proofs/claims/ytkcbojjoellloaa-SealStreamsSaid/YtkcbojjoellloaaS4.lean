/- Each Go function comes to what its plain function says. PRINTED by a program of this session (ty.py). -/
import Derived.Test.YtkcbojjoellloaaS3
set_option linter.unusedVariables false
set_option linter.unusedSimpArgs false
set_option maxHeartbeats 4000000
set_option maxRecDepth 10000
namespace Go.Proofs.Ty
open Go Go.RW Go.Proofs
/-- passkey/seal.word -/
def sealwordH : Hints := ⟨[(0, [1]), (1, [1, 3]), (2, [3, 6, 7]), (3, [3, 6, 7, 8]), (4, [3, 5, 6, 7]), (5, [3, 6, 7]), (6, [3, 6, 7]), (7, [2])], []⟩
def sealwordRc : RCode :=
  .seq (.region false [⟨some 1, .box, [.t 0], none, []⟩, ⟨some 2, .mv, [.k (.d (.int .u64 0))], none, []⟩] [1]) (.seq (.region false [⟨some 3, .mv, [.k (.d (.int .u64 0))], none,
  []⟩] [1, 3]) (.seq (.seq (.region false [⟨some 6, .load 8 true, [.t 1], none, []⟩, ⟨some 7, .mv, [.k (.d (.int .i64 0))], none, []⟩] [3, 6, 7]) (.block 0 (.loop [] (.seq (.region
  false [⟨some 8, .bin .lss, [.t 7, .k (.d (.int .i64 8))], none, []⟩] [3, 6, 7, 8]) (.seq (.cond (.t 8) .skip (.exit 0)) (.seq (.block 1 (.seq (.region false [⟨some 9, .ix 8 1
  false, [.t 6, .t 7], none, []⟩, ⟨some 5, .mv, [.t 9], none, []⟩] [3, 5, 6, 7]) (.region false [⟨some 10, .mv, [.t 3], none, []⟩, ⟨some 11, .bin .shl, [.t 10, .k (.d (.int .u64
  8))], none, []⟩, ⟨some 12, .mv, [.t 5], none, []⟩, ⟨some 13, .cvt .u64, [.t 12], none, []⟩, ⟨some 14, .bin .or, [.t 11, .t 13], none, []⟩, ⟨some 3, .mv, [.t 14], none, []⟩] [3,
  6, 7]))) (.region false [⟨some 15, .bin .add, [.t 7, .k (.d (.int .i64 1))], none, []⟩, ⟨some 7, .mv, [.t 15], none, []⟩] [3, 6, 7]))))))) (.seq (.region false [⟨some 16, .mv,
  [.t 3], none, []⟩, ⟨some 2, .mv, [.t 16], none, []⟩] [2]) .ret)))
def sealwordRr : List RR := [.t 2]
theorem sealwordC : compFn Try.prog 27 sealwordH = some (sealwordRc, sealwordRr, 17) := by kernel_rfl
theorem sealwordOK (a0 : List (BitVec 8)) (res : BitVec 64) (h : sealword a0 = some res) : CallOK Try.prog 27 [.d ((eA eU8) a0)] [] (.d (eU64 res)) [] := by
  unfold sealword at h
  refine callOK sealwordC fm rfl ?_
  simp only [initE, initM, nbor, List.map_cons, List.map_nil, Nat.reduceAdd]
  unfold sealwordRc
  refine rwp_seq fun K1 hK1 => ?_
  refine rwp_region fun K2 hK2 => ?_
  refine st1 128 rfl (mem' := [(64, .var .mine (a0.map fun x => .d (eU8 x)))]) (ok (bxA (e := eU8) (xs := a0))) rfl ?_
  refine st0 192 rfl (ok (mv (.d (eU64 (0#64))))) ?_
  refine hK2 _ _ ?_
  simp only [thenK, blockK, keepE, updM, List.filter_cons, List.filter_nil, List.nil_append, List.cons_append, List.map_cons, List.map_nil, envE, Mem.get, Nat.reduceEqDiff, reduceIte, Option.isNone_none, Option.isNone_some, Bool.false_eq_true, List.length_cons, List.length_nil, Nat.reduceAdd, Nat.reduceMul]
  refine hK1 _ _ _ ?_
  refine rwp_seq fun K3 hK3 => ?_
  refine rwp_region fun K4 hK4 => ?_
  refine st0 256 rfl (ok (mv (.d (eU64 (0#64))))) ?_
  refine hK4 _ _ ?_
  simp only [thenK, blockK, keepE, updM, List.filter_cons, List.filter_nil, List.nil_append, List.cons_append, List.map_cons, List.map_nil, envE, Mem.get, Nat.reduceEqDiff, reduceIte, Option.isNone_none, Option.isNone_some, Bool.false_eq_true, List.length_cons, List.length_nil, Nat.reduceAdd, Nat.reduceMul]
  refine hK3 _ _ _ ?_
  refine rwp_join ([], []) 1344 (fun env mem => ∃ (v5 : BitVec 64), sealwordJ1 v5 = some res ∧ env = [(3, .d (eU64 v5))] ∧ mem = []) (fun _ _ hI => ?_) (fun K6 hK6 => ?_)
  · obtain ⟨v5, h, rfl, rfl⟩ := hI
    unfold sealwordJ1 at h
    refine rwp_seq fun K7 hK7 => ?_
    refine rwp_region fun K8 hK8 => ?_
    refine st0 1408 rfl (ok (mv (.d (eU64 v5)))) ?_
    refine st0 1472 rfl (ok (mv (.d (eU64 v5)))) ?_
    refine hK8 _ _ ?_
    simp only [thenK, blockK, keepE, updM, List.filter_cons, List.filter_nil, List.nil_append, List.cons_append, List.map_cons, List.map_nil, envE, Mem.get, Nat.reduceEqDiff, reduceIte, Option.isNone_none, Option.isNone_some, Bool.false_eq_true, List.length_cons, List.length_nil, Nat.reduceAdd, Nat.reduceMul]
    refine hK7 _ _ _ ?_
    refine rwp_ret ?_
    obtain rfl := Option.some.inj h
    try simp only [thenK, blockK, reduceIte]
    exact Or.inl (end_ok trivial (rs_t (v := .d (eU64 v5)) rfl rs_nil) (en_d (to_d _) en_nil) ou_nil (by first | exact eok rfl rfl rfl rfl trivial | (refine eok ?_ ?_ ?_ ?_ ?_ <;> first | rfl | exact trivial | simp [retM, Mem.get, PV.renL, PV.ren, Blk.ren, comps, rhoR, rhoM, appN, PV.refsL, PV.refs, keys, nodupB, Blk.refs, allIn, Blk.bor])))
  · refine rwp_seq fun K9 hK9 => ?_
    refine rwp_region fun K10 hK10 => ?_
    obtain ⟨h11, h⟩ := asq_inv h
    refine st0 320 rfl (ok (ld_vA (e := eU8) (xs := a0) rfl h11)) ?_
    refine st0 384 rfl (ok (mv (.d (eI (0 : Int))))) ?_
    refine hK10 _ _ ?_
    simp only [thenK, blockK, keepE, updM, List.filter_cons, List.filter_nil, List.nil_append, List.cons_append, List.map_cons, List.map_nil, envE, Mem.get, Nat.reduceEqDiff, reduceIte, Option.isNone_none, Option.isNone_some, Bool.false_eq_true, List.length_cons, List.length_nil, Nat.reduceAdd, Nat.reduceMul]
    refine hK9 _ _ _ ?_
    refine rwp_block fun K12 hK12 => ?_
    refine rwp_loop ([], []) 1216 (fun k env mem => ∃ (v13 : BitVec 64) (v14 : Int), sealwordL2 a0 k v13 v14 = some res ∧ env = [(3, .d (eU64 v13)), (6, .d ((eA eU8) a0)), (7, .d (eI v14))] ∧ mem = []) FUEL ⟨_, _, Settled.refl, _, _, ⟨_, _, h, rfl, rfl⟩, ⟨rfl, ⟨⟨rfl, rfl⟩, ⟨⟨rfl, rfl⟩, ⟨⟨rfl, rfl⟩, trivial⟩⟩⟩, trivial⟩, rfl⟩ (fun k2 env1 mem1 hI K15 hK15 => ?_)
    obtain ⟨v13, v14, h, rfl, rfl⟩ := hI
    cases k2 with
    | zero => simp [sealwordL2] at h
    | succ k2 =>
      rw [sealwordL2] at h
      refine rwp_seq fun K16 hK16 => ?_
      refine rwp_region fun K17 hK17 => ?_
      refine st0 1280 rfl (ok (lssI _ (8 : Int))) ?_
      refine hK17 _ _ ?_
      simp only [thenK, blockK, keepE, updM, List.filter_cons, List.filter_nil, List.nil_append, List.cons_append, List.map_cons, List.map_nil, envE, Mem.get, Nat.reduceEqDiff, reduceIte, Option.isNone_none, Option.isNone_some, Bool.false_eq_true, List.length_cons, List.length_nil, Nat.reduceAdd, Nat.reduceMul]
      refine hK16 _ _ _ ?_
      refine rwp_seq fun K18 hK18 => ?_
      rcases Bool.eq_false_or_eq_true ((decide (v14 < (8 : Int)))) with h19 | h19
      · replace h := ite_t h h19
        refine rwp_t (isT h19) ?_
        refine rwp_skip ?_
        refine hK18 _ _ _ ?_
        refine rwp_seq fun K20 hK20 => ?_
        refine rwp_block fun K21 hK21 => ?_
        refine rwp_seq fun K22 hK22 => ?_
        refine rwp_region fun K23 hK23 => ?_
        obtain ⟨h24, h⟩ := asq_inv h
        refine st0 1344 rfl (ok (ixA (xs := a0) 0#8 ⟨h24.1, h24.2.1⟩ h24.2.2)) ?_
        refine st0 1408 rfl (ok (mv (.d (eU8 (a0.getD v14.toNat 0#8))))) ?_
        refine hK23 _ _ ?_
        simp only [thenK, blockK, keepE, updM, List.filter_cons, List.filter_nil, List.nil_append, List.cons_append, List.map_cons, List.map_nil, envE, Mem.get, Nat.reduceEqDiff, reduceIte, Option.isNone_none, Option.isNone_some, Bool.false_eq_true, List.length_cons, List.length_nil, Nat.reduceAdd, Nat.reduceMul]
        refine hK22 _ _ _ ?_
        refine rwp_region fun K25 hK25 => ?_
        refine st0 1472 rfl (ok (mv (.d (eU64 v13)))) ?_
        refine st0 1536 rfl (ok (shlL64 _ 8 rfl)) ?_
        refine st0 1600 rfl (ok (mv (.d (eU8 (a0.getD v14.toNat 0#8))))) ?_
        refine st0 1664 rfl (ok (cvt8_64 _)) ?_
        refine st0 1728 rfl (ok (or64 _ _)) ?_
        refine st0 1792 rfl (ok (mv (.d (eU64 ((v13 <<< 8) ||| ((a0.getD v14.toNat 0#8).setWidth 64)))))) ?_
        refine hK25 _ _ ?_
        simp only [thenK, blockK, keepE, updM, List.filter_cons, List.filter_nil, List.nil_append, List.cons_append, List.map_cons, List.map_nil, envE, Mem.get, Nat.reduceEqDiff, reduceIte, Option.isNone_none, Option.isNone_some, Bool.false_eq_true, List.length_cons, List.length_nil, Nat.reduceAdd, Nat.reduceMul]
        refine hK21 _ _ _ ?_
        refine hK20 _ _ _ ?_
        refine rwp_region fun K26 hK26 => ?_
        refine st0 1856 rfl (ok (addI _ (1 : Int))) ?_
        refine st0 1920 rfl (ok (mv (.d (eI (w64 (v14 + (1 : Int))))))) ?_
        refine hK26 _ _ ?_
        simp only [thenK, blockK, keepE, updM, List.filter_cons, List.filter_nil, List.nil_append, List.cons_append, List.map_cons, List.map_nil, envE, Mem.get, Nat.reduceEqDiff, reduceIte, Option.isNone_none, Option.isNone_some, Bool.false_eq_true, List.length_cons, List.length_nil, Nat.reduceAdd, Nat.reduceMul]
        exact hK15.out _ _ _ k2 (Nat.lt_succ_self k2) ⟨_, _, Settled.refl, _, _, ⟨_, _, h, rfl, rfl⟩, ⟨rfl, ⟨⟨rfl, rfl⟩, ⟨⟨rfl, rfl⟩, ⟨⟨rfl, rfl⟩, trivial⟩⟩⟩, trivial⟩, rfl⟩
      · replace h := ite_f h h19
        refine rwp_f (isF h19) ?_
        refine rwp_exit ?_
        refine hK12 _ _ _ ?_
        exact hK6 _ _ _ ⟨_, _, Settled.refl, _, _, ⟨_, h, rfl, rfl⟩, ⟨rfl, ⟨⟨rfl, rfl⟩, trivial⟩, trivial⟩, rfl⟩

/-- passkey/seal.Open -/
def sealOpenH : Hints := ⟨[(0, [0, 1, 2]), (1, [0, 1, 2, 13]), (2, [6, 7]), (3, [0, 1, 2, 21]), (4, [6, 7]), (5, [0, 1, 8, 9, 10]), (6, [0, 8, 9, 45]), (7, [6, 7]), (8, [6, 7])], []⟩
def sealOpenRc : RCode :=
  .seq (.region false [⟨some 6, .mv, [.k (.nil 1)], none, []⟩, ⟨some 7, .mv, [.k (.d (.int .i64 0))], none, []⟩] [0, 1, 2]) (.seq (.seq (.region false [⟨some 11, .mv, [.t 2], none,
  []⟩, ⟨some 12, .len, [.t 11], none, []⟩, ⟨some 13, .bin .lss, [.t 12, .k (.d (.int .i64 16))], none, []⟩] [0, 1, 2, 13]) (.cond (.t 13) (.seq (.region false [⟨some 6, .mv, [.k
  (.nil 1)], none, []⟩, ⟨some 7, .mv, [.k (.d (.int .i64 1))], none, []⟩] [6, 7]) .ret) .skip)) (.seq (.seq (.region false [⟨some 14, .mv, [.t 2], none, []⟩, ⟨some 15, .len, [.t
  14], none, []⟩, ⟨some 16, .bin .gtr, [.t 15, .k (.d (.int .i64 1040))], none, []⟩, ⟨some 17, .mv, [.t 16], none, []⟩, ⟨some 18, .mv, [.t 1], some (17, false), []⟩, ⟨some 19,
  .len, [.t 18], some (17, false), []⟩, ⟨some 20, .bin .gtr, [.t 19, .k (.d (.int .i64 1024))], some (17, false), []⟩, ⟨some 21, .pick, [.t 17, .k (.d (.bool true)), .t 20], none,
  []⟩] [0, 1, 2, 21]) (.cond (.t 21) (.seq (.region false [⟨some 6, .mv, [.k (.nil 1)], none, []⟩, ⟨some 7, .mv, [.k (.d (.int .i64 8))], none, []⟩] [6, 7]) .ret) .skip)) (.seq
  (.region true [⟨some 22, .mv, [.t 2], none, []⟩, ⟨some 23, .slice 1 false true false, [.t 22, .k (.d (.int .i64 8))], none, [0]⟩, ⟨some 24, .s2a 8, [.t 23], none, [0, 1]⟩, ⟨some
  25, .load 8 true, [.t 24], none, [0, 1, 2]⟩, ⟨some 26, .call 27 false, [.t 25], none, [0, 1, 2, 3]⟩, ⟨some 27, .mv, [.t 2], none, []⟩, ⟨some 28, .mv, [.t 2], none, []⟩, ⟨some 29,
  .len, [.t 28], none, [6]⟩, ⟨some 30, .bin .sub, [.t 29, .k (.d (.int .i64 8))], none, [6, 7]⟩, ⟨some 31, .slice 1 true true false, [.t 27, .k (.d (.int .i64 8)), .t 30], none,
  [5, 6, 7, 8]⟩, ⟨some 32, .mv, [.t 2], none, []⟩, ⟨some 33, .mv, [.t 2], none, []⟩, ⟨some 34, .len, [.t 33], none, [11]⟩, ⟨some 35, .bin .sub, [.t 34, .k (.d (.int .i64 8))],
  none, [11, 12]⟩, ⟨some 36, .slice 1 true false false, [.t 32, .t 35], none, [10, 11, 12, 13]⟩, ⟨some 37, .s2a 8, [.t 36], none, [10, 11, 12, 13, 14]⟩, ⟨some 38, .load 8 true, [.t
  37], none, [10, 11, 12, 13, 14, 15]⟩, ⟨some 10, .alloc [.d (.int .u8 0), .d (.int .u8 0), .d (.int .u8 0), .d (.int .u8 0), .d (.int .u8 0), .d (.int .u8 0), .d (.int .u8 0), .d
  (.int .u8 0)], [], none, []⟩, ⟨some 8, .mv, [.t 26], none, [0, 1, 2, 3, 4, 17]⟩, ⟨some 9, .mv, [.t 31], none, [0, 1, 2, 3, 4, 5, 6, 7, 8, 9, 17, 18]⟩, ⟨none, .store 8, [.t 10, .t
  38], none, [0, 1, 2, 3, 4, 5, 6, 7, 8, 9, 10, 11, 12, 13, 14, 15, 16, 17, 18, 19]⟩] [0, 1, 8, 9, 10]) (.seq (.seq (.region true [⟨some 39, .load 8 true, [.t 10], none, []⟩, ⟨some
  40, .mv, [.t 0], none, []⟩, ⟨some 41, .mv, [.t 8], none, []⟩, ⟨some 42, .mv, [.t 1], none, []⟩, ⟨some 43, .mv, [.t 9], none, []⟩, ⟨some 44, .call 24 false, [.t 40, .t 41, .t 42,
  .t 43], none, [1, 2, 3, 4]⟩, ⟨some 45, .eqa true [1, 1, 1, 1, 1, 1, 1, 1], [.t 39, .t 44], none, [0, 1, 2, 3, 4, 5]⟩] [0, 8, 9, 45]) (.cond (.t 45) (.seq (.region false [⟨some 6,
  .mv, [.k (.nil 1)], none, []⟩, ⟨some 7, .mv, [.k (.d (.int .i64 14))], none, []⟩] [6, 7]) .ret) .skip)) (.seq (.region false [⟨some 46, .mv, [.t 0], none, []⟩, ⟨some 47, .mv, [.t
  8], none, []⟩, ⟨some 48, .mv, [.t 9], none, []⟩, ⟨some 49, .call 23 true, [.t 46, .t 47, .t 48], none, []⟩, ⟨some 6, .mv, [.t 49], none, []⟩, ⟨some 7, .mv, [.k (.d (.int .i64
  0))], none, []⟩] [6, 7]) .ret)))))
def sealOpenRr : List RR := [.t 6, .t 7]
theorem sealOpenC : compFn Try.prog 16 sealOpenH = some (sealOpenRc, sealOpenRr, 50) := by kernel_rfl
theorem sealOpenOK (a0 : BitVec 64) (a1 : List (BitVec 8)) (a2 : List (BitVec 8)) (res : (List (BitVec 8)) × Int) (h : sealOpen a0 a1 a2 = some res) : CallOK Try.prog 16 [.d (eU64 a0), .d ((eL 1 eU8) a1), .d ((eL 1 eU8) a2)] [] (.tup [.ref 0 res.1.length 0 res.1.length, .d (eI res.2)]) [(0, .row true 1 (res.1.map eU8))] := by
  unfold sealOpen at h
  refine callOK sealOpenC fm rfl ?_
  simp only [initE, initM, nbor, List.map_cons, List.map_nil, Nat.reduceAdd]
  unfold sealOpenRc
  refine rwp_seq fun K1 hK1 => ?_
  refine rwp_region fun K2 hK2 => ?_
  refine st0 128 rfl (ok (mv (.nil 1))) ?_
  refine st0 192 rfl (ok (mv (.d (eI (0 : Int))))) ?_
  refine hK2 _ _ ?_
  simp only [thenK, blockK, keepE, updM, List.filter_cons, List.filter_nil, List.nil_append, List.cons_append, List.map_cons, List.map_nil, envE, Mem.get, Nat.reduceEqDiff, reduceIte, Option.isNone_none, Option.isNone_some, Bool.false_eq_true, List.length_cons, List.length_nil, Nat.reduceAdd, Nat.reduceMul]
  refine hK1 _ _ _ ?_
  refine rwp_seq fun K3 hK3 => ?_
  refine rwp_seq fun K4 hK4 => ?_
  refine rwp_region fun K5 hK5 => ?_
  refine st0 256 rfl (ok (mv (.d ((eL 1 eU8) a2)))) ?_
  refine st0 320 rfl (ok (lenL _ _)) ?_
  refine st0 384 rfl (ok (lssI _ (16 : Int))) ?_
  refine hK5 _ _ ?_
  simp only [thenK, blockK, keepE, updM, List.filter_cons, List.filter_nil, List.nil_append, List.cons_append, List.map_cons, List.map_nil, envE, Mem.get, Nat.reduceEqDiff, reduceIte, Option.isNone_none, Option.isNone_some, Bool.false_eq_true, List.length_cons, List.length_nil, Nat.reduceAdd, Nat.reduceMul]
  refine hK4 _ _ _ ?_
  rcases Bool.eq_false_or_eq_true ((decide ((a2.length : Int) < (16 : Int)))) with h6 | h6
  · replace h := ite_t h h6
    refine rwp_t (isT h6) ?_
    refine rwp_seq fun K7 hK7 => ?_
    refine rwp_region fun K8 hK8 => ?_
    refine st0 448 rfl (ok (mv (.nil 1))) ?_
    refine st0 512 rfl (ok (mv (.d (eI (1 : Int))))) ?_
    refine hK8 _ _ ?_
    simp only [thenK, blockK, keepE, updM, List.filter_cons, List.filter_nil, List.nil_append, List.cons_append, List.map_cons, List.map_nil, envE, Mem.get, Nat.reduceEqDiff, reduceIte, Option.isNone_none, Option.isNone_some, Bool.false_eq_true, List.length_cons, List.length_nil, Nat.reduceAdd, Nat.reduceMul]
    refine hK7 _ _ _ ?_
    refine rwp_ret ?_
    obtain rfl := Option.some.inj h
    try simp only [thenK, blockK, reduceIte]
    exact Or.inl (end_ok trivial (rs_t (v := .nil 1) rfl (rs_t (v := .d (eI (1 : Int))) rfl rs_nil)) (en_nilr (en_d (to_d _) en_nil)) ou_nil (by first | exact eok rfl rfl rfl rfl (And.intro (And.intro rfl rfl) trivial) | (refine eok ?_ ?_ ?_ ?_ ?_ <;> first | rfl | exact (And.intro (And.intro rfl rfl) trivial) | simp [retM, Mem.get, PV.renL, PV.ren, Blk.ren, comps, rhoR, rhoM, appN, PV.refsL, PV.refs, keys, nodupB, Blk.refs, allIn, Blk.bor])))
  · replace h := ite_f h h6
    refine rwp_f (isF h6) ?_
    refine rwp_skip ?_
    refine hK3 _ _ _ ?_
    refine rwp_seq fun K9 hK9 => ?_
    refine rwp_join ([], []) 960 (fun env mem => ∃ (v10 : Bool), sealOpenJ1 a0 a1 a2 v10 = some res ∧ env = [(0, .d (eU64 a0)), (1, .d ((eL 1 eU8) a1)), (2, .d ((eL 1 eU8) a2)), (21, .d (eB v10))] ∧ mem = []) (fun _ _ hI => ?_) (fun K11 hK11 => ?_)
    · obtain ⟨v10, h, rfl, rfl⟩ := hI
      unfold sealOpenJ1 at h
      rcases Bool.eq_false_or_eq_true (v10) with h12 | h12
      · replace h := ite_t h h12
        refine rwp_t (isT h12) ?_
        refine rwp_seq fun K13 hK13 => ?_
        refine rwp_region fun K14 hK14 => ?_
        refine st0 1024 rfl (ok (mv (.nil 1))) ?_
        refine st0 1088 rfl (ok (mv (.d (eI (8 : Int))))) ?_
        refine hK14 _ _ ?_
        simp only [thenK, blockK, keepE, updM, List.filter_cons, List.filter_nil, List.nil_append, List.cons_append, List.map_cons, List.map_nil, envE, Mem.get, Nat.reduceEqDiff, reduceIte, Option.isNone_none, Option.isNone_some, Bool.false_eq_true, List.length_cons, List.length_nil, Nat.reduceAdd, Nat.reduceMul]
        refine hK13 _ _ _ ?_
        refine rwp_ret ?_
        obtain rfl := Option.some.inj h
        try simp only [thenK, blockK, reduceIte]
        exact Or.inl (end_ok trivial (rs_t (v := .nil 1) rfl (rs_t (v := .d (eI (8 : Int))) rfl rs_nil)) (en_nilr (en_d (to_d _) en_nil)) ou_nil (by first | exact eok rfl rfl rfl rfl (And.intro (And.intro rfl rfl) trivial) | (refine eok ?_ ?_ ?_ ?_ ?_ <;> first | rfl | exact (And.intro (And.intro rfl rfl) trivial) | simp [retM, Mem.get, PV.renL, PV.ren, Blk.ren, comps, rhoR, rhoM, appN, PV.refsL, PV.refs, keys, nodupB, Blk.refs, allIn, Blk.bor])))
      · replace h := ite_f h h12
        refine rwp_f (isF h12) ?_
        refine rwp_skip ?_
        refine hK9 _ _ _ ?_
        refine rwp_seq fun K15 hK15 => ?_
        refine rwp_draw fun K16 hK16 => ?_
        refine dr0 1024 rfl (ok (mv (.d ((eL 1 eU8) a2)))) (by kernel_rfl) ?_
        obtain ⟨h17, h⟩ := asq_inv h
        refine dr0 1088 rfl (ok (slL_h (xs := a2) (e := eU8) h17)) (by kernel_rfl) ?_
        obtain ⟨h18, h⟩ := asq_inv h
        refine dr0 1152 rfl (ok (s2aL (e := eU8) (xs := (dropTake 0 (8 : Int).toNat a2)) (fun _ => rfl) (by decide) h18)) (by kernel_rfl) ?_
        obtain ⟨h19, h⟩ := asq_inv h
        refine dr0 1216 rfl (ok (ld_iA (e := eU8) (xs := ((dropTake 0 (8 : Int).toNat a2).take 8)) h19)) (by kernel_rfl) ?_
        obtain ⟨y20, h21, h⟩ := bind_inv h
        refine dr0 1280 rfl (call_ok (v := .d (eU64 y20)) (u := []) (ar_d ((eA eU8) ((dropTake 0 (8 : Int).toNat a2).take 8)) ar_nil) rfl (sealwordOK ((dropTake 0 (8 : Int).toNat a2).take 8) y20 h21) rfl) (by kernel_rfl) ?_
        refine dr0 1344 rfl (ok (mv (.d ((eL 1 eU8) a2)))) (by kernel_rfl) ?_
        refine dr0 1408 rfl (ok (mv (.d ((eL 1 eU8) a2)))) (by kernel_rfl) ?_
        refine dr0 1472 rfl (ok (lenL _ _)) (by kernel_rfl) ?_
        refine dr0 1536 rfl (ok (subI _ (8 : Int))) (by kernel_rfl) ?_
        obtain ⟨h22, h⟩ := asq_inv h
        obtain ⟨v23, h24, h⟩ := lett_inv h
        refine dr0e 1600 rfl (ok (slL_lh (xs := a2) (e := eU8) h22)) (congrArg (fun z => PV.d ((eL 1 eU8) z)) h24) (by kernel_rfl) ?_
        refine dr0 1664 rfl (ok (mv (.d ((eL 1 eU8) a2)))) (by kernel_rfl) ?_
        refine dr0 1728 rfl (ok (mv (.d ((eL 1 eU8) a2)))) (by kernel_rfl) ?_
        refine dr0 1792 rfl (ok (lenL _ _)) (by kernel_rfl) ?_
        refine dr0 1856 rfl (ok (subI _ (8 : Int))) (by kernel_rfl) ?_
        obtain ⟨h25, h⟩ := asq_inv h
        obtain ⟨v26, h27, h⟩ := lett_inv h
        refine dr0e 1920 rfl (ok (slL_l (xs := a2) (e := eU8) h25)) (congrArg (fun z => PV.d ((eL 1 eU8) z)) h27) (by kernel_rfl) ?_
        obtain ⟨h28, h⟩ := asq_inv h
        refine dr0 1984 rfl (ok (s2aL (e := eU8) (xs := v26) (fun _ => rfl) (by decide) h28)) (by kernel_rfl) ?_
        obtain ⟨h29, h⟩ := asq_inv h
        refine dr0 2048 rfl (ok (ld_iA (e := eU8) (xs := (v26.take 8)) h29)) (by kernel_rfl) ?_
        refine dr1 2112 rfl (mem' := [(2048, .var .mine ((List.replicate 8 (0#8)).map fun x => .d (eU8 x)))]) (ok (alcA (e := eU8) (xs := (List.replicate 8 (0#8))) rfl)) rfl (by kernel_rfl) ?_
        refine dr0 2176 rfl (ok (mv (.d (eU64 y20)))) (by kernel_rfl) ?_
        refine dr0 2240 rfl (ok (mv (.d ((eL 1 eU8) v23)))) (by kernel_rfl) ?_
        obtain ⟨h30, h⟩ := asq_inv h
        refine drn 2304 rfl (mem' := [(2048, .var .mine ((v26.take 8).map fun x => .d (eU8 x)))]) (ok (stoA (e := eU8) (xs := (List.replicate 8 (0#8))) (ys := (v26.take 8)) rfl rfl h30)) rfl (by kernel_rfl) ?_
        refine hK16 _ _ ?_
        simp only [thenK, blockK, keepE, updM, List.filter_cons, List.filter_nil, List.nil_append, List.cons_append, List.map_cons, List.map_nil, envE, Mem.get, Nat.reduceEqDiff, reduceIte, Option.isNone_none, Option.isNone_some, Bool.false_eq_true, List.length_cons, List.length_nil, Nat.reduceAdd, Nat.reduceMul]
        refine hK15 _ _ _ ?_
        refine rwp_seq fun K31 hK31 => ?_
        refine rwp_seq fun K32 hK32 => ?_
        refine rwp_draw fun K33 hK33 => ?_
        obtain ⟨h34, h⟩ := asq_inv h
        refine dr0 2368 rfl (ok (ld_vA (e := eU8) (xs := (v26.take 8)) rfl h34)) (by kernel_rfl) ?_
        refine dr0 2432 rfl (ok (mv (.d (eU64 a0)))) (by kernel_rfl) ?_
        refine dr0 2496 rfl (ok (mv (.d (eU64 y20)))) (by kernel_rfl) ?_
        refine dr0 2560 rfl (ok (mv (.d ((eL 1 eU8) a1)))) (by kernel_rfl) ?_
        refine dr0 2624 rfl (ok (mv (.d ((eL 1 eU8) v23)))) (by kernel_rfl) ?_
        obtain ⟨y35, h36, h⟩ := bind_inv h
        refine dr0 2688 rfl (call_okF (ar_d (eU64 a0) (ar_d (eU64 y20) (ar_d ((eL 1 eU8) a1) (ar_d ((eL 1 eU8) v23) ar_nil)))) (sealtagOK a0 y20 a1 v23 y35 h36) (flat_A (fun _ => rfl) _)) (by kernel_rfl) ?_
        obtain ⟨h37, h⟩ := asq_inv h
        refine dr0 2752 rfl (ok (eqa_n rfl rfl (eq_list (xs := (v26.take 8)) (ys := y35) eqk_u8 h37.1 h37.2))) (by kernel_rfl) ?_
        refine hK33 _ _ ?_
        simp only [thenK, blockK, keepE, updM, List.filter_cons, List.filter_nil, List.nil_append, List.cons_append, List.map_cons, List.map_nil, envE, Mem.get, Nat.reduceEqDiff, reduceIte, Option.isNone_none, Option.isNone_some, Bool.false_eq_true, List.length_cons, List.length_nil, Nat.reduceAdd, Nat.reduceMul]
        refine hK32 _ _ _ ?_
        rcases Bool.eq_false_or_eq_true ((!((v26.take 8) == y35))) with h38 | h38
        · replace h := ite_t h h38
          refine rwp_t (isT h38) ?_
          refine rwp_seq fun K39 hK39 => ?_
          refine rwp_region fun K40 hK40 => ?_
          refine st0 2816 rfl (ok (mv (.nil 1))) ?_
          refine st0 2880 rfl (ok (mv (.d (eI (14 : Int))))) ?_
          refine hK40 _ _ ?_
          simp only [thenK, blockK, keepE, updM, List.filter_cons, List.filter_nil, List.nil_append, List.cons_append, List.map_cons, List.map_nil, envE, Mem.get, Nat.reduceEqDiff, reduceIte, Option.isNone_none, Option.isNone_some, Bool.false_eq_true, List.length_cons, List.length_nil, Nat.reduceAdd, Nat.reduceMul]
          refine hK39 _ _ _ ?_
          refine rwp_ret ?_
          obtain rfl := Option.some.inj h
          try simp only [thenK, blockK, reduceIte]
          exact Or.inl (end_ok trivial (rs_t (v := .nil 1) rfl (rs_t (v := .d (eI (14 : Int))) rfl rs_nil)) (en_nilr (en_d (to_d _) en_nil)) ou_nil (by first | exact eok rfl rfl rfl rfl (And.intro (And.intro rfl rfl) trivial) | (refine eok ?_ ?_ ?_ ?_ ?_ <;> first | rfl | exact (And.intro (And.intro rfl rfl) trivial) | simp [retM, Mem.get, PV.renL, PV.ren, Blk.ren, comps, rhoR, rhoM, appN, PV.refsL, PV.refs, keys, nodupB, Blk.refs, allIn, Blk.bor])))
        · replace h := ite_f h h38
          refine rwp_f (isF h38) ?_
          refine rwp_skip ?_
          refine hK31 _ _ _ ?_
          refine rwp_seq fun K41 hK41 => ?_
          refine rwp_region fun K42 hK42 => ?_
          refine st0 2816 rfl (ok (mv (.d (eU64 a0)))) ?_
          refine st0 2880 rfl (ok (mv (.d (eU64 y20)))) ?_
          refine st0 2944 rfl (ok (mv (.d ((eL 1 eU8) v23)))) ?_
          obtain ⟨y43, h44, h⟩ := bind_inv h
          refine st1 3008 rfl (mem' := [(2944, .row true 1 (y43.map eU8)), (2048, .var .mine ((v26.take 8).map fun x => .d (eU8 x)))]) (call_ok (v := .ref 2944 y43.length 0 y43.length) (u := [(2944, .row true 1 (y43.map eU8))]) (ar_d (eU64 a0) (ar_d (eU64 y20) (ar_d ((eL 1 eU8) v23) ar_nil))) rfl (sealmixedOK a0 y20 v23 y43 h44) rfl) rfl ?_
          refine st0 3072 rfl (ok (mv (.ref 2944 y43.length 0 y43.length))) ?_
          refine st0 3136 rfl (ok (mv (.d (eI (0 : Int))))) ?_
          refine hK42 _ _ ?_
          simp only [thenK, blockK, keepE, updM, List.filter_cons, List.filter_nil, List.nil_append, List.cons_append, List.map_cons, List.map_nil, envE, Mem.get, Nat.reduceEqDiff, reduceIte, Option.isNone_none, Option.isNone_some, Bool.false_eq_true, List.length_cons, List.length_nil, Nat.reduceAdd, Nat.reduceMul]
          refine hK41 _ _ _ ?_
          refine rwp_ret ?_
          obtain rfl := Option.some.inj h
          try simp only [thenK, blockK, reduceIte]
          exact Or.inl (end_ok trivial (rs_t (v := .ref 2944 y43.length 0 y43.length) rfl (rs_t (v := .d (eI (0 : Int))) rfl rs_nil)) (en_ref (en_d (to_d _) en_nil)) ou_nil (by first | exact eok rfl rfl rfl rfl (And.intro (And.intro rfl rfl) trivial) | (refine eok ?_ ?_ ?_ ?_ ?_ <;> first | rfl | exact (And.intro (And.intro rfl rfl) trivial) | simp [retM, Mem.get, PV.renL, PV.ren, Blk.ren, comps, rhoR, rhoM, appN, PV.refsL, PV.refs, keys, nodupB, Blk.refs, allIn, Blk.bor])))
    · refine rwp_region fun K45 hK45 => ?_
      refine st0 448 rfl (ok (mv (.d ((eL 1 eU8) a2)))) ?_
      refine st0 512 rfl (ok (lenL _ _)) ?_
      refine st0 576 rfl (ok (gtrI _ (1040 : Int))) ?_
      refine st0 640 rfl (ok (mv (.d (eB (decide ((1040 : Int) < (a2.length : Int))))))) ?_
      rcases Bool.eq_false_or_eq_true ((decide ((1040 : Int) < (a2.length : Int)))) with h46 | h46
      · replace h := ite_t h h46
        refine stGN 704 rfl rfl h46 ?_
        refine stGN 768 rfl rfl h46 ?_
        refine stGN 832 rfl rfl h46 ?_
        refine st0 896 rfl (ok (pick_t h46 (.d (eB true)) _)) ?_
        refine hK45 _ _ ?_
        simp only [thenK, blockK, keepE, updM, List.filter_cons, List.filter_nil, List.nil_append, List.cons_append, List.map_cons, List.map_nil, envE, Mem.get, Nat.reduceEqDiff, reduceIte, Option.isNone_none, Option.isNone_some, Bool.false_eq_true, List.length_cons, List.length_nil, Nat.reduceAdd, Nat.reduceMul]
        exact hK11 _ _ _ ⟨_, _, Settled.refl, _, _, ⟨_, h, rfl, rfl⟩, ⟨rfl, ⟨⟨rfl, rfl⟩, ⟨⟨rfl, rfl⟩, ⟨⟨rfl, rfl⟩, ⟨⟨rfl, rfl⟩, trivial⟩⟩⟩⟩, trivial⟩, rfl⟩
      · replace h := ite_f h h46
        refine stG (isF h46) ?_
        refine st0 704 rfl (ok (mv (.d ((eL 1 eU8) a1)))) ?_
        refine stG (isF h46) ?_
        refine st0 768 rfl (ok (lenL _ _)) ?_
        refine stG (isF h46) ?_
        refine st0 832 rfl (ok (gtrI _ (1024 : Int))) ?_
        refine st0 896 rfl (ok (pick_f h46 _ (.d (eB (decide ((1024 : Int) < (a1.length : Int))))))) ?_
        refine hK45 _ _ ?_
        simp only [thenK, blockK, keepE, updM, List.filter_cons, List.filter_nil, List.nil_append, List.cons_append, List.map_cons, List.map_nil, envE, Mem.get, Nat.reduceEqDiff, reduceIte, Option.isNone_none, Option.isNone_some, Bool.false_eq_true, List.length_cons, List.length_nil, Nat.reduceAdd, Nat.reduceMul]
        exact hK11 _ _ _ ⟨_, _, Settled.refl, _, _, ⟨_, h, rfl, rfl⟩, ⟨rfl, ⟨⟨rfl, rfl⟩, ⟨⟨rfl, rfl⟩, ⟨⟨rfl, rfl⟩, ⟨⟨rfl, rfl⟩, trivial⟩⟩⟩⟩, trivial⟩, rfl⟩

/-- passkey/passkeylaw6.awake -/
def passkeylaw6awakeH : Hints := ⟨[(0, []), (1, [1, 2]), (2, [1, 2, 3, 4]), (3, [1, 2, 3, 4, 6]), (4, [0])], []⟩
def passkeylaw6awakeRc : RCode :=
  .seq (.region false [⟨some 0, .mv, [.k (.d (.bool false))], none, []⟩] []) (.seq (.region false [⟨some 8, .bslice 1 false 4 [.d (.int .u8 0)] [0, 1, 2, 3], [.k (.d (.int .u8 116)),
  .k (.d (.int .u8 101)), .k (.d (.int .u8 120)), .k (.d (.int .u8 116))], none, []⟩, ⟨some 9, .cvb, [.t 8], none, []⟩, ⟨some 10, .call 13 true, [.k (.d (.int .u64 1)), .k (.d
  (.int .u64 2)), .k (.nil 1), .t 9], none, []⟩, ⟨some 7, .mv, [.t 10], none, []⟩, ⟨some 11, .ext 0, [.t 7], none, []⟩, ⟨some 12, .ext 1, [.t 7], none, []⟩, ⟨some 1, .mv, [.t 11],
  none, []⟩, ⟨some 2, .mv, [.t 12], none, []⟩] [1, 2]) (.seq (.region false [⟨some 14, .mv, [.t 1], none, []⟩, ⟨some 15, .call 16 true, [.k (.d (.int .u64 1)), .k (.nil 1), .t 14],
  none, []⟩, ⟨some 13, .mv, [.t 15], none, []⟩, ⟨some 16, .ext 0, [.t 13], none, []⟩, ⟨some 17, .ext 1, [.t 13], none, []⟩, ⟨some 3, .mv, [.t 16], none, []⟩, ⟨some 4, .mv, [.t 17],
  none, []⟩] [1, 2, 3, 4]) (.seq (.region false [⟨some 19, .mv, [.t 1], none, []⟩, ⟨some 20, .mv, [.t 1], none, []⟩, ⟨some 21, .len, [.t 20], none, []⟩, ⟨some 22, .mn, [.t 21, .k
  (.d (.int .i64 15))], none, []⟩, ⟨some 23, .slice 1 false true false, [.t 19, .t 22], none, []⟩, ⟨some 24, .call 16 true, [.k (.d (.int .u64 1)), .k (.nil 1), .t 23], none, []⟩,
  ⟨some 18, .mv, [.t 24], none, []⟩, ⟨some 25, .ext 0, [.t 18], none, []⟩, ⟨some 26, .ext 1, [.t 18], none, []⟩, ⟨some 5, .mv, [.t 25], none, []⟩, ⟨some 6, .mv, [.t 26], none, []⟩]
  [1, 2, 3, 4, 6]) (.seq (.region false [⟨some 27, .mv, [.t 2], none, []⟩, ⟨some 28, .bin .eql, [.t 27, .k (.d (.int .i64 0))], none, []⟩, ⟨some 29, .mv, [.t 28], none, []⟩, ⟨some
  30, .mv, [.t 4], some (29, true), []⟩, ⟨some 31, .bin .eql, [.t 30, .k (.d (.int .i64 0))], some (29, true), []⟩, ⟨some 32, .pick, [.t 29, .t 31, .k (.d (.bool false))], none,
  []⟩, ⟨some 33, .mv, [.t 32], none, []⟩, ⟨some 34, .mv, [.t 3], some (33, true), []⟩, ⟨some 35, .b2s, [.t 34], some (33, true), []⟩, ⟨some 36, .bin .eql, [.t 35, .k (.d (.str
  ⟨#[116, 101, 120, 116]⟩))], some (33, true), []⟩, ⟨some 37, .pick, [.t 33, .t 36, .k (.d (.bool false))], none, []⟩, ⟨some 38, .mv, [.t 37], none, []⟩, ⟨some 39, .mv, [.t 1],
  some (38, true), []⟩, ⟨some 40, .len, [.t 39], some (38, true), []⟩, ⟨some 41, .bin .eql, [.t 40, .k (.d (.int .i64 20))], some (38, true), []⟩, ⟨some 42, .pick, [.t 38, .t 41,
  .k (.d (.bool false))], none, []⟩, ⟨some 43, .mv, [.t 42], none, []⟩, ⟨some 44, .mv, [.t 6], some (43, true), []⟩, ⟨some 45, .bin .eql, [.t 44, .k (.d (.int .i64 1))], some (43,
  true), []⟩, ⟨some 46, .pick, [.t 43, .t 45, .k (.d (.bool false))], none, []⟩, ⟨some 0, .mv, [.t 46], none, []⟩] [0]) .ret))))
def passkeylaw6awakeRr : List RR := [.t 0]
theorem passkeylaw6awakeC : compFn Try.prog 11 passkeylaw6awakeH = some (passkeylaw6awakeRc, passkeylaw6awakeRr, 47) := by kernel_rfl
theorem passkeylaw6awakeOK  (res : Bool) (h : passkeylaw6awake  = some res) : CallOK Try.prog 11 [] [] (.d (eB res)) [] := by
  unfold passkeylaw6awake at h
  refine callOK passkeylaw6awakeC fm rfl ?_
  simp only [initE, initM, nbor, List.map_cons, List.map_nil, Nat.reduceAdd]
  unfold passkeylaw6awakeRc
  refine rwp_seq fun K1 hK1 => ?_
  refine rwp_region fun K2 hK2 => ?_
  refine st0 128 rfl (ok (mv (.d (eB false)))) ?_
  refine hK2 _ _ ?_
  simp only [thenK, blockK, keepE, updM, List.filter_cons, List.filter_nil, List.nil_append, List.cons_append, List.map_cons, List.map_nil, envE, Mem.get, Nat.reduceEqDiff, reduceIte, Option.isNone_none, Option.isNone_some, Bool.false_eq_true, List.length_cons, List.length_nil, Nat.reduceAdd, Nat.reduceMul]
  refine hK1 _ _ _ ?_
  refine rwp_seq fun K3 hK3 => ?_
  refine rwp_region fun K4 hK4 => ?_
  refine st1 192 rfl (mem' := [(128, .row true 1 (([(116#8), (101#8), (120#8), (116#8)] : List (BitVec 8)).map eU8))]) (ok (bsl (e := eU8) (ys := ([(116#8), (101#8), (120#8), (116#8)] : List (BitVec 8))) rfl rfl rfl)) rfl ?_
  obtain ⟨h5, h⟩ := asq_inv h
  refine st1 256 rfl (mem' := [(128, .row true 1 (([(116#8), (101#8), (120#8), (116#8)] : List (BitVec 8)).map eU8))]) (ok (cvbR (e := eU8) (xs := ([(116#8), (101#8), (120#8), (116#8)] : List (BitVec 8))) rfl rfl h5)) rfl ?_
  obtain ⟨y6, h7, h⟩ := bind_inv h
  refine st1 320 rfl (mem' := [(256, .row true 1 (y6.1.map eU8)), (128, .row false 1 (([(116#8), (101#8), (120#8), (116#8)] : List (BitVec 8)).map eU8))]) (call_ok (v := .tup [.ref 256 y6.1.length 0 y6.1.length, .d (eI y6.2)]) (u := [(256, .row true 1 (y6.1.map eU8)), (128, .row false 1 (([(116#8), (101#8), (120#8), (116#8)] : List (BitVec 8)).map eU8))]) (ar_d (eU64 (1#64)) (ar_d (eU64 (2#64)) (ar_to rfl (to_1 rfl (ds_n eU8 ds_nil)) (ar_to rfl (to_1 rfl (ds_r (ys := ([(116#8), (101#8), (120#8), (116#8)] : List (BitVec 8))) rfl rfl rfl ds_nil)) ar_nil)))) rfl (sealSealOK (1#64) (2#64) ([] : List (BitVec 8)) ([(116#8), (101#8), (120#8), (116#8)] : List (BitVec 8)) y6 h7) rfl) rfl ?_
  refine st0 384 rfl (ok (mv (.tup [.ref 256 y6.1.length 0 y6.1.length, .d (eI y6.2)]))) ?_
  refine st0 448 rfl (ok (extr (v := .ref 256 y6.1.length 0 y6.1.length) rfl rfl)) ?_
  refine st0 512 rfl (ok (extr (v := .d (eI y6.2)) rfl rfl)) ?_
  refine st0 576 rfl (ok (mv (.ref 256 y6.1.length 0 y6.1.length))) ?_
  refine st0 640 rfl (ok (mv (.d (eI y6.2)))) ?_
  refine hK4 _ _ ?_
  simp only [thenK, blockK, keepE, updM, List.filter_cons, List.filter_nil, List.nil_append, List.cons_append, List.map_cons, List.map_nil, envE, Mem.get, Nat.reduceEqDiff, reduceIte, Option.isNone_none, Option.isNone_some, Bool.false_eq_true, List.length_cons, List.length_nil, Nat.reduceAdd, Nat.reduceMul]
  refine hK3 _ _ _ ?_
  refine rwp_seq fun K8 hK8 => ?_
  refine rwp_region fun K9 hK9 => ?_
  refine st0 704 rfl (ok (mv (.ref 256 y6.1.length 0 y6.1.length))) ?_
  obtain ⟨y10, h11, h⟩ := bind_inv h
  refine st1 768 rfl (mem' := [(704, .row true 1 (y10.1.map eU8)), (256, .row false 1 (y6.1.map eU8)), (128, .row false 1 (([(116#8), (101#8), (120#8), (116#8)] : List (BitVec 8)).map eU8))]) (call_ok (v := .tup [.ref 704 y10.1.length 0 y10.1.length, .d (eI y10.2)]) (u := [(704, .row true 1 (y10.1.map eU8)), (256, .row false 1 (y6.1.map eU8))]) (ar_d (eU64 (1#64)) (ar_to rfl (to_1 rfl (ds_n eU8 ds_nil)) (ar_to rfl (to_1 rfl (ds_r (ys := y6.1) rfl rfl rfl ds_nil)) ar_nil))) rfl (sealOpenOK (1#64) ([] : List (BitVec 8)) y6.1 y10 h11) rfl) rfl ?_
  refine st0 832 rfl (ok (mv (.tup [.ref 704 y10.1.length 0 y10.1.length, .d (eI y10.2)]))) ?_
  refine st0 896 rfl (ok (extr (v := .ref 704 y10.1.length 0 y10.1.length) rfl rfl)) ?_
  refine st0 960 rfl (ok (extr (v := .d (eI y10.2)) rfl rfl)) ?_
  refine st0 1024 rfl (ok (mv (.ref 704 y10.1.length 0 y10.1.length))) ?_
  refine st0 1088 rfl (ok (mv (.d (eI y10.2)))) ?_
  refine hK9 _ _ ?_
  simp only [thenK, blockK, keepE, updM, List.filter_cons, List.filter_nil, List.nil_append, List.cons_append, List.map_cons, List.map_nil, envE, Mem.get, Nat.reduceEqDiff, reduceIte, Option.isNone_none, Option.isNone_some, Bool.false_eq_true, List.length_cons, List.length_nil, Nat.reduceAdd, Nat.reduceMul]
  refine hK8 _ _ _ ?_
  refine rwp_seq fun K12 hK12 => ?_
  refine rwp_region fun K13 hK13 => ?_
  refine st0 1152 rfl (ok (mv (.ref 256 y6.1.length 0 y6.1.length))) ?_
  refine st0 1216 rfl (ok (mv (.ref 256 y6.1.length 0 y6.1.length))) ?_
  refine st0 1280 rfl (ok (lenR _ _ _ _)) ?_
  obtain ⟨v14, h15, h⟩ := lett_inv h
  refine st0e 1344 rfl (ok (minI _ (15 : Int))) (congrArg (fun z => PV.d (eI z)) h15) ?_
  obtain ⟨h16, h⟩ := asq_inv h
  refine st0 1408 rfl (ok (slR_h (ys := y6.1.map eU8) rfl (by simp) h16)) ?_
  obtain ⟨y17, h18, h⟩ := bind_inv h
  refine st1 1472 rfl (mem' := [(1408, .row true 1 (y17.1.map eU8)), (256, .row false 1 (y6.1.map eU8)), (704, .row true 1 (y10.1.map eU8)), (128, .row false 1 (([(116#8), (101#8), (120#8), (116#8)] : List (BitVec 8)).map eU8))]) (call_ok (v := .tup [.ref 1408 y17.1.length 0 y17.1.length, .d (eI y17.2)]) (u := [(1408, .row true 1 (y17.1.map eU8)), (256, .row false 1 (y6.1.map eU8))]) (ar_d (eU64 (1#64)) (ar_to rfl (to_1 rfl (ds_n eU8 ds_nil)) (ar_to rfl (to_1 rfl (ds_p (ys := y6.1) rfl rfl ds_nil)) ar_nil))) rfl (sealOpenOK (1#64) ([] : List (BitVec 8)) ((y6.1.drop (0 + 0)).take (v14.toNat - 0)) y17 h18) rfl) rfl ?_
  refine st0 1536 rfl (ok (mv (.tup [.ref 1408 y17.1.length 0 y17.1.length, .d (eI y17.2)]))) ?_
  refine st0 1600 rfl (ok (extr (v := .ref 1408 y17.1.length 0 y17.1.length) rfl rfl)) ?_
  refine st0 1664 rfl (ok (extr (v := .d (eI y17.2)) rfl rfl)) ?_
  refine st0 1728 rfl (ok (mv (.ref 1408 y17.1.length 0 y17.1.length))) ?_
  refine st0 1792 rfl (ok (mv (.d (eI y17.2)))) ?_
  refine hK13 _ _ ?_
  simp only [thenK, blockK, keepE, updM, List.filter_cons, List.filter_nil, List.nil_append, List.cons_append, List.map_cons, List.map_nil, envE, Mem.get, Nat.reduceEqDiff, reduceIte, Option.isNone_none, Option.isNone_some, Bool.false_eq_true, List.length_cons, List.length_nil, Nat.reduceAdd, Nat.reduceMul]
  refine hK12 _ _ _ ?_
  refine rwp_seq fun K19 hK19 => ?_
  refine rwp_region fun K20 hK20 => ?_
  refine st0 1856 rfl (ok (mv (.d (eI y6.2)))) ?_
  refine st0 1920 rfl (ok (eqlI _ (0 : Int))) ?_
  refine st0 1984 rfl (ok (mv (.d (eB (y6.2 == (0 : Int)))))) ?_
  rcases Bool.eq_false_or_eq_true ((y6.2 == (0 : Int))) with h21 | h21
  · replace h := ite_t h h21
    refine stG (isT h21) ?_
    refine st0 2048 rfl (ok (mv (.d (eI y10.2)))) ?_
    refine stG (isT h21) ?_
    refine st0 2112 rfl (ok (eqlI _ (0 : Int))) ?_
    refine st0 2176 rfl (ok (pick_t h21 (.d (eB (y10.2 == (0 : Int)))) _)) ?_
    refine st0 2240 rfl (ok (mv (.d (eB (y10.2 == (0 : Int)))))) ?_
    rcases Bool.eq_false_or_eq_true ((y10.2 == (0 : Int))) with h22 | h22
    · replace h := ite_t h h22
      refine stG (isT h22) ?_
      refine st0 2304 rfl (ok (mv (.ref 704 y10.1.length 0 y10.1.length))) ?_
      refine stG (isT h22) ?_
      refine st0 2368 rfl (ok (b2s (contR (xs := y10.1) rfl rfl rfl))) ?_
      refine stG (isT h22) ?_
      refine st0 2432 rfl (ok (eqlS y10.1 ([116#8, 101#8, 120#8, 116#8] : List (BitVec 8)))) ?_
      refine st0 2496 rfl (ok (pick_t h22 (.d (eB (y10.1 == ([116#8, 101#8, 120#8, 116#8] : List (BitVec 8))))) _)) ?_
      refine st0 2560 rfl (ok (mv (.d (eB (y10.1 == ([116#8, 101#8, 120#8, 116#8] : List (BitVec 8))))))) ?_
      rcases Bool.eq_false_or_eq_true ((y10.1 == ([116#8, 101#8, 120#8, 116#8] : List (BitVec 8)))) with h23 | h23
      · replace h := ite_t h h23
        refine stG (isT h23) ?_
        refine st0 2624 rfl (ok (mv (.ref 256 y6.1.length 0 y6.1.length))) ?_
        refine stG (isT h23) ?_
        refine st0 2688 rfl (ok (lenR _ _ _ _)) ?_
        refine stG (isT h23) ?_
        refine st0 2752 rfl (ok (eqlI _ (20 : Int))) ?_
        refine st0 2816 rfl (ok (pick_t h23 (.d (eB ((y6.1.length : Int) == (20 : Int)))) _)) ?_
        refine st0 2880 rfl (ok (mv (.d (eB ((y6.1.length : Int) == (20 : Int)))))) ?_
        rcases Bool.eq_false_or_eq_true (((y6.1.length : Int) == (20 : Int))) with h24 | h24
        · replace h := ite_t h h24
          refine stG (isT h24) ?_
          refine st0 2944 rfl (ok (mv (.d (eI y17.2)))) ?_
          refine stG (isT h24) ?_
          refine st0 3008 rfl (ok (eqlI _ (1 : Int))) ?_
          refine st0 3072 rfl (ok (pick_t h24 (.d (eB (y17.2 == (1 : Int)))) _)) ?_
          refine st0 3136 rfl (ok (mv (.d (eB (y17.2 == (1 : Int)))))) ?_
          refine hK20 _ _ ?_
          simp only [thenK, blockK, keepE, updM, List.filter_cons, List.filter_nil, List.nil_append, List.cons_append, List.map_cons, List.map_nil, envE, Mem.get, Nat.reduceEqDiff, reduceIte, Option.isNone_none, Option.isNone_some, Bool.false_eq_true, List.length_cons, List.length_nil, Nat.reduceAdd, Nat.reduceMul]
          refine hK19 _ _ _ ?_
          refine rwp_ret ?_
          obtain rfl := Option.some.inj h
          try simp only [thenK, blockK, reduceIte]
          exact Or.inl (end_ok trivial (rs_t (v := .d (eB (y17.2 == (1 : Int)))) rfl rs_nil) (en_d (to_d _) en_nil) ou_nil (by first | exact eok rfl rfl rfl rfl trivial | (refine eok ?_ ?_ ?_ ?_ ?_ <;> first | rfl | exact trivial | simp [retM, Mem.get, PV.renL, PV.ren, Blk.ren, comps, rhoR, rhoM, appN, PV.refsL, PV.refs, keys, nodupB, Blk.refs, allIn, Blk.bor])))
        · replace h := ite_f h h24
          refine stGN 2944 rfl rfl h24 ?_
          refine stGN 3008 rfl rfl h24 ?_
          refine st0 3072 rfl (ok (pick_f h24 _ (.d (eB false)))) ?_
          refine st0 3136 rfl (ok (mv (.d (eB false)))) ?_
          refine hK20 _ _ ?_
          simp only [thenK, blockK, keepE, updM, List.filter_cons, List.filter_nil, List.nil_append, List.cons_append, List.map_cons, List.map_nil, envE, Mem.get, Nat.reduceEqDiff, reduceIte, Option.isNone_none, Option.isNone_some, Bool.false_eq_true, List.length_cons, List.length_nil, Nat.reduceAdd, Nat.reduceMul]
          refine hK19 _ _ _ ?_
          refine rwp_ret ?_
          obtain rfl := Option.some.inj h
          try simp only [thenK, blockK, reduceIte]
          exact Or.inl (end_ok trivial (rs_t (v := .d (eB false)) rfl rs_nil) (en_d (to_d _) en_nil) ou_nil (by first | exact eok rfl rfl rfl rfl trivial | (refine eok ?_ ?_ ?_ ?_ ?_ <;> first | rfl | exact trivial | simp [retM, Mem.get, PV.renL, PV.ren, Blk.ren, comps, rhoR, rhoM, appN, PV.refsL, PV.refs, keys, nodupB, Blk.refs, allIn, Blk.bor])))
      · replace h := ite_f h h23
        refine stGN 2624 rfl rfl h23 ?_
        refine stGN 2688 rfl rfl h23 ?_
        refine stGN 2752 rfl rfl h23 ?_
        refine st0 2816 rfl (ok (pick_f h23 _ (.d (eB false)))) ?_
        refine st0 2880 rfl (ok (mv (.d (eB false)))) ?_
        refine stGN 2944 rfl rfl rfl ?_
        refine stGN 3008 rfl rfl rfl ?_
        refine st0 3072 rfl (ok (pick_f rfl _ (.d (eB false)))) ?_
        refine st0 3136 rfl (ok (mv (.d (eB false)))) ?_
        refine hK20 _ _ ?_
        simp only [thenK, blockK, keepE, updM, List.filter_cons, List.filter_nil, List.nil_append, List.cons_append, List.map_cons, List.map_nil, envE, Mem.get, Nat.reduceEqDiff, reduceIte, Option.isNone_none, Option.isNone_some, Bool.false_eq_true, List.length_cons, List.length_nil, Nat.reduceAdd, Nat.reduceMul]
        refine hK19 _ _ _ ?_
        refine rwp_ret ?_
        obtain rfl := Option.some.inj h
        try simp only [thenK, blockK, reduceIte]
        exact Or.inl (end_ok trivial (rs_t (v := .d (eB false)) rfl rs_nil) (en_d (to_d _) en_nil) ou_nil (by first | exact eok rfl rfl rfl rfl trivial | (refine eok ?_ ?_ ?_ ?_ ?_ <;> first | rfl | exact trivial | simp [retM, Mem.get, PV.renL, PV.ren, Blk.ren, comps, rhoR, rhoM, appN, PV.refsL, PV.refs, keys, nodupB, Blk.refs, allIn, Blk.bor])))
    · replace h := ite_f h h22
      refine stGN 2304 rfl rfl h22 ?_
      refine stGN 2368 rfl rfl h22 ?_
      refine stGN 2432 rfl rfl h22 ?_
      refine st0 2496 rfl (ok (pick_f h22 _ (.d (eB false)))) ?_
      refine st0 2560 rfl (ok (mv (.d (eB false)))) ?_
      refine stGN 2624 rfl rfl rfl ?_
      refine stGN 2688 rfl rfl rfl ?_
      refine stGN 2752 rfl rfl rfl ?_
      refine st0 2816 rfl (ok (pick_f rfl _ (.d (eB false)))) ?_
      refine st0 2880 rfl (ok (mv (.d (eB false)))) ?_
      refine stGN 2944 rfl rfl rfl ?_
      refine stGN 3008 rfl rfl rfl ?_
      refine st0 3072 rfl (ok (pick_f rfl _ (.d (eB false)))) ?_
      refine st0 3136 rfl (ok (mv (.d (eB false)))) ?_
      refine hK20 _ _ ?_
      simp only [thenK, blockK, keepE, updM, List.filter_cons, List.filter_nil, List.nil_append, List.cons_append, List.map_cons, List.map_nil, envE, Mem.get, Nat.reduceEqDiff, reduceIte, Option.isNone_none, Option.isNone_some, Bool.false_eq_true, List.length_cons, List.length_nil, Nat.reduceAdd, Nat.reduceMul]
      refine hK19 _ _ _ ?_
      refine rwp_ret ?_
      obtain rfl := Option.some.inj h
      try simp only [thenK, blockK, reduceIte]
      exact Or.inl (end_ok trivial (rs_t (v := .d (eB false)) rfl rs_nil) (en_d (to_d _) en_nil) ou_nil (by first | exact eok rfl rfl rfl rfl trivial | (refine eok ?_ ?_ ?_ ?_ ?_ <;> first | rfl | exact trivial | simp [retM, Mem.get, PV.renL, PV.ren, Blk.ren, comps, rhoR, rhoM, appN, PV.refsL, PV.refs, keys, nodupB, Blk.refs, allIn, Blk.bor])))
  · replace h := ite_f h h21
    refine stGN 2048 rfl rfl h21 ?_
    refine stGN 2112 rfl rfl h21 ?_
    refine st0 2176 rfl (ok (pick_f h21 _ (.d (eB false)))) ?_
    refine st0 2240 rfl (ok (mv (.d (eB false)))) ?_
    refine stGN 2304 rfl rfl rfl ?_
    refine stGN 2368 rfl rfl rfl ?_
    refine stGN 2432 rfl rfl rfl ?_
    refine st0 2496 rfl (ok (pick_f rfl _ (.d (eB false)))) ?_
    refine st0 2560 rfl (ok (mv (.d (eB false)))) ?_
    refine stGN 2624 rfl rfl rfl ?_
    refine stGN 2688 rfl rfl rfl ?_
    refine stGN 2752 rfl rfl rfl ?_
    refine st0 2816 rfl (ok (pick_f rfl _ (.d (eB false)))) ?_
    refine st0 2880 rfl (ok (mv (.d (eB false)))) ?_
    refine stGN 2944 rfl rfl rfl ?_
    refine stGN 3008 rfl rfl rfl ?_
    refine st0 3072 rfl (ok (pick_f rfl _ (.d (eB false)))) ?_
    refine st0 3136 rfl (ok (mv (.d (eB false)))) ?_
    refine hK20 _ _ ?_
    simp only [thenK, blockK, keepE, updM, List.filter_cons, List.filter_nil, List.nil_append, List.cons_append, List.map_cons, List.map_nil, envE, Mem.get, Nat.reduceEqDiff, reduceIte, Option.isNone_none, Option.isNone_some, Bool.false_eq_true, List.length_cons, List.length_nil, Nat.reduceAdd, Nat.reduceMul]
    refine hK19 _ _ _ ?_
    refine rwp_ret ?_
    obtain rfl := Option.some.inj h
    try simp only [thenK, blockK, reduceIte]
    exact Or.inl (end_ok trivial (rs_t (v := .d (eB false)) rfl rs_nil) (en_d (to_d _) en_nil) ou_nil (by first | exact eok rfl rfl rfl rfl trivial | (refine eok ?_ ?_ ?_ ?_ ?_ <;> first | rfl | exact trivial | simp [retM, Mem.get, PV.renL, PV.ren, Blk.ren, comps, rhoR, rhoM, appN, PV.refsL, PV.refs, keys, nodupB, Blk.refs, allIn, Blk.bor])))

end Go.Proofs.Ty
