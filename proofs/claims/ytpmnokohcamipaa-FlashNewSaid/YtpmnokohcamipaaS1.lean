/- Each Go function comes to what its plain function says. PRINTED by a program of this session (ty.py). -/
import Derived.Test.YtpmnokohcamipaaS0
set_option linter.unusedVariables false
set_option linter.unusedSimpArgs false
set_option maxHeartbeats 4000000
set_option maxRecDepth 10000
namespace Go.Proofs.Ty
open Go Go.RW Go.Proofs
/-- slices.Clone[[]byte,byte] -/
def slicesClonebytebyteH : Hints := ⟨[(0, [0]), (1, [0, 4]), (2, [2]), (3, [2])], []⟩
def slicesClonebytebyteRc : RCode :=
  .seq (.region false [⟨some 2, .mv, [.k (.nil 1)], none, []⟩] [0]) (.seq (.seq (.region false [⟨some 3, .mv, [.t 0], none, []⟩, ⟨some 4, .eqn false, [.t 3], none, []⟩] [0, 4])
  (.cond (.t 4) (.seq (.region false [⟨some 2, .mv, [.k (.nil 1)], none, []⟩] [2]) .ret) .skip)) (.seq (.region false [⟨some 5, .nslice 1, [], none, []⟩, ⟨some 6, .mv, [.t 0],
  none, []⟩, ⟨some 7, .app 1 140737488355328, [.t 5, .t 6], none, []⟩, ⟨some 2, .mv, [.t 7], none, []⟩] [2]) .ret))
def slicesClonebytebyteRr : List RR := [.t 2]
theorem slicesClonebytebyteC : compFn Try.prog 24 slicesClonebytebyteH = some (slicesClonebytebyteRc, slicesClonebytebyteRr, 8) := by kernel_rfl
theorem slicesClonebytebyteOwnOK (a0 : List (BitVec 8)) (res : List (BitVec 8)) (h : slicesClonebytebyteOwn a0 = some res) : CallOK Try.prog 24 [.d ((eL 1 eU8) a0)] [] (.ref 0 res.length 0 res.length) [(0, .row true 1 (res.map eU8))] := by
  unfold slicesClonebytebyteOwn at h
  refine callOK slicesClonebytebyteC fm rfl ?_
  simp only [initE, initM, nbor, List.map_cons, List.map_nil, Nat.reduceAdd]
  unfold slicesClonebytebyteRc
  refine rwp_seq fun K1 hK1 => ?_
  refine rwp_region fun K2 hK2 => ?_
  refine st0 128 rfl (ok (mv (.nil 1))) ?_
  refine hK2 _ _ ?_
  simp only [thenK, blockK, keepE, updM, List.filter_cons, List.filter_nil, List.nil_append, List.cons_append, List.map_cons, List.map_nil, envE, Mem.get, Nat.reduceEqDiff, reduceIte, Option.isNone_none, Option.isNone_some, Bool.false_eq_true, List.length_cons, List.length_nil, Nat.reduceAdd, Nat.reduceMul]
  refine hK1 _ _ _ ?_
  refine rwp_seq fun K3 hK3 => ?_
  refine rwp_join ([], []) 320 (fun env mem => ∃ (v4 : Bool), slicesClonebytebyteOwnJ1 a0 v4 = some res ∧ env = [(0, .d ((eL 1 eU8) a0)), (4, .d (eB v4))] ∧ mem = []) (fun _ _ hI => ?_) (fun K5 hK5 => ?_)
  · obtain ⟨v4, h, rfl, rfl⟩ := hI
    unfold slicesClonebytebyteOwnJ1 at h
    rcases Bool.eq_false_or_eq_true (v4) with h6 | h6
    · replace h := ite_t h h6
      refine rwp_t (isT h6) ?_
      refine rwp_seq fun K7 hK7 => ?_
      refine rwp_region fun K8 hK8 => ?_
      refine st0 384 rfl (ok (mv (.nil 1))) ?_
      refine hK8 _ _ ?_
      simp only [thenK, blockK, keepE, updM, List.filter_cons, List.filter_nil, List.nil_append, List.cons_append, List.map_cons, List.map_nil, envE, Mem.get, Nat.reduceEqDiff, reduceIte, Option.isNone_none, Option.isNone_some, Bool.false_eq_true, List.length_cons, List.length_nil, Nat.reduceAdd, Nat.reduceMul]
      refine hK7 _ _ _ ?_
      refine rwp_ret ?_
      obtain rfl := Option.some.inj h
      try simp only [thenK, blockK, reduceIte]
      exact Or.inl (end_ok trivial (rs_t (v := .nil 1) rfl rs_nil) (en_nilr en_nil) ou_nil (by first | exact eok rfl rfl rfl rfl (And.intro (And.intro rfl rfl) trivial) | (refine eok ?_ ?_ ?_ ?_ ?_ <;> first | rfl | exact (And.intro (And.intro rfl rfl) trivial) | simp [retM, Mem.get, PV.renL, PV.ren, Blk.ren, comps, rhoR, rhoM, appN, PV.refsL, PV.refs, keys, nodupB, Blk.refs, allIn, Blk.bor])))
    · replace h := ite_f h h6
      refine rwp_f (isF h6) ?_
      refine rwp_skip ?_
      refine hK3 _ _ _ ?_
      refine rwp_seq fun K9 hK9 => ?_
      refine rwp_region fun K10 hK10 => ?_
      refine st0 384 rfl (ok (nsl eU8)) ?_
      refine st0 448 rfl (ok (mv (.d ((eL 1 eU8) a0)))) ?_
      rcases Bool.eq_false_or_eq_true (a0.isEmpty) with h11 | h11
      · replace h := ite_t h h11
        refine st0 512 rfl (ok (appC0 (e := eU8) (ys := a0) contL (isE h11))) ?_
        refine st0 576 rfl (ok (mv (.cut 1 (([] : List (BitVec 8)).map eU8)))) ?_
        refine hK10 _ _ ?_
        simp only [thenK, blockK, keepE, updM, List.filter_cons, List.filter_nil, List.nil_append, List.cons_append, List.map_cons, List.map_nil, envE, Mem.get, Nat.reduceEqDiff, reduceIte, Option.isNone_none, Option.isNone_some, Bool.false_eq_true, List.length_cons, List.length_nil, Nat.reduceAdd, Nat.reduceMul]
        refine hK9 _ _ _ ?_
        refine rwp_ret ?_
        simp at h
      · replace h := ite_f h h11
        obtain ⟨h12, h⟩ := asq_inv h
        refine st1 512 rfl (mem' := [(448, .row true 1 ((([] : List (BitVec 8)) ++ a0).map eU8))]) (ok (appC (e := eU8) (xs := ([] : List (BitVec 8))) (ys := a0) contL (isNE h11) h12)) rfl ?_
        refine st0 576 rfl (ok (mv (.ref 448 (((([] : List (BitVec 8)) ++ a0)).length) 0 (((([] : List (BitVec 8)) ++ a0)).length)))) ?_
        refine hK10 _ _ ?_
        simp only [thenK, blockK, keepE, updM, List.filter_cons, List.filter_nil, List.nil_append, List.cons_append, List.map_cons, List.map_nil, envE, Mem.get, Nat.reduceEqDiff, reduceIte, Option.isNone_none, Option.isNone_some, Bool.false_eq_true, List.length_cons, List.length_nil, Nat.reduceAdd, Nat.reduceMul]
        refine hK9 _ _ _ ?_
        refine rwp_ret ?_
        obtain rfl := Option.some.inj h
        try simp only [thenK, blockK, reduceIte]
        exact Or.inl (end_ok trivial (rs_t (v := .ref 448 (((([] : List (BitVec 8)) ++ a0)).length) 0 (((([] : List (BitVec 8)) ++ a0)).length)) rfl rs_nil) (en_ref en_nil) ou_nil (by first | exact eok rfl rfl rfl rfl (And.intro (And.intro rfl rfl) trivial) | (refine eok ?_ ?_ ?_ ?_ ?_ <;> first | rfl | exact (And.intro (And.intro rfl rfl) trivial) | simp [retM, Mem.get, PV.renL, PV.ren, Blk.ren, comps, rhoR, rhoM, appN, PV.refsL, PV.refs, keys, nodupB, Blk.refs, allIn, Blk.bor])))
  · refine rwp_region fun K13 hK13 => ?_
    refine st0 192 rfl (ok (mv (.d ((eL 1 eU8) a0)))) ?_
    rcases Bool.eq_false_or_eq_true (a0.isEmpty) with h14 | h14
    · replace h := ite_t h h14
      obtain ⟨hl, hr⟩ := both_inv h
      refine stB 256 rfl rfl ?_ ?_
      · clear hr; replace h := hl; clear hl
        refine hK13 _ _ ?_
        simp only [thenK, blockK, keepE, updM, List.filter_cons, List.filter_nil, List.nil_append, List.cons_append, List.map_cons, List.map_nil, envE, Mem.get, Nat.reduceEqDiff, reduceIte, Option.isNone_none, Option.isNone_some, Bool.false_eq_true, List.length_cons, List.length_nil, Nat.reduceAdd, Nat.reduceMul]
        exact hK5 _ _ _ ⟨_, _, Settled.refl, _, _, ⟨_, h, rfl, rfl⟩, ⟨rfl, ⟨⟨rfl, rfl⟩, ⟨⟨rfl, rfl⟩, trivial⟩⟩, trivial⟩, rfl⟩
      · clear hl; replace h := hr; clear hr
        refine hK13 _ _ ?_
        simp only [thenK, blockK, keepE, updM, List.filter_cons, List.filter_nil, List.nil_append, List.cons_append, List.map_cons, List.map_nil, envE, Mem.get, Nat.reduceEqDiff, reduceIte, Option.isNone_none, Option.isNone_some, Bool.false_eq_true, List.length_cons, List.length_nil, Nat.reduceAdd, Nat.reduceMul]
        exact hK5 _ _ _ ⟨_, _, Settled.refl, _, _, ⟨_, h, rfl, rfl⟩, ⟨rfl, ⟨⟨rfl, rfl⟩, ⟨⟨rfl, rfl⟩, trivial⟩⟩, trivial⟩, rfl⟩
    · replace h := ite_f h h14
      refine stE 256 rfl rfl (map_ne (isNE h14)) ?_
      refine hK13 _ _ ?_
      simp only [thenK, blockK, keepE, updM, List.filter_cons, List.filter_nil, List.nil_append, List.cons_append, List.map_cons, List.map_nil, envE, Mem.get, Nat.reduceEqDiff, reduceIte, Option.isNone_none, Option.isNone_some, Bool.false_eq_true, List.length_cons, List.length_nil, Nat.reduceAdd, Nat.reduceMul]
      exact hK5 _ _ _ ⟨_, _, Settled.refl, _, _, ⟨_, h, rfl, rfl⟩, ⟨rfl, ⟨⟨rfl, rfl⟩, ⟨⟨rfl, rfl⟩, trivial⟩⟩, trivial⟩, rfl⟩

/-- passkey/flash.Program$1 -/
def flashProgram1H : Hints := ⟨[(0, [0, 1, 2]), (1, [5])], []⟩
def flashProgram1Rc : RCode :=
  .seq (.region false [⟨some 5, .mv, [.k (.d (.int .u8 0))], none, []⟩] [0, 1, 2]) (.seq (.region false [⟨some 6, .mv, [.t 1], none, []⟩, ⟨some 7, .load 1 false, [.t 2], none, []⟩,
  ⟨some 8, .mv, [.t 0], none, []⟩, ⟨some 9, .ia 1, [.t 7, .t 8], none, []⟩, ⟨some 10, .load 1 false, [.t 9], none, []⟩, ⟨some 11, .bin .and, [.t 6, .t 10], none, []⟩, ⟨some 5, .mv,
  [.t 11], none, []⟩] [5]) .ret)
def flashProgram1Rr : List RR := [.t 5]
theorem flashProgram1C : compFn Try.prog 28 flashProgram1H = some (flashProgram1Rc, flashProgram1Rr, 12) := by kernel_rfl
theorem flashProgram1I2OK (a0 : Int) (a1 : BitVec 8) (a2 : List (BitVec 8)) (res : BitVec 8) (h : flashProgram1I2 a0 a1 a2 = some res) : CallOK Try.prog 28 [.d (eI a0), .d (eU8 a1), .ip [(eL 1 eU8) a2]] [] (.d (eU8 res)) [] := by
  unfold flashProgram1I2 at h
  refine callOK flashProgram1C fm rfl ?_
  simp only [initE, initM, nbor, List.map_cons, List.map_nil, Nat.reduceAdd]
  unfold flashProgram1Rc
  refine rwp_seq fun K1 hK1 => ?_
  refine rwp_region fun K2 hK2 => ?_
  refine st0 128 rfl (ok (mv (.d (eU8 (0#8))))) ?_
  refine hK2 _ _ ?_
  simp only [thenK, blockK, keepE, updM, List.filter_cons, List.filter_nil, List.nil_append, List.cons_append, List.map_cons, List.map_nil, envE, Mem.get, Nat.reduceEqDiff, reduceIte, Option.isNone_none, Option.isNone_some, Bool.false_eq_true, List.length_cons, List.length_nil, Nat.reduceAdd, Nat.reduceMul]
  refine hK1 _ _ _ ?_
  refine rwp_seq fun K3 hK3 => ?_
  refine rwp_region fun K4 hK4 => ?_
  refine st0 192 rfl (ok (mv (.d (eU8 a1)))) ?_
  refine st0 256 rfl (ok (ld_i (v := ((eL 1 eU8) a2)) rfl rfl)) ?_
  refine st0 320 rfl (ok (mv (.d (eI a0)))) ?_
  obtain ⟨h5, h⟩ := asq_inv h
  refine st0 384 rfl (ok (iaL (e := eU8) (xs := a2) 0#8 h5)) ?_
  refine st0 448 rfl (ok (ld_i (v := eU8 (a2.getD a0.toNat 0#8)) rfl rfl)) ?_
  refine st0 512 rfl (ok (and8 _ _)) ?_
  refine st0 576 rfl (ok (mv (.d (eU8 (a1 &&& (a2.getD a0.toNat 0#8)))))) ?_
  refine hK4 _ _ ?_
  simp only [thenK, blockK, keepE, updM, List.filter_cons, List.filter_nil, List.nil_append, List.cons_append, List.map_cons, List.map_nil, envE, Mem.get, Nat.reduceEqDiff, reduceIte, Option.isNone_none, Option.isNone_some, Bool.false_eq_true, List.length_cons, List.length_nil, Nat.reduceAdd, Nat.reduceMul]
  refine hK3 _ _ _ ?_
  refine rwp_ret ?_
  obtain rfl := Option.some.inj h
  try simp only [thenK, blockK, reduceIte]
  exact Or.inl (end_ok trivial (rs_t (v := .d (eU8 (a1 &&& (a2.getD a0.toNat 0#8)))) rfl rs_nil) (en_d (to_d _) en_nil) ou_nil (by first | exact eok rfl rfl rfl rfl trivial | (refine eok ?_ ?_ ?_ ?_ ?_ <;> first | rfl | exact trivial | simp [retM, Mem.get, PV.renL, PV.ren, Blk.ren, comps, rhoR, rhoM, appN, PV.refsL, PV.refs, keys, nodupB, Blk.refs, allIn, Blk.bor])))

/-- passkey/flash.change -/
def flashchangeH : Hints := ⟨[(0, [1, 2, 3, 4, 5, 10]), (1, [1, 2, 3, 4, 5, 10]), (2, [1, 2, 3, 4, 5, 10, 13, 14]), (3, [1, 2, 3, 4, 5, 10, 13, 14, 22]), (4, [1, 2, 3, 4, 5, 10, 13, 14]), (5, [1, 2, 3, 4, 5, 10, 13, 14]), (6, [1, 3, 4, 5, 10, 13, 14, 31]), (7, [1, 3, 4, 5, 10, 13, 14]), (8, [1, 3, 4, 5, 10, 14, 32, 33]), (9, [1, 3, 4, 5, 10, 14, 32, 33, 34]), (10, [1, 3, 4, 5, 10, 14, 15, 32, 33]), (11, [1, 3, 4, 5, 10, 14, 32, 33]), (12, [1, 3, 4, 5, 10, 14, 32, 33]), (13, [10, 11, 12])], []⟩
def flashchangeRc : RCode :=
  .seq (.region false [⟨some 5, .box, [.t 0], none, []⟩, ⟨some 10, .alloc [.d (.int .i64 0), .nil 1], [], none, []⟩, ⟨some 11, .mv, [.k (.d (.int .i64 0))], none, []⟩, ⟨some 12, .mv,
  [.k (.d (.int .i64 0))], none, []⟩] [1, 2, 3, 4, 5, 10]) (.seq (.region false [⟨some 16, .fa 1, [.t 5], none, []⟩, ⟨some 17, .load 1 false, [.t 16], none, []⟩, ⟨some 18, .call 24
  true, [.t 17], none, []⟩, ⟨some 19, .fa 1, [.t 5], none, []⟩, ⟨none, .store 1, [.t 19, .t 18], none, []⟩] [1, 2, 3, 4, 5, 10]) (.seq (.region false [⟨some 20, .mv, [.t 2], none,
  []⟩, ⟨some 13, .mv, [.t 20], none, []⟩, ⟨some 14, .mv, [.k (.d (.int .i64 0))], none, []⟩] [1, 2, 3, 4, 5, 10, 13, 14]) (.seq (.seq (.region false [⟨some 21, .mv, [.t 3], none,
  []⟩, ⟨some 22, .bin .geq, [.t 21, .k (.d (.int .i64 0))], none, []⟩] [1, 2, 3, 4, 5, 10, 13, 14, 22]) (.cond (.t 22) (.seq (.region false [⟨some 23, .mv, [.t 2], none, []⟩, ⟨some
  24, .mv, [.t 3], none, []⟩, ⟨some 25, .mn, [.t 23, .t 24], none, []⟩, ⟨some 13, .mv, [.t 25], none, []⟩] [1, 2, 3, 4, 5, 10, 13, 14]) (.region false [⟨some 26, .mv, [.t 3], none,
  []⟩, ⟨some 27, .mv, [.t 13], none, []⟩, ⟨some 28, .bin .sub, [.t 26, .t 27], none, []⟩, ⟨some 3, .mv, [.t 28], none, []⟩] [1, 2, 3, 4, 5, 10, 13, 14])) .skip)) (.seq (.seq
  (.region false [⟨some 29, .mv, [.t 13], none, []⟩, ⟨some 30, .mv, [.t 2], none, []⟩, ⟨some 31, .bin .lss, [.t 29, .t 30], none, []⟩] [1, 3, 4, 5, 10, 13, 14, 31]) (.cond (.t 31)
  (.region false [⟨some 14, .mv, [.k (.d (.int .i64 16))], none, []⟩] [1, 3, 4, 5, 10, 13, 14]) .skip)) (.seq (.seq (.region false [⟨some 32, .mv, [.t 13], none, []⟩, ⟨some 33,
  .mv, [.k (.d (.int .i64 0))], none, []⟩] [1, 3, 4, 5, 10, 14, 32, 33]) (.block 0 (.loop [] (.seq (.region false [⟨some 34, .bin .lss, [.t 33, .t 32], none, []⟩] [1, 3, 4, 5, 10,
  14, 32, 33, 34]) (.seq (.cond (.t 34) .skip (.exit 0)) (.seq (.block 1 (.seq (.region false [⟨some 35, .mv, [.t 33], none, []⟩, ⟨some 15, .mv, [.t 35], none, []⟩] [1, 3, 4, 5,
  10, 14, 15, 32, 33]) (.region true [⟨some 36, .fa 1, [.t 5], none, []⟩, ⟨some 37, .load 1 false, [.t 36], none, [0]⟩, ⟨some 38, .mv, [.t 1], none, []⟩, ⟨some 39, .mv, [.t 15],
  none, []⟩, ⟨some 40, .bin .add, [.t 38, .t 39], none, [2, 3]⟩, ⟨some 41, .mv, [.t 4], none, []⟩, ⟨some 42, .mv, [.t 15], none, []⟩, ⟨some 43, .fa 1, [.t 5], none, []⟩, ⟨some 44,
  .load 1 false, [.t 43], none, [7]⟩, ⟨some 45, .mv, [.t 1], none, []⟩, ⟨some 46, .mv, [.t 15], none, []⟩, ⟨some 47, .bin .add, [.t 45, .t 46], none, [9, 10]⟩, ⟨some 48, .ia 1, [.t
  44, .t 47], none, [7, 8, 9, 10, 11]⟩, ⟨some 49, .load 1 false, [.t 48], none, [7, 8, 9, 10, 11, 12]⟩, ⟨some 50, .callv false, [.t 41, .t 42, .t 49], none, [5, 6, 7, 8, 9, 10, 11,
  12, 13]⟩, ⟨some 51, .ia 1, [.t 37, .t 40], none, [0, 1, 2, 3, 4, 5, 6, 7, 8, 9, 10, 11, 12, 13, 14]⟩, ⟨none, .store 1, [.t 51, .t 50], none, [0, 1, 2, 3, 4, 5, 6, 7, 8, 9, 10,
  11, 12, 13, 14, 15]⟩] [1, 3, 4, 5, 10, 14, 32, 33]))) (.region false [⟨some 52, .bin .add, [.t 33, .k (.d (.int .i64 1))], none, []⟩, ⟨some 33, .mv, [.t 52], none, []⟩] [1, 3, 4,
  5, 10, 14, 32, 33]))))))) (.seq (.region false [⟨some 53, .load 2 true, [.t 5], none, []⟩, ⟨some 54, .mv, [.t 3], none, []⟩, ⟨some 55, .mv, [.t 14], none, []⟩, ⟨none, .store 2,
  [.t 10, .t 53], none, []⟩, ⟨some 11, .mv, [.t 54], none, []⟩, ⟨some 12, .mv, [.t 55], none, []⟩] [10, 11, 12]) .ret))))))
def flashchangeRr : List RR := [.c 10 2 true, .t 11, .t 12]
theorem flashchangeC : compFn Try.prog 27 flashchangeH = some (flashchangeRc, flashchangeRr, 56) := by kernel_rfl
theorem flashchangeFflashProgram1OK (a0 : TApiFlash) (a1 : Int) (a2 : Int) (a3 : Int) (a4q0q0 : List (BitVec 8)) (res : TApiFlash × Int × Int) (h : flashchangeFflashProgram1 a0 a1 a2 a3 a4q0q0 = some res) : CallOK Try.prog 27 [.d (eTApiFlash a0), .d (eI a1), .d (eI a2), .d (eI a3), .d (.fn 28 [.agg [(eL 1 eU8) a4q0q0]])] [] (.tup [.d (eTApiFlash res.1), .d (eI res.2.1), .d (eI res.2.2)]) [] := by
  unfold flashchangeFflashProgram1 at h
  refine callOK flashchangeC fm rfl ?_
  simp only [initE, initM, nbor, List.map_cons, List.map_nil, Nat.reduceAdd]
  unfold flashchangeRc
  refine rwp_seq fun K1 hK1 => ?_
  refine rwp_region fun K2 hK2 => ?_
  refine st1 128 rfl (mem' := [(64, .var .mine [.d (eI a0.PageSize), .d ((eL 1 eU8) a0.Bytes)])]) (ok (bx (ps := [.d (eI a0.PageSize), .d ((eL 1 eU8) a0.Bytes)]) rfl rfl)) rfl ?_
  refine st1 192 rfl (mem' := [(128, .var .mine [.d (eI (0 : Int)), .nil 1]), (64, .var .mine [.d (eI a0.PageSize), .d ((eL 1 eU8) a0.Bytes)])]) (ok (alc (zs := [.d (eI (0 : Int)), .nil 1]))) rfl ?_
  refine st0 256 rfl (ok (mv (.d (eI (0 : Int))))) ?_
  refine st0 320 rfl (ok (mv (.d (eI (0 : Int))))) ?_
  refine hK2 _ _ ?_
  simp only [thenK, blockK, keepE, updM, List.filter_cons, List.filter_nil, List.nil_append, List.cons_append, List.map_cons, List.map_nil, envE, Mem.get, Nat.reduceEqDiff, reduceIte, Option.isNone_none, Option.isNone_some, Bool.false_eq_true, List.length_cons, List.length_nil, Nat.reduceAdd, Nat.reduceMul]
  refine hK1 _ _ _ ?_
  refine rwp_seq fun K3 hK3 => ?_
  refine rwp_region fun K4 hK4 => ?_
  refine st0 384 rfl (ok (fa_k 1 rfl)) ?_
  refine st0 448 rfl (ok (ld_v (v := .d ((eL 1 eU8) a0.Bytes)) rfl rfl rfl)) ?_
  obtain ⟨y5, h6, h⟩ := bind_inv h
  refine st1 512 rfl (mem' := [(448, .row true 1 (y5.map eU8)), (128, .var .mine [.d (eI (0 : Int)), .nil 1]), (64, .var .mine [.d (eI a0.PageSize), .d ((eL 1 eU8) a0.Bytes)])]) (call_ok (v := .ref 448 y5.length 0 y5.length) (u := [(448, .row true 1 (y5.map eU8))]) (ar_d ((eL 1 eU8) a0.Bytes) ar_nil) rfl (slicesClonebytebyteOwnOK a0.Bytes y5 h6) rfl) rfl ?_
  refine st0 576 rfl (ok (fa_k 1 rfl)) ?_
  refine stn 640 rfl (mem' := [(64, .var .mine [.d (eI a0.PageSize), .ref 448 y5.length 0 y5.length]), (448, .row true 1 (y5.map eU8)), (128, .var .mine [.d (eI (0 : Int)), .nil 1])]) (ok (sto_v (ps' := [.d (eI a0.PageSize), .ref 448 y5.length 0 y5.length]) rfl rfl rfl rfl)) rfl ?_
  refine hK4 _ _ ?_
  simp only [thenK, blockK, keepE, updM, List.filter_cons, List.filter_nil, List.nil_append, List.cons_append, List.map_cons, List.map_nil, envE, Mem.get, Nat.reduceEqDiff, reduceIte, Option.isNone_none, Option.isNone_some, Bool.false_eq_true, List.length_cons, List.length_nil, Nat.reduceAdd, Nat.reduceMul]
  refine hK3 _ _ _ ?_
  refine rwp_seq fun K7 hK7 => ?_
  refine rwp_region fun K8 hK8 => ?_
  refine st0 704 rfl (ok (mv (.d (eI a2)))) ?_
  refine st0 768 rfl (ok (mv (.d (eI a2)))) ?_
  refine st0 832 rfl (ok (mv (.d (eI (0 : Int))))) ?_
  refine hK8 _ _ ?_
  simp only [thenK, blockK, keepE, updM, List.filter_cons, List.filter_nil, List.nil_append, List.cons_append, List.map_cons, List.map_nil, envE, Mem.get, Nat.reduceEqDiff, reduceIte, Option.isNone_none, Option.isNone_some, Bool.false_eq_true, List.length_cons, List.length_nil, Nat.reduceAdd, Nat.reduceMul]
  refine hK7 _ _ _ ?_
  refine rwp_join ([], []) 1536 (fun env mem => ∃ (v9 : Int) (v10 : Int), flashchangeFflashProgram1J1 a0 a1 a2 a4q0q0 y5 v9 v10 = some res ∧ env = [(1, .d (eI a1)), (2, .d (eI a2)), (3, .d (eI v9)), (4, .d (.fn 28 [.agg [(eL 1 eU8) a4q0q0]])), (5, .ptr 64 0), (10, .ptr 128 0), (13, .d (eI v10)), (14, .d (eI (0 : Int)))] ∧ mem = [(64, .var .mine [.d (eI a0.PageSize), .ref 448 y5.length 0 y5.length]), (448, .row true 1 (y5.map eU8)), (128, .var .mine [.d (eI (0 : Int)), .nil 1])]) (fun _ _ hI => ?_) (fun K11 hK11 => ?_)
  · obtain ⟨v9, v10, h, rfl, rfl⟩ := hI
    unfold flashchangeFflashProgram1J1 at h
    refine rwp_join ([], []) 1856 (fun env mem => ∃ (v12 : Int), flashchangeFflashProgram1J2 a0 a1 a4q0q0 y5 v9 v10 v12 = some res ∧ env = [(1, .d (eI a1)), (3, .d (eI v9)), (4, .d (.fn 28 [.agg [(eL 1 eU8) a4q0q0]])), (5, .ptr 64 0), (10, .ptr 128 0), (13, .d (eI v10)), (14, .d (eI v12))] ∧ mem = [(64, .var .mine [.d (eI a0.PageSize), .ref 448 y5.length 0 y5.length]), (448, .row true 1 (y5.map eU8)), (128, .var .mine [.d (eI (0 : Int)), .nil 1])]) (fun _ _ hI => ?_) (fun K13 hK13 => ?_)
    · obtain ⟨v12, h, rfl, rfl⟩ := hI
      unfold flashchangeFflashProgram1J2 at h
      refine rwp_join ([], []) 3648 (fun env mem => ∃ (v14 : List (BitVec 8)), flashchangeFflashProgram1J3 a0 v9 v12 v14 = some res ∧ env = [(3, .d (eI v9)), (5, .ptr 64 0), (10, .ptr 128 0), (14, .d (eI v12))] ∧ mem = [(64, .var .mine [.d (eI a0.PageSize), .ref 448 v14.length 0 v14.length]), (448, .row true 1 (v14.map eU8)), (128, .var .mine [.d (eI (0 : Int)), .nil 1])]) (fun _ _ hI => ?_) (fun K15 hK15 => ?_)
      · obtain ⟨v14, h, rfl, rfl⟩ := hI
        unfold flashchangeFflashProgram1J3 at h
        refine rwp_seq fun K16 hK16 => ?_
        refine rwp_region fun K17 hK17 => ?_
        refine st0 3712 rfl (ok (ld_v (v := .agg [.d (eI a0.PageSize), .ref 448 v14.length 0 v14.length]) rfl rfl rfl)) ?_
        refine st0 3776 rfl (ok (mv (.d (eI v9)))) ?_
        refine st0 3840 rfl (ok (mv (.d (eI v12)))) ?_
        refine stn 3904 rfl (mem' := [(128, .var .mine [.d (eI a0.PageSize), .ref 448 v14.length 0 v14.length]), (64, .var .mine [.d (eI a0.PageSize), .ref 448 v14.length 0 v14.length]), (448, .row true 1 (v14.map eU8))]) (ok (sto_v (ps' := [.d (eI a0.PageSize), .ref 448 v14.length 0 v14.length]) rfl rfl rfl rfl)) rfl ?_
        refine st0 3968 rfl (ok (mv (.d (eI v9)))) ?_
        refine st0 4032 rfl (ok (mv (.d (eI v12)))) ?_
        refine hK17 _ _ ?_
        simp only [thenK, blockK, keepE, updM, List.filter_cons, List.filter_nil, List.nil_append, List.cons_append, List.map_cons, List.map_nil, envE, Mem.get, Nat.reduceEqDiff, reduceIte, Option.isNone_none, Option.isNone_some, Bool.false_eq_true, List.length_cons, List.length_nil, Nat.reduceAdd, Nat.reduceMul]
        refine hK16 _ _ _ ?_
        refine rwp_ret ?_
        obtain rfl := Option.some.inj h
        try simp only [thenK, blockK, reduceIte]
        exact Or.inl (end_ok trivial (rs_c (id := 128) (off := 0) (v := .agg [.d (eI a0.PageSize), .ref 448 v14.length 0 v14.length]) rfl rfl rfl rfl (rs_t (v := .d (eI v9)) rfl (rs_t (v := .d (eI v12)) rfl rs_nil))) (en_d (to_agg (ds_d _ (ds_r (ys := v14) rfl rfl rfl ds_nil)) (x := eTApiFlash (TApiFlash.mk a0.PageSize v14)) rfl) (en_d (to_d _) (en_d (to_d _) en_nil))) ou_nil (by first | exact eok rfl rfl rfl rfl trivial | (refine eok ?_ ?_ ?_ ?_ ?_ <;> first | rfl | exact trivial | simp [retM, Mem.get, PV.renL, PV.ren, Blk.ren, comps, rhoR, rhoM, appN, PV.refsL, PV.refs, keys, nodupB, Blk.refs, allIn, Blk.bor])))
      · refine rwp_seq fun K18 hK18 => ?_
        refine rwp_region fun K19 hK19 => ?_
        refine st0 1920 rfl (ok (mv (.d (eI v10)))) ?_
        refine st0 1984 rfl (ok (mv (.d (eI (0 : Int))))) ?_
        refine hK19 _ _ ?_
        simp only [thenK, blockK, keepE, updM, List.filter_cons, List.filter_nil, List.nil_append, List.cons_append, List.map_cons, List.map_nil, envE, Mem.get, Nat.reduceEqDiff, reduceIte, Option.isNone_none, Option.isNone_some, Bool.false_eq_true, List.length_cons, List.length_nil, Nat.reduceAdd, Nat.reduceMul]
        refine hK18 _ _ _ ?_
        refine rwp_block fun K20 hK20 => ?_
        refine rwp_loop ([], []) 3520 (fun k env mem => ∃ (v21 : List (BitVec 8)) (v22 : Int), flashchangeFflashProgram1L4 a0 a1 a4q0q0 v9 v10 v12 k v21 v22 = some res ∧ env = [(1, .d (eI a1)), (3, .d (eI v9)), (4, .d (.fn 28 [.agg [(eL 1 eU8) a4q0q0]])), (5, .ptr 64 0), (10, .ptr 128 0), (14, .d (eI v12)), (32, .d (eI v10)), (33, .d (eI v22))] ∧ mem = [(64, .var .mine [.d (eI a0.PageSize), .ref 448 v21.length 0 v21.length]), (448, .row true 1 (v21.map eU8)), (128, .var .mine [.d (eI (0 : Int)), .nil 1])]) FUEL ⟨_, _, Settled.refl, _, _, ⟨_, _, h, rfl, rfl⟩, ⟨rfl, ⟨⟨rfl, rfl⟩, ⟨⟨rfl, rfl⟩, ⟨⟨rfl, rfl⟩, ⟨⟨rfl, rfl⟩, ⟨⟨rfl, rfl⟩, ⟨⟨rfl, rfl⟩, ⟨⟨rfl, rfl⟩, ⟨⟨rfl, rfl⟩, trivial⟩⟩⟩⟩⟩⟩⟩⟩, ⟨⟨rfl, rfl⟩, ⟨⟨rfl, rfl⟩, ⟨⟨rfl, rfl⟩, trivial⟩⟩⟩⟩, rfl⟩ (fun k4 env1 mem1 hI K23 hK23 => ?_)
        obtain ⟨v21, v22, h, rfl, rfl⟩ := hI
        cases k4 with
        | zero => simp [flashchangeFflashProgram1L4] at h
        | succ k4 =>
          rw [flashchangeFflashProgram1L4] at h
          refine rwp_seq fun K24 hK24 => ?_
          refine rwp_region fun K25 hK25 => ?_
          refine st0 3584 rfl (ok (lssI _ _)) ?_
          refine hK25 _ _ ?_
          simp only [thenK, blockK, keepE, updM, List.filter_cons, List.filter_nil, List.nil_append, List.cons_append, List.map_cons, List.map_nil, envE, Mem.get, Nat.reduceEqDiff, reduceIte, Option.isNone_none, Option.isNone_some, Bool.false_eq_true, List.length_cons, List.length_nil, Nat.reduceAdd, Nat.reduceMul]
          refine hK24 _ _ _ ?_
          refine rwp_seq fun K26 hK26 => ?_
          rcases Bool.eq_false_or_eq_true ((decide (v22 < v10))) with h27 | h27
          · replace h := ite_t h h27
            refine rwp_t (isT h27) ?_
            refine rwp_skip ?_
            refine hK26 _ _ _ ?_
            refine rwp_seq fun K28 hK28 => ?_
            refine rwp_block fun K29 hK29 => ?_
            refine rwp_seq fun K30 hK30 => ?_
            refine rwp_region fun K31 hK31 => ?_
            refine st0 3648 rfl (ok (mv (.d (eI v22)))) ?_
            refine st0 3712 rfl (ok (mv (.d (eI v22)))) ?_
            refine hK31 _ _ ?_
            simp only [thenK, blockK, keepE, updM, List.filter_cons, List.filter_nil, List.nil_append, List.cons_append, List.map_cons, List.map_nil, envE, Mem.get, Nat.reduceEqDiff, reduceIte, Option.isNone_none, Option.isNone_some, Bool.false_eq_true, List.length_cons, List.length_nil, Nat.reduceAdd, Nat.reduceMul]
            refine hK30 _ _ _ ?_
            refine rwp_draw fun K32 hK32 => ?_
            refine dr0 3776 rfl (ok (fa_k 1 rfl)) (by kernel_rfl) ?_
            refine dr0 3840 rfl (ok (ld_v (v := .ref 448 v21.length 0 v21.length) rfl rfl rfl)) (by kernel_rfl) ?_
            refine dr0 3904 rfl (ok (mv (.d (eI a1)))) (by kernel_rfl) ?_
            refine dr0 3968 rfl (ok (mv (.d (eI v22)))) (by kernel_rfl) ?_
            refine dr0 4032 rfl (ok (addI _ _)) (by kernel_rfl) ?_
            refine dr0 4096 rfl (ok (mv (.d (.fn 28 [.agg [(eL 1 eU8) a4q0q0]])))) (by kernel_rfl) ?_
            refine dr0 4160 rfl (ok (mv (.d (eI v22)))) (by kernel_rfl) ?_
            refine dr0 4224 rfl (ok (fa_k 1 rfl)) (by kernel_rfl) ?_
            refine dr0 4288 rfl (ok (ld_v (v := .ref 448 v21.length 0 v21.length) rfl rfl rfl)) (by kernel_rfl) ?_
            refine dr0 4352 rfl (ok (mv (.d (eI a1)))) (by kernel_rfl) ?_
            refine dr0 4416 rfl (ok (mv (.d (eI v22)))) (by kernel_rfl) ?_
            refine dr0 4480 rfl (ok (addI _ _)) (by kernel_rfl) ?_
            obtain ⟨h33, h⟩ := asq_inv h
            refine dr0 4544 rfl (ok (iaR (xs := v21) (e := eU8) rfl rfl h33)) (by kernel_rfl) ?_
            refine dr0 4608 rfl (ok (ld_r (e := eU8) (xs := v21) 0#8 rfl rfl (by have := h33; simp at this ⊢; omega) rfl)) (by kernel_rfl) ?_
            obtain ⟨y34, h35, h⟩ := bind_inv h
            refine dr0 4672 rfl (callv_fn (call_ok (v := .d (eU8 y34)) (u := []) (ar_d (eI v22) (ar_d (eU8 (v21.getD (0 + (w64 (a1 + v22)).toNat) 0#8)) (ar_i _ ar_nil))) rfl (flashProgram1I2OK v22 (v21.getD (0 + (w64 (a1 + v22)).toNat) 0#8) a4q0q0 y34 h35) rfl)) (by kernel_rfl) ?_
            obtain ⟨h36, h⟩ := asq_inv h
            refine dr0 4736 rfl (ok (iaR (xs := v21) (e := eU8) rfl rfl h36)) (by kernel_rfl) ?_
            refine drn 4800 rfl (mem' := [(448, .row true 1 ((v21.set (0 + (w64 (a1 + v22)).toNat) y34).map eU8)), (64, .var .mine [.d (eI a0.PageSize), .ref 448 v21.length 0 v21.length]), (128, .var .mine [.d (eI (0 : Int)), .nil 1])]) (ok (sto_r (e := eU8) (xs := v21) (y := y34) rfl rfl rfl)) rfl (by kernel_rfl) ?_
            refine hK32 _ _ ?_
            simp only [thenK, blockK, keepE, updM, List.filter_cons, List.filter_nil, List.nil_append, List.cons_append, List.map_cons, List.map_nil, envE, Mem.get, Nat.reduceEqDiff, reduceIte, Option.isNone_none, Option.isNone_some, Bool.false_eq_true, List.length_cons, List.length_nil, Nat.reduceAdd, Nat.reduceMul]
            refine hK29 _ _ _ ?_
            refine hK28 _ _ _ ?_
            refine rwp_region fun K37 hK37 => ?_
            refine st0 4864 rfl (ok (addI _ (1 : Int))) ?_
            refine st0 4928 rfl (ok (mv (.d (eI (w64 (v22 + (1 : Int))))))) ?_
            refine hK37 _ _ ?_
            simp only [thenK, blockK, keepE, updM, List.filter_cons, List.filter_nil, List.nil_append, List.cons_append, List.map_cons, List.map_nil, envE, Mem.get, Nat.reduceEqDiff, reduceIte, Option.isNone_none, Option.isNone_some, Bool.false_eq_true, List.length_cons, List.length_nil, Nat.reduceAdd, Nat.reduceMul]
            exact hK23.out _ _ _ k4 (Nat.lt_succ_self k4) ⟨_, _, Settled.refl, _, _, ⟨_, _, h, rfl, rfl⟩, (by refine ⟨rfl, ⟨⟨?_, rfl⟩, ⟨⟨?_, rfl⟩, ⟨⟨?_, rfl⟩, ⟨⟨?_, rfl⟩, ⟨⟨?_, rfl⟩, ⟨⟨?_, rfl⟩, ⟨⟨?_, rfl⟩, ⟨⟨?_, rfl⟩, trivial⟩⟩⟩⟩⟩⟩⟩⟩, ⟨⟨?_, rfl⟩, ⟨⟨?_, rfl⟩, ⟨⟨?_, rfl⟩, trivial⟩⟩⟩⟩ <;> first | rfl | (exact refEq rfl (by simp) rfl (by simp)) | simp [envE, Mem.get, liftE, liftV, rhoOf, rhoE, rhoM, appN, PV.refs, PV.refsL, Blk.refs, PV.ren, PV.renL, Blk.ren]), rfl⟩
          · replace h := ite_f h h27
            refine rwp_f (isF h27) ?_
            refine rwp_exit ?_
            refine hK20 _ _ _ ?_
            exact hK15 _ _ _ ⟨_, _, Settled.refl, _, _, ⟨_, h, rfl, rfl⟩, ⟨rfl, ⟨⟨rfl, rfl⟩, ⟨⟨rfl, rfl⟩, ⟨⟨rfl, rfl⟩, ⟨⟨rfl, rfl⟩, trivial⟩⟩⟩⟩, ⟨⟨rfl, rfl⟩, ⟨⟨rfl, rfl⟩, ⟨⟨rfl, rfl⟩, trivial⟩⟩⟩⟩, rfl⟩
    · refine rwp_seq fun K38 hK38 => ?_
      refine rwp_region fun K39 hK39 => ?_
      refine st0 1600 rfl (ok (mv (.d (eI v10)))) ?_
      refine st0 1664 rfl (ok (mv (.d (eI a2)))) ?_
      refine st0 1728 rfl (ok (lssI _ _)) ?_
      refine hK39 _ _ ?_
      simp only [thenK, blockK, keepE, updM, List.filter_cons, List.filter_nil, List.nil_append, List.cons_append, List.map_cons, List.map_nil, envE, Mem.get, Nat.reduceEqDiff, reduceIte, Option.isNone_none, Option.isNone_some, Bool.false_eq_true, List.length_cons, List.length_nil, Nat.reduceAdd, Nat.reduceMul]
      refine hK38 _ _ _ ?_
      rcases Bool.eq_false_or_eq_true ((decide (v10 < a2))) with h40 | h40
      · replace h := ite_t h h40
        refine rwp_t (isT h40) ?_
        refine rwp_region fun K41 hK41 => ?_
        refine st0 1792 rfl (ok (mv (.d (eI (16 : Int))))) ?_
        refine hK41 _ _ ?_
        simp only [thenK, blockK, keepE, updM, List.filter_cons, List.filter_nil, List.nil_append, List.cons_append, List.map_cons, List.map_nil, envE, Mem.get, Nat.reduceEqDiff, reduceIte, Option.isNone_none, Option.isNone_some, Bool.false_eq_true, List.length_cons, List.length_nil, Nat.reduceAdd, Nat.reduceMul]
        exact hK13 _ _ _ ⟨_, _, Settled.refl, _, _, ⟨_, h, rfl, rfl⟩, ⟨rfl, ⟨⟨rfl, rfl⟩, ⟨⟨rfl, rfl⟩, ⟨⟨rfl, rfl⟩, ⟨⟨rfl, rfl⟩, ⟨⟨rfl, rfl⟩, ⟨⟨rfl, rfl⟩, ⟨⟨rfl, rfl⟩, trivial⟩⟩⟩⟩⟩⟩⟩, ⟨⟨rfl, rfl⟩, ⟨⟨rfl, rfl⟩, ⟨⟨rfl, rfl⟩, trivial⟩⟩⟩⟩, rfl⟩
      · replace h := ite_f h h40
        refine rwp_f (isF h40) ?_
        refine rwp_skip ?_
        exact hK13 _ _ _ ⟨_, _, Settled.refl, _, _, ⟨_, h, rfl, rfl⟩, ⟨rfl, ⟨⟨rfl, rfl⟩, ⟨⟨rfl, rfl⟩, ⟨⟨rfl, rfl⟩, ⟨⟨rfl, rfl⟩, ⟨⟨rfl, rfl⟩, ⟨⟨rfl, rfl⟩, ⟨⟨rfl, rfl⟩, trivial⟩⟩⟩⟩⟩⟩⟩, ⟨⟨rfl, rfl⟩, ⟨⟨rfl, rfl⟩, ⟨⟨rfl, rfl⟩, trivial⟩⟩⟩⟩, rfl⟩
  · refine rwp_seq fun K42 hK42 => ?_
    refine rwp_region fun K43 hK43 => ?_
    refine st0 896 rfl (ok (mv (.d (eI a3)))) ?_
    refine st0 960 rfl (ok (geqI _ (0 : Int))) ?_
    refine hK43 _ _ ?_
    simp only [thenK, blockK, keepE, updM, List.filter_cons, List.filter_nil, List.nil_append, List.cons_append, List.map_cons, List.map_nil, envE, Mem.get, Nat.reduceEqDiff, reduceIte, Option.isNone_none, Option.isNone_some, Bool.false_eq_true, List.length_cons, List.length_nil, Nat.reduceAdd, Nat.reduceMul]
    refine hK42 _ _ _ ?_
    rcases Bool.eq_false_or_eq_true ((decide ((0 : Int) ≤ a3))) with h44 | h44
    · replace h := ite_t h h44
      refine rwp_t (isT h44) ?_
      refine rwp_seq fun K45 hK45 => ?_
      refine rwp_region fun K46 hK46 => ?_
      refine st0 1024 rfl (ok (mv (.d (eI a2)))) ?_
      refine st0 1088 rfl (ok (mv (.d (eI a3)))) ?_
      refine st0 1152 rfl (ok (minI _ _)) ?_
      refine st0 1216 rfl (ok (mv (.d (eI (if a3 < a2 then a3 else a2))))) ?_
      refine hK46 _ _ ?_
      simp only [thenK, blockK, keepE, updM, List.filter_cons, List.filter_nil, List.nil_append, List.cons_append, List.map_cons, List.map_nil, envE, Mem.get, Nat.reduceEqDiff, reduceIte, Option.isNone_none, Option.isNone_some, Bool.false_eq_true, List.length_cons, List.length_nil, Nat.reduceAdd, Nat.reduceMul]
      refine hK45 _ _ _ ?_
      refine rwp_region fun K47 hK47 => ?_
      refine st0 1280 rfl (ok (mv (.d (eI a3)))) ?_
      refine st0 1344 rfl (ok (mv (.d (eI (if a3 < a2 then a3 else a2))))) ?_
      refine st0 1408 rfl (ok (subI _ _)) ?_
      refine st0 1472 rfl (ok (mv (.d (eI (w64 (a3 - (if a3 < a2 then a3 else a2))))))) ?_
      refine hK47 _ _ ?_
      simp only [thenK, blockK, keepE, updM, List.filter_cons, List.filter_nil, List.nil_append, List.cons_append, List.map_cons, List.map_nil, envE, Mem.get, Nat.reduceEqDiff, reduceIte, Option.isNone_none, Option.isNone_some, Bool.false_eq_true, List.length_cons, List.length_nil, Nat.reduceAdd, Nat.reduceMul]
      exact hK11 _ _ _ ⟨_, _, Settled.refl, _, _, ⟨_, _, h, rfl, rfl⟩, ⟨rfl, ⟨⟨rfl, rfl⟩, ⟨⟨rfl, rfl⟩, ⟨⟨rfl, rfl⟩, ⟨⟨rfl, rfl⟩, ⟨⟨rfl, rfl⟩, ⟨⟨rfl, rfl⟩, ⟨⟨rfl, rfl⟩, ⟨⟨rfl, rfl⟩, trivial⟩⟩⟩⟩⟩⟩⟩⟩, ⟨⟨rfl, rfl⟩, ⟨⟨rfl, rfl⟩, ⟨⟨rfl, rfl⟩, trivial⟩⟩⟩⟩, rfl⟩
    · replace h := ite_f h h44
      refine rwp_f (isF h44) ?_
      refine rwp_skip ?_
      exact hK11 _ _ _ ⟨_, _, Settled.refl, _, _, ⟨_, _, h, rfl, rfl⟩, ⟨rfl, ⟨⟨rfl, rfl⟩, ⟨⟨rfl, rfl⟩, ⟨⟨rfl, rfl⟩, ⟨⟨rfl, rfl⟩, ⟨⟨rfl, rfl⟩, ⟨⟨rfl, rfl⟩, ⟨⟨rfl, rfl⟩, ⟨⟨rfl, rfl⟩, trivial⟩⟩⟩⟩⟩⟩⟩⟩, ⟨⟨rfl, rfl⟩, ⟨⟨rfl, rfl⟩, ⟨⟨rfl, rfl⟩, trivial⟩⟩⟩⟩, rfl⟩

/-- passkey/flash.Program -/
def flashProgramH : Hints := ⟨[(0, [1, 2, 4, 5, 8, 10]), (1, [4, 5, 8, 10, 13, 14]), (2, [4, 5, 8, 10, 13, 14, 25]), (3, [10, 11, 12]), (4, [10, 11, 12])], []⟩
def flashProgramRc : RCode :=
  .seq (.region false [⟨some 5, .box, [.t 0], none, []⟩, ⟨some 8, .box, [.t 3], none, []⟩, ⟨some 10, .alloc [.d (.int .i64 0), .nil 1], [], none, []⟩, ⟨some 11, .mv, [.k (.d (.int
  .i64 0))], none, []⟩, ⟨some 12, .mv, [.k (.d (.int .i64 0))], none, []⟩] [1, 2, 4, 5, 8, 10]) (.seq (.region false [⟨some 16, .load 2 true, [.t 5], none, []⟩, ⟨some 17, .mv, [.t
  1], none, []⟩, ⟨some 18, .mv, [.t 2], none, []⟩, ⟨some 19, .load 1 false, [.t 8], none, []⟩, ⟨some 20, .len, [.t 19], none, []⟩, ⟨some 21, .call 23 false, [.t 16, .t 17, .t 18,
  .t 20], none, []⟩, ⟨some 15, .mv, [.t 21], none, []⟩, ⟨some 22, .ext 0, [.t 15], none, []⟩, ⟨some 23, .ext 1, [.t 15], none, []⟩, ⟨some 13, .mv, [.t 22], none, []⟩, ⟨some 14,
  .mv, [.t 23], none, []⟩] [4, 5, 8, 10, 13, 14]) (.seq (.seq (.region false [⟨some 24, .mv, [.t 14], none, []⟩, ⟨some 25, .bin .neq, [.t 24, .k (.d (.int .i64 0))], none, []⟩] [4,
  5, 8, 10, 13, 14, 25]) (.cond (.t 25) (.seq (.region false [⟨some 26, .build [.d (.int .i64 0), .nil 1] [], [], none, []⟩, ⟨some 27, .mv, [.t 14], none, []⟩, ⟨none, .store 2, [.t
  10, .t 26], none, []⟩, ⟨some 11, .mv, [.k (.d (.int .i64 0))], none, []⟩, ⟨some 12, .mv, [.t 27], none, []⟩] [10, 11, 12]) .ret) .skip)) (.seq (.region false [⟨some 28, .load 2
  true, [.t 5], none, []⟩, ⟨some 29, .mv, [.t 13], none, []⟩, ⟨some 30, .load 1 false, [.t 8], none, []⟩, ⟨some 31, .len, [.t 30], none, []⟩, ⟨some 32, .mv, [.t 4], none, []⟩,
  ⟨some 33, .mkf 28, [.t 8], none, []⟩, ⟨some 34, .call 27 true, [.t 28, .t 29, .t 31, .t 32, .t 33], none, []⟩, ⟨some 35, .ext 0, [.t 34], none, []⟩, ⟨some 36, .ext 1, [.t 34],
  none, []⟩, ⟨some 37, .ext 2, [.t 34], none, []⟩, ⟨none, .store 2, [.t 10, .t 35], none, []⟩, ⟨some 11, .mv, [.t 36], none, []⟩, ⟨some 12, .mv, [.t 37], none, []⟩] [10, 11, 12])
  .ret)))
def flashProgramRr : List RR := [.c 10 2 true, .t 11, .t 12]
theorem flashProgramC : compFn Try.prog 20 flashProgramH = some (flashProgramRc, flashProgramRr, 38) := by kernel_rfl
theorem flashProgramOK (a0 : TApiFlash) (a1 : Int) (a2 : Int) (a3 : List (BitVec 8)) (a4 : Int) (res : TApiFlash × Int × Int) (h : flashProgram a0 a1 a2 a3 a4 = some res) : CallOK Try.prog 20 [.d (eTApiFlash a0), .d (eI a1), .d (eI a2), .d ((eL 1 eU8) a3), .d (eI a4)] [] (.tup [.d (eTApiFlash res.1), .d (eI res.2.1), .d (eI res.2.2)]) [] := by
  unfold flashProgram at h
  refine callOK flashProgramC fm rfl ?_
  simp only [initE, initM, nbor, List.map_cons, List.map_nil, Nat.reduceAdd]
  unfold flashProgramRc
  refine rwp_seq fun K1 hK1 => ?_
  refine rwp_region fun K2 hK2 => ?_
  refine st1 128 rfl (mem' := [(64, .var .mine [.d (eI a0.PageSize), .d ((eL 1 eU8) a0.Bytes)])]) (ok (bx (ps := [.d (eI a0.PageSize), .d ((eL 1 eU8) a0.Bytes)]) rfl rfl)) rfl ?_
  refine st1 192 rfl (mem' := [(128, .var .mine [.d ((eL 1 eU8) a3)]), (64, .var .mine [.d (eI a0.PageSize), .d ((eL 1 eU8) a0.Bytes)])]) (ok (bx (ps := [.d ((eL 1 eU8) a3)]) rfl rfl)) rfl ?_
  refine st1 256 rfl (mem' := [(192, .var .mine [.d (eI (0 : Int)), .nil 1]), (128, .var .mine [.d ((eL 1 eU8) a3)]), (64, .var .mine [.d (eI a0.PageSize), .d ((eL 1 eU8) a0.Bytes)])]) (ok (alc (zs := [.d (eI (0 : Int)), .nil 1]))) rfl ?_
  refine st0 320 rfl (ok (mv (.d (eI (0 : Int))))) ?_
  refine st0 384 rfl (ok (mv (.d (eI (0 : Int))))) ?_
  refine hK2 _ _ ?_
  simp only [thenK, blockK, keepE, updM, List.filter_cons, List.filter_nil, List.nil_append, List.cons_append, List.map_cons, List.map_nil, envE, Mem.get, Nat.reduceEqDiff, reduceIte, Option.isNone_none, Option.isNone_some, Bool.false_eq_true, List.length_cons, List.length_nil, Nat.reduceAdd, Nat.reduceMul]
  refine hK1 _ _ _ ?_
  refine rwp_seq fun K3 hK3 => ?_
  refine rwp_region fun K4 hK4 => ?_
  refine st0 448 rfl (ok (ld_v (v := .d (.agg [eI a0.PageSize, (eL 1 eU8) a0.Bytes])) rfl rfl rfl)) ?_
  refine st0 512 rfl (ok (mv (.d (eI a1)))) ?_
  refine st0 576 rfl (ok (mv (.d (eI a2)))) ?_
  refine st0 640 rfl (ok (ld_v (v := .d ((eL 1 eU8) a3)) rfl rfl rfl)) ?_
  refine st0 704 rfl (ok (lenL _ _)) ?_
  obtain ⟨y5, h6, h⟩ := bind_inv h
  refine st0 768 rfl (call_ok (v := .tup [.d (eI y5.1), .d (eI y5.2)]) (u := []) (ar_d (eTApiFlash (TApiFlash.mk a0.PageSize a0.Bytes)) (ar_d (eI a1) (ar_d (eI a2) (ar_d (eI (a3.length : Int)) ar_nil)))) rfl (flashplaceOK (TApiFlash.mk a0.PageSize a0.Bytes) a1 a2 (a3.length : Int) y5 h6) rfl) ?_
  refine st0 832 rfl (ok (mv (.tup [.d (eI y5.1), .d (eI y5.2)]))) ?_
  refine st0 896 rfl (ok (extr (v := .d (eI y5.1)) rfl rfl)) ?_
  refine st0 960 rfl (ok (extr (v := .d (eI y5.2)) rfl rfl)) ?_
  refine st0 1024 rfl (ok (mv (.d (eI y5.1)))) ?_
  refine st0 1088 rfl (ok (mv (.d (eI y5.2)))) ?_
  refine hK4 _ _ ?_
  simp only [thenK, blockK, keepE, updM, List.filter_cons, List.filter_nil, List.nil_append, List.cons_append, List.map_cons, List.map_nil, envE, Mem.get, Nat.reduceEqDiff, reduceIte, Option.isNone_none, Option.isNone_some, Bool.false_eq_true, List.length_cons, List.length_nil, Nat.reduceAdd, Nat.reduceMul]
  refine hK3 _ _ _ ?_
  refine rwp_seq fun K7 hK7 => ?_
  refine rwp_seq fun K8 hK8 => ?_
  refine rwp_region fun K9 hK9 => ?_
  refine st0 1152 rfl (ok (mv (.d (eI y5.2)))) ?_
  refine st0 1216 rfl (ok (neqI _ (0 : Int))) ?_
  refine hK9 _ _ ?_
  simp only [thenK, blockK, keepE, updM, List.filter_cons, List.filter_nil, List.nil_append, List.cons_append, List.map_cons, List.map_nil, envE, Mem.get, Nat.reduceEqDiff, reduceIte, Option.isNone_none, Option.isNone_some, Bool.false_eq_true, List.length_cons, List.length_nil, Nat.reduceAdd, Nat.reduceMul]
  refine hK8 _ _ _ ?_
  rcases Bool.eq_false_or_eq_true ((y5.2 != (0 : Int))) with h10 | h10
  · replace h := ite_t h h10
    refine rwp_t (isT h10) ?_
    refine rwp_seq fun K11 hK11 => ?_
    refine rwp_region fun K12 hK12 => ?_
    refine st0 1280 rfl (ok (bld (v := .agg [.d (eI (0 : Int)), .nil 1]) rfl rfl)) ?_
    refine st0 1344 rfl (ok (mv (.d (eI y5.2)))) ?_
    refine stn 1408 rfl (mem' := [(192, .var .mine [.d (eI (0 : Int)), .nil 1]), (128, .var .mine [.d ((eL 1 eU8) a3)]), (64, .var .mine [.d (eI a0.PageSize), .d ((eL 1 eU8) a0.Bytes)])]) (ok (sto_v (ps' := [.d (eI (0 : Int)), .nil 1]) rfl rfl rfl rfl)) rfl ?_
    refine st0 1472 rfl (ok (mv (.d (eI (0 : Int))))) ?_
    refine st0 1536 rfl (ok (mv (.d (eI y5.2)))) ?_
    refine hK12 _ _ ?_
    simp only [thenK, blockK, keepE, updM, List.filter_cons, List.filter_nil, List.nil_append, List.cons_append, List.map_cons, List.map_nil, envE, Mem.get, Nat.reduceEqDiff, reduceIte, Option.isNone_none, Option.isNone_some, Bool.false_eq_true, List.length_cons, List.length_nil, Nat.reduceAdd, Nat.reduceMul]
    refine hK11 _ _ _ ?_
    refine rwp_ret ?_
    obtain rfl := Option.some.inj h
    try simp only [thenK, blockK, reduceIte]
    exact Or.inl (end_ok trivial (rs_c (id := 192) (off := 0) (v := .agg [.d (eI (0 : Int)), .nil 1]) rfl rfl rfl rfl (rs_t (v := .d (eI (0 : Int))) rfl (rs_t (v := .d (eI y5.2)) rfl rs_nil))) (en_d (to_agg (ds_d _ (ds_n eU8 ds_nil)) (x := eTApiFlash (TApiFlash.mk (0 : Int) ([] : List (BitVec 8)))) rfl) (en_d (to_d _) (en_d (to_d _) en_nil))) ou_nil (by first | exact eok rfl rfl rfl rfl trivial | (refine eok ?_ ?_ ?_ ?_ ?_ <;> first | rfl | exact trivial | simp [retM, Mem.get, PV.renL, PV.ren, Blk.ren, comps, rhoR, rhoM, appN, PV.refsL, PV.refs, keys, nodupB, Blk.refs, allIn, Blk.bor])))
  · replace h := ite_f h h10
    refine rwp_f (isF h10) ?_
    refine rwp_skip ?_
    refine hK7 _ _ _ ?_
    refine rwp_seq fun K13 hK13 => ?_
    refine rwp_region fun K14 hK14 => ?_
    refine st0 1280 rfl (ok (ld_v (v := .d (.agg [eI a0.PageSize, (eL 1 eU8) a0.Bytes])) rfl rfl rfl)) ?_
    refine st0 1344 rfl (ok (mv (.d (eI y5.1)))) ?_
    refine st0 1408 rfl (ok (ld_v (v := .d ((eL 1 eU8) a3)) rfl rfl rfl)) ?_
    refine st0 1472 rfl (ok (lenL _ _)) ?_
    refine st0 1536 rfl (ok (mv (.d (eI a4)))) ?_
    refine st0 1600 rfl (ok (mkfn rfl)) ?_
    obtain ⟨y15, h16, h⟩ := bind_inv h
    refine st1 1664 rfl (mem' := [(128, .var .ro [.d ((eL 1 eU8) a3)]), (192, .var .mine [.d (eI (0 : Int)), .nil 1]), (64, .var .mine [.d (eI a0.PageSize), .d ((eL 1 eU8) a0.Bytes)])]) (call_ok (v := .tup [.d (eTApiFlash y15.1), .d (eI y15.2.1), .d (eI y15.2.2)]) (u := [(128, .var .ro [.d ((eL 1 eU8) a3)])]) (ar_d (eTApiFlash (TApiFlash.mk a0.PageSize a0.Bytes)) (ar_d (eI y5.1) (ar_d (eI (a3.length : Int)) (ar_d (eI a4) (ar_to rfl (to_clo (fs_1 rfl rfl (ds_d _ ds_nil) fs_nil)) ar_nil))))) rfl (flashchangeFflashProgram1OK (TApiFlash.mk a0.PageSize a0.Bytes) y5.1 (a3.length : Int) a4 a3 y15 h16) rfl) rfl ?_
    refine st0 1728 rfl (ok (extr (v := .d (eTApiFlash y15.1)) rfl rfl)) ?_
    refine st0 1792 rfl (ok (extr (v := .d (eI y15.2.1)) rfl rfl)) ?_
    refine st0 1856 rfl (ok (extr (v := .d (eI y15.2.2)) rfl rfl)) ?_
    refine stn 1920 rfl (mem' := [(192, .var .mine [.d (eI y15.1.PageSize), .d ((eL 1 eU8) y15.1.Bytes)]), (128, .var .ro [.d ((eL 1 eU8) a3)]), (64, .var .mine [.d (eI a0.PageSize), .d ((eL 1 eU8) a0.Bytes)])]) (ok (sto_v (ps' := [.d (eI y15.1.PageSize), .d ((eL 1 eU8) y15.1.Bytes)]) rfl rfl rfl rfl)) rfl ?_
    refine st0 1984 rfl (ok (mv (.d (eI y15.2.1)))) ?_
    refine st0 2048 rfl (ok (mv (.d (eI y15.2.2)))) ?_
    refine hK14 _ _ ?_
    simp only [thenK, blockK, keepE, updM, List.filter_cons, List.filter_nil, List.nil_append, List.cons_append, List.map_cons, List.map_nil, envE, Mem.get, Nat.reduceEqDiff, reduceIte, Option.isNone_none, Option.isNone_some, Bool.false_eq_true, List.length_cons, List.length_nil, Nat.reduceAdd, Nat.reduceMul]
    refine hK13 _ _ _ ?_
    refine rwp_ret ?_
    obtain rfl := Option.some.inj h
    try simp only [thenK, blockK, reduceIte]
    exact Or.inl (end_ok trivial (rs_c (id := 192) (off := 0) (v := .d (.agg [eI y15.1.PageSize, (eL 1 eU8) y15.1.Bytes])) rfl rfl rfl rfl (rs_t (v := .d (eI y15.2.1)) rfl (rs_t (v := .d (eI y15.2.2)) rfl rs_nil))) (en_d (to_d _) (en_d (to_d _) (en_d (to_d _) en_nil))) ou_nil (by first | exact eok rfl rfl rfl rfl trivial | (refine eok ?_ ?_ ?_ ?_ ?_ <;> first | rfl | exact trivial | simp [retM, Mem.get, PV.renL, PV.ren, Blk.ren, comps, rhoR, rhoM, appN, PV.refsL, PV.refs, keys, nodupB, Blk.refs, allIn, Blk.bor])))

theorem slicesClonebytebyteOK (a0 : List (BitVec 8)) (res : List (BitVec 8)) (h : slicesClonebytebyte a0 = some res) : CallOK Try.prog 24 [.d ((eL 1 eU8) a0)] [] (.d ((eL 1 eU8) res)) [] := by
  unfold slicesClonebytebyte at h
  refine callOK slicesClonebytebyteC fm rfl ?_
  simp only [initE, initM, nbor, List.map_cons, List.map_nil, Nat.reduceAdd]
  unfold slicesClonebytebyteRc
  refine rwp_seq fun K1 hK1 => ?_
  refine rwp_region fun K2 hK2 => ?_
  refine st0 128 rfl (ok (mv (.nil 1))) ?_
  refine hK2 _ _ ?_
  simp only [thenK, blockK, keepE, updM, List.filter_cons, List.filter_nil, List.nil_append, List.cons_append, List.map_cons, List.map_nil, envE, Mem.get, Nat.reduceEqDiff, reduceIte, Option.isNone_none, Option.isNone_some, Bool.false_eq_true, List.length_cons, List.length_nil, Nat.reduceAdd, Nat.reduceMul]
  refine hK1 _ _ _ ?_
  refine rwp_seq fun K3 hK3 => ?_
  refine rwp_join ([], []) 320 (fun env mem => ∃ (v4 : Bool), slicesClonebytebyteJ1 a0 v4 = some res ∧ env = [(0, .d ((eL 1 eU8) a0)), (4, .d (eB v4))] ∧ mem = []) (fun _ _ hI => ?_) (fun K5 hK5 => ?_)
  · obtain ⟨v4, h, rfl, rfl⟩ := hI
    unfold slicesClonebytebyteJ1 at h
    rcases Bool.eq_false_or_eq_true (v4) with h6 | h6
    · replace h := ite_t h h6
      refine rwp_t (isT h6) ?_
      refine rwp_seq fun K7 hK7 => ?_
      refine rwp_region fun K8 hK8 => ?_
      refine st0 384 rfl (ok (mv (.nil 1))) ?_
      refine hK8 _ _ ?_
      simp only [thenK, blockK, keepE, updM, List.filter_cons, List.filter_nil, List.nil_append, List.cons_append, List.map_cons, List.map_nil, envE, Mem.get, Nat.reduceEqDiff, reduceIte, Option.isNone_none, Option.isNone_some, Bool.false_eq_true, List.length_cons, List.length_nil, Nat.reduceAdd, Nat.reduceMul]
      refine hK7 _ _ _ ?_
      refine rwp_ret ?_
      obtain rfl := Option.some.inj h
      try simp only [thenK, blockK, reduceIte]
      exact Or.inl (end_ok trivial (rs_t (v := .nil 1) rfl rs_nil) (en_d (to_1 rfl (ds_n eU8 ds_nil)) en_nil) ou_nil (by first | exact eok rfl rfl rfl rfl trivial | (refine eok ?_ ?_ ?_ ?_ ?_ <;> first | rfl | exact trivial | simp [retM, Mem.get, PV.renL, PV.ren, Blk.ren, comps, rhoR, rhoM, appN, PV.refsL, PV.refs, keys, nodupB, Blk.refs, allIn, Blk.bor])))
    · replace h := ite_f h h6
      refine rwp_f (isF h6) ?_
      refine rwp_skip ?_
      refine hK3 _ _ _ ?_
      refine rwp_seq fun K9 hK9 => ?_
      refine rwp_region fun K10 hK10 => ?_
      refine st0 384 rfl (ok (nsl eU8)) ?_
      refine st0 448 rfl (ok (mv (.d ((eL 1 eU8) a0)))) ?_
      rcases Bool.eq_false_or_eq_true (a0.isEmpty) with h11 | h11
      · replace h := ite_t h h11
        refine st0 512 rfl (ok (appC0 (e := eU8) (ys := a0) contL (isE h11))) ?_
        refine st0 576 rfl (ok (mv (.cut 1 (([] : List (BitVec 8)).map eU8)))) ?_
        refine hK10 _ _ ?_
        simp only [thenK, blockK, keepE, updM, List.filter_cons, List.filter_nil, List.nil_append, List.cons_append, List.map_cons, List.map_nil, envE, Mem.get, Nat.reduceEqDiff, reduceIte, Option.isNone_none, Option.isNone_some, Bool.false_eq_true, List.length_cons, List.length_nil, Nat.reduceAdd, Nat.reduceMul]
        refine hK9 _ _ _ ?_
        refine rwp_ret ?_
        obtain rfl := Option.some.inj h
        try simp only [thenK, blockK, reduceIte]
        exact Or.inl (end_ok trivial (rs_t (v := .cut 1 (([] : List (BitVec 8)).map eU8)) rfl rs_nil) (en_d (to_1 rfl (ds_c ds_nil)) en_nil) ou_nil (by first | exact eok rfl rfl rfl rfl trivial | (refine eok ?_ ?_ ?_ ?_ ?_ <;> first | rfl | exact trivial | simp [retM, Mem.get, PV.renL, PV.ren, Blk.ren, comps, rhoR, rhoM, appN, PV.refsL, PV.refs, keys, nodupB, Blk.refs, allIn, Blk.bor])))
      · replace h := ite_f h h11
        obtain ⟨h12, h⟩ := asq_inv h
        refine st1 512 rfl (mem' := [(448, .row true 1 ((([] : List (BitVec 8)) ++ a0).map eU8))]) (ok (appC (e := eU8) (xs := ([] : List (BitVec 8))) (ys := a0) contL (isNE h11) h12)) rfl ?_
        refine st0 576 rfl (ok (mv (.ref 448 (((([] : List (BitVec 8)) ++ a0)).length) 0 (((([] : List (BitVec 8)) ++ a0)).length)))) ?_
        refine hK10 _ _ ?_
        simp only [thenK, blockK, keepE, updM, List.filter_cons, List.filter_nil, List.nil_append, List.cons_append, List.map_cons, List.map_nil, envE, Mem.get, Nat.reduceEqDiff, reduceIte, Option.isNone_none, Option.isNone_some, Bool.false_eq_true, List.length_cons, List.length_nil, Nat.reduceAdd, Nat.reduceMul]
        refine hK9 _ _ _ ?_
        refine rwp_ret ?_
        obtain rfl := Option.some.inj h
        try simp only [thenK, blockK, reduceIte]
        exact Or.inl (end_ok trivial (rs_t (v := .ref 448 (((([] : List (BitVec 8)) ++ a0)).length) 0 (((([] : List (BitVec 8)) ++ a0)).length)) rfl rs_nil) (en_d (to_1 rfl (ds_r (ys := (([] : List (BitVec 8)) ++ a0)) rfl rfl rfl ds_nil)) en_nil) ou_nil (by first | exact eok rfl rfl rfl rfl trivial | (refine eok ?_ ?_ ?_ ?_ ?_ <;> first | rfl | exact trivial | simp [retM, Mem.get, PV.renL, PV.ren, Blk.ren, comps, rhoR, rhoM, appN, PV.refsL, PV.refs, keys, nodupB, Blk.refs, allIn, Blk.bor])))
  · refine rwp_region fun K13 hK13 => ?_
    refine st0 192 rfl (ok (mv (.d ((eL 1 eU8) a0)))) ?_
    rcases Bool.eq_false_or_eq_true (a0.isEmpty) with h14 | h14
    · replace h := ite_t h h14
      obtain ⟨hl, hr⟩ := both_inv h
      refine stB 256 rfl rfl ?_ ?_
      · clear hr; replace h := hl; clear hl
        refine hK13 _ _ ?_
        simp only [thenK, blockK, keepE, updM, List.filter_cons, List.filter_nil, List.nil_append, List.cons_append, List.map_cons, List.map_nil, envE, Mem.get, Nat.reduceEqDiff, reduceIte, Option.isNone_none, Option.isNone_some, Bool.false_eq_true, List.length_cons, List.length_nil, Nat.reduceAdd, Nat.reduceMul]
        exact hK5 _ _ _ ⟨_, _, Settled.refl, _, _, ⟨_, h, rfl, rfl⟩, ⟨rfl, ⟨⟨rfl, rfl⟩, ⟨⟨rfl, rfl⟩, trivial⟩⟩, trivial⟩, rfl⟩
      · clear hl; replace h := hr; clear hr
        refine hK13 _ _ ?_
        simp only [thenK, blockK, keepE, updM, List.filter_cons, List.filter_nil, List.nil_append, List.cons_append, List.map_cons, List.map_nil, envE, Mem.get, Nat.reduceEqDiff, reduceIte, Option.isNone_none, Option.isNone_some, Bool.false_eq_true, List.length_cons, List.length_nil, Nat.reduceAdd, Nat.reduceMul]
        exact hK5 _ _ _ ⟨_, _, Settled.refl, _, _, ⟨_, h, rfl, rfl⟩, ⟨rfl, ⟨⟨rfl, rfl⟩, ⟨⟨rfl, rfl⟩, trivial⟩⟩, trivial⟩, rfl⟩
    · replace h := ite_f h h14
      refine stE 256 rfl rfl (map_ne (isNE h14)) ?_
      refine hK13 _ _ ?_
      simp only [thenK, blockK, keepE, updM, List.filter_cons, List.filter_nil, List.nil_append, List.cons_append, List.map_cons, List.map_nil, envE, Mem.get, Nat.reduceEqDiff, reduceIte, Option.isNone_none, Option.isNone_some, Bool.false_eq_true, List.length_cons, List.length_nil, Nat.reduceAdd, Nat.reduceMul]
      exact hK5 _ _ _ ⟨_, _, Settled.refl, _, _, ⟨_, h, rfl, rfl⟩, ⟨rfl, ⟨⟨rfl, rfl⟩, ⟨⟨rfl, rfl⟩, trivial⟩⟩, trivial⟩, rfl⟩

/-- passkey/flash.Read -/
def flashReadH : Hints := ⟨[(0, [1, 2, 3, 4]), (1, [3, 4, 10, 11]), (2, [3, 4, 10, 11, 21]), (3, [8, 9]), (4, [8, 9])], []⟩
def flashReadRc : RCode :=
  .seq (.region false [⟨some 4, .box, [.t 0], none, []⟩, ⟨some 8, .mv, [.k (.nil 1)], none, []⟩, ⟨some 9, .mv, [.k (.d (.int .i64 0))], none, []⟩] [1, 2, 3, 4]) (.seq (.region false
  [⟨some 13, .load 2 true, [.t 4], none, []⟩, ⟨some 14, .mv, [.t 1], none, []⟩, ⟨some 15, .mv, [.t 2], none, []⟩, ⟨some 16, .mv, [.t 3], none, []⟩, ⟨some 17, .call 23 false, [.t
  13, .t 14, .t 15, .t 16], none, []⟩, ⟨some 12, .mv, [.t 17], none, []⟩, ⟨some 18, .ext 0, [.t 12], none, []⟩, ⟨some 19, .ext 1, [.t 12], none, []⟩, ⟨some 10, .mv, [.t 18], none,
  []⟩, ⟨some 11, .mv, [.t 19], none, []⟩] [3, 4, 10, 11]) (.seq (.seq (.region false [⟨some 20, .mv, [.t 11], none, []⟩, ⟨some 21, .bin .neq, [.t 20, .k (.d (.int .i64 0))], none,
  []⟩] [3, 4, 10, 11, 21]) (.cond (.t 21) (.seq (.region false [⟨some 22, .mv, [.t 11], none, []⟩, ⟨some 8, .mv, [.k (.nil 1)], none, []⟩, ⟨some 9, .mv, [.t 22], none, []⟩] [8, 9])
  .ret) .skip)) (.seq (.region false [⟨some 23, .fa 1, [.t 4], none, []⟩, ⟨some 24, .load 1 false, [.t 23], none, []⟩, ⟨some 25, .mv, [.t 10], none, []⟩, ⟨some 26, .mv, [.t 10],
  none, []⟩, ⟨some 27, .mv, [.t 3], none, []⟩, ⟨some 28, .bin .add, [.t 26, .t 27], none, []⟩, ⟨some 29, .slice 1 true true false, [.t 24, .t 25, .t 28], none, []⟩, ⟨some 30, .call
  24 true, [.t 29], none, []⟩, ⟨some 8, .mv, [.t 30], none, []⟩, ⟨some 9, .mv, [.k (.d (.int .i64 0))], none, []⟩] [8, 9]) .ret)))
def flashReadRr : List RR := [.t 8, .t 9]
theorem flashReadC : compFn Try.prog 17 flashReadH = some (flashReadRc, flashReadRr, 31) := by kernel_rfl
theorem flashReadOK (a0 : TApiFlash) (a1 : Int) (a2 : Int) (a3 : Int) (res : (List (BitVec 8)) × Int) (h : flashRead a0 a1 a2 a3 = some res) : CallOK Try.prog 17 [.d (eTApiFlash a0), .d (eI a1), .d (eI a2), .d (eI a3)] [] (.tup [.d ((eL 1 eU8) res.1), .d (eI res.2)]) [] := by
  unfold flashRead at h
  refine callOK flashReadC fm rfl ?_
  simp only [initE, initM, nbor, List.map_cons, List.map_nil, Nat.reduceAdd]
  unfold flashReadRc
  refine rwp_seq fun K1 hK1 => ?_
  refine rwp_region fun K2 hK2 => ?_
  refine st1 128 rfl (mem' := [(64, .var .mine [.d (eI a0.PageSize), .d ((eL 1 eU8) a0.Bytes)])]) (ok (bx (ps := [.d (eI a0.PageSize), .d ((eL 1 eU8) a0.Bytes)]) rfl rfl)) rfl ?_
  refine st0 192 rfl (ok (mv (.nil 1))) ?_
  refine st0 256 rfl (ok (mv (.d (eI (0 : Int))))) ?_
  refine hK2 _ _ ?_
  simp only [thenK, blockK, keepE, updM, List.filter_cons, List.filter_nil, List.nil_append, List.cons_append, List.map_cons, List.map_nil, envE, Mem.get, Nat.reduceEqDiff, reduceIte, Option.isNone_none, Option.isNone_some, Bool.false_eq_true, List.length_cons, List.length_nil, Nat.reduceAdd, Nat.reduceMul]
  refine hK1 _ _ _ ?_
  refine rwp_seq fun K3 hK3 => ?_
  refine rwp_region fun K4 hK4 => ?_
  refine st0 320 rfl (ok (ld_v (v := .d (.agg [eI a0.PageSize, (eL 1 eU8) a0.Bytes])) rfl rfl rfl)) ?_
  refine st0 384 rfl (ok (mv (.d (eI a1)))) ?_
  refine st0 448 rfl (ok (mv (.d (eI a2)))) ?_
  refine st0 512 rfl (ok (mv (.d (eI a3)))) ?_
  obtain ⟨y5, h6, h⟩ := bind_inv h
  refine st0 576 rfl (call_ok (v := .tup [.d (eI y5.1), .d (eI y5.2)]) (u := []) (ar_d (eTApiFlash (TApiFlash.mk a0.PageSize a0.Bytes)) (ar_d (eI a1) (ar_d (eI a2) (ar_d (eI a3) ar_nil)))) rfl (flashplaceOK (TApiFlash.mk a0.PageSize a0.Bytes) a1 a2 a3 y5 h6) rfl) ?_
  refine st0 640 rfl (ok (mv (.tup [.d (eI y5.1), .d (eI y5.2)]))) ?_
  refine st0 704 rfl (ok (extr (v := .d (eI y5.1)) rfl rfl)) ?_
  refine st0 768 rfl (ok (extr (v := .d (eI y5.2)) rfl rfl)) ?_
  refine st0 832 rfl (ok (mv (.d (eI y5.1)))) ?_
  refine st0 896 rfl (ok (mv (.d (eI y5.2)))) ?_
  refine hK4 _ _ ?_
  simp only [thenK, blockK, keepE, updM, List.filter_cons, List.filter_nil, List.nil_append, List.cons_append, List.map_cons, List.map_nil, envE, Mem.get, Nat.reduceEqDiff, reduceIte, Option.isNone_none, Option.isNone_some, Bool.false_eq_true, List.length_cons, List.length_nil, Nat.reduceAdd, Nat.reduceMul]
  refine hK3 _ _ _ ?_
  refine rwp_seq fun K7 hK7 => ?_
  refine rwp_seq fun K8 hK8 => ?_
  refine rwp_region fun K9 hK9 => ?_
  refine st0 960 rfl (ok (mv (.d (eI y5.2)))) ?_
  refine st0 1024 rfl (ok (neqI _ (0 : Int))) ?_
  refine hK9 _ _ ?_
  simp only [thenK, blockK, keepE, updM, List.filter_cons, List.filter_nil, List.nil_append, List.cons_append, List.map_cons, List.map_nil, envE, Mem.get, Nat.reduceEqDiff, reduceIte, Option.isNone_none, Option.isNone_some, Bool.false_eq_true, List.length_cons, List.length_nil, Nat.reduceAdd, Nat.reduceMul]
  refine hK8 _ _ _ ?_
  rcases Bool.eq_false_or_eq_true ((y5.2 != (0 : Int))) with h10 | h10
  · replace h := ite_t h h10
    refine rwp_t (isT h10) ?_
    refine rwp_seq fun K11 hK11 => ?_
    refine rwp_region fun K12 hK12 => ?_
    refine st0 1088 rfl (ok (mv (.d (eI y5.2)))) ?_
    refine st0 1152 rfl (ok (mv (.nil 1))) ?_
    refine st0 1216 rfl (ok (mv (.d (eI y5.2)))) ?_
    refine hK12 _ _ ?_
    simp only [thenK, blockK, keepE, updM, List.filter_cons, List.filter_nil, List.nil_append, List.cons_append, List.map_cons, List.map_nil, envE, Mem.get, Nat.reduceEqDiff, reduceIte, Option.isNone_none, Option.isNone_some, Bool.false_eq_true, List.length_cons, List.length_nil, Nat.reduceAdd, Nat.reduceMul]
    refine hK11 _ _ _ ?_
    refine rwp_ret ?_
    obtain rfl := Option.some.inj h
    try simp only [thenK, blockK, reduceIte]
    exact Or.inl (end_ok trivial (rs_t (v := .nil 1) rfl (rs_t (v := .d (eI y5.2)) rfl rs_nil)) (en_d (to_1 rfl (ds_n eU8 ds_nil)) (en_d (to_d _) en_nil)) ou_nil (by first | exact eok rfl rfl rfl rfl trivial | (refine eok ?_ ?_ ?_ ?_ ?_ <;> first | rfl | exact trivial | simp [retM, Mem.get, PV.renL, PV.ren, Blk.ren, comps, rhoR, rhoM, appN, PV.refsL, PV.refs, keys, nodupB, Blk.refs, allIn, Blk.bor])))
  · replace h := ite_f h h10
    refine rwp_f (isF h10) ?_
    refine rwp_skip ?_
    refine hK7 _ _ _ ?_
    refine rwp_seq fun K13 hK13 => ?_
    refine rwp_region fun K14 hK14 => ?_
    refine st0 1088 rfl (ok (fa_k 1 rfl)) ?_
    refine st0 1152 rfl (ok (ld_v (v := .d ((eL 1 eU8) a0.Bytes)) rfl rfl rfl)) ?_
    refine st0 1216 rfl (ok (mv (.d (eI y5.1)))) ?_
    refine st0 1280 rfl (ok (mv (.d (eI y5.1)))) ?_
    refine st0 1344 rfl (ok (mv (.d (eI a3)))) ?_
    refine st0 1408 rfl (ok (addI _ _)) ?_
    obtain ⟨h15, h⟩ := asq_inv h
    refine st0 1472 rfl (ok (slL_lh (xs := a0.Bytes) (e := eU8) h15)) ?_
    obtain ⟨y16, h17, h⟩ := bind_inv h
    refine st0 1536 rfl (call_ok (v := .d ((eL 1 eU8) y16)) (u := []) (ar_d ((eL 1 eU8) (dropTake y5.1.toNat (w64 (y5.1 + a3)).toNat a0.Bytes)) ar_nil) rfl (slicesClonebytebyteOK (dropTake y5.1.toNat (w64 (y5.1 + a3)).toNat a0.Bytes) y16 h17) rfl) ?_
    refine st0 1600 rfl (ok (mv (.d ((eL 1 eU8) y16)))) ?_
    refine st0 1664 rfl (ok (mv (.d (eI (0 : Int))))) ?_
    refine hK14 _ _ ?_
    simp only [thenK, blockK, keepE, updM, List.filter_cons, List.filter_nil, List.nil_append, List.cons_append, List.map_cons, List.map_nil, envE, Mem.get, Nat.reduceEqDiff, reduceIte, Option.isNone_none, Option.isNone_some, Bool.false_eq_true, List.length_cons, List.length_nil, Nat.reduceAdd, Nat.reduceMul]
    refine hK13 _ _ _ ?_
    refine rwp_ret ?_
    obtain rfl := Option.some.inj h
    try simp only [thenK, blockK, reduceIte]
    exact Or.inl (end_ok trivial (rs_t (v := .d ((eL 1 eU8) y16)) rfl (rs_t (v := .d (eI (0 : Int))) rfl rs_nil)) (en_d (to_d _) (en_d (to_d _) en_nil)) ou_nil (by first | exact eok rfl rfl rfl rfl trivial | (refine eok ?_ ?_ ?_ ?_ ?_ <;> first | rfl | exact trivial | simp [retM, Mem.get, PV.renL, PV.ren, Blk.ren, comps, rhoR, rhoM, appN, PV.refsL, PV.refs, keys, nodupB, Blk.refs, allIn, Blk.bor])))

end Go.Proofs.Ty
