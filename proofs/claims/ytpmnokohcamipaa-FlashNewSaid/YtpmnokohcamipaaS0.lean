/- Each Go function comes to what its plain function says. PRINTED by a program of this session (ty.py). -/
import Derived.Test.YtpmnokohcamipaaProg
import Derived.Test.YtpmnokohcamipaaF
import Derived.KernelRfl
set_option linter.unusedVariables false
set_option linter.unusedSimpArgs false
set_option maxHeartbeats 4000000
set_option maxRecDepth 10000
namespace Go.Proofs.Ty
open Go Go.RW Go.Proofs
theorem fm : Try.prog.follows .mixedOrders = true := by kernel_rfl
/-- passkey/flash.sized -/
def flashsizedH : Hints := ⟨[(0, [0]), (1, [2])], []⟩
def flashsizedRc : RCode :=
  .seq (.region false [⟨some 2, .mv, [.k (.d (.bool false))], none, []⟩] [0]) (.seq (.region false [⟨some 3, .mv, [.t 0], none, []⟩, ⟨some 4, .bin .geq, [.t 3, .k (.d (.int .i64
  512))], none, []⟩, ⟨some 5, .mv, [.t 4], none, []⟩, ⟨some 6, .mv, [.t 0], some (5, true), []⟩, ⟨some 7, .bin .leq, [.t 6, .k (.d (.int .i64 8192))], some (5, true), []⟩, ⟨some 8,
  .pick, [.t 5, .t 7, .k (.d (.bool false))], none, []⟩, ⟨some 2, .mv, [.t 8], none, []⟩] [2]) .ret)
def flashsizedRr : List RR := [.t 2]
theorem flashsizedC : compFn Try.prog 22 flashsizedH = some (flashsizedRc, flashsizedRr, 9) := by kernel_rfl
theorem flashsizedOK (a0 : Int) (res : Bool) (h : flashsized a0 = some res) : CallOK Try.prog 22 [.d (eI a0)] [] (.d (eB res)) [] := by
  unfold flashsized at h
  refine callOK flashsizedC fm rfl ?_
  simp only [initE, initM, nbor, List.map_cons, List.map_nil, Nat.reduceAdd]
  unfold flashsizedRc
  refine rwp_seq fun K1 hK1 => ?_
  refine rwp_region fun K2 hK2 => ?_
  refine st0 128 rfl (ok (mv (.d (eB false)))) ?_
  refine hK2 _ _ ?_
  simp only [thenK, blockK, keepE, updM, List.filter_cons, List.filter_nil, List.nil_append, List.cons_append, List.map_cons, List.map_nil, envE, Mem.get, Nat.reduceEqDiff, reduceIte, Option.isNone_none, Option.isNone_some, Bool.false_eq_true, List.length_cons, List.length_nil, Nat.reduceAdd, Nat.reduceMul]
  refine hK1 _ _ _ ?_
  refine rwp_seq fun K3 hK3 => ?_
  refine rwp_region fun K4 hK4 => ?_
  refine st0 192 rfl (ok (mv (.d (eI a0)))) ?_
  refine st0 256 rfl (ok (geqI _ (512 : Int))) ?_
  refine st0 320 rfl (ok (mv (.d (eB (decide ((512 : Int) ≤ a0)))))) ?_
  rcases Bool.eq_false_or_eq_true ((decide ((512 : Int) ≤ a0))) with h5 | h5
  · replace h := ite_t h h5
    refine stG (isT h5) ?_
    refine st0 384 rfl (ok (mv (.d (eI a0)))) ?_
    refine stG (isT h5) ?_
    refine st0 448 rfl (ok (leqI _ (8192 : Int))) ?_
    refine st0 512 rfl (ok (pick_t h5 (.d (eB (decide (a0 ≤ (8192 : Int))))) _)) ?_
    refine st0 576 rfl (ok (mv (.d (eB (decide (a0 ≤ (8192 : Int))))))) ?_
    refine hK4 _ _ ?_
    simp only [thenK, blockK, keepE, updM, List.filter_cons, List.filter_nil, List.nil_append, List.cons_append, List.map_cons, List.map_nil, envE, Mem.get, Nat.reduceEqDiff, reduceIte, Option.isNone_none, Option.isNone_some, Bool.false_eq_true, List.length_cons, List.length_nil, Nat.reduceAdd, Nat.reduceMul]
    refine hK3 _ _ _ ?_
    refine rwp_ret ?_
    obtain rfl := Option.some.inj h
    try simp only [thenK, blockK, reduceIte]
    exact Or.inl (end_ok trivial (rs_t (v := .d (eB (decide (a0 ≤ (8192 : Int))))) rfl rs_nil) (en_d (to_d _) en_nil) ou_nil (by first | exact eok rfl rfl rfl rfl trivial | (refine eok ?_ ?_ ?_ ?_ ?_ <;> first | rfl | exact trivial | simp [retM, Mem.get, PV.renL, PV.ren, Blk.ren, comps, rhoR, rhoM, appN, PV.refsL, PV.refs, keys, nodupB, Blk.refs, allIn, Blk.bor])))
  · replace h := ite_f h h5
    refine stGN 384 rfl rfl h5 ?_
    refine stGN 448 rfl rfl h5 ?_
    refine st0 512 rfl (ok (pick_f h5 _ (.d (eB false)))) ?_
    refine st0 576 rfl (ok (mv (.d (eB false)))) ?_
    refine hK4 _ _ ?_
    simp only [thenK, blockK, keepE, updM, List.filter_cons, List.filter_nil, List.nil_append, List.cons_append, List.map_cons, List.map_nil, envE, Mem.get, Nat.reduceEqDiff, reduceIte, Option.isNone_none, Option.isNone_some, Bool.false_eq_true, List.length_cons, List.length_nil, Nat.reduceAdd, Nat.reduceMul]
    refine hK3 _ _ _ ?_
    refine rwp_ret ?_
    obtain rfl := Option.some.inj h
    try simp only [thenK, blockK, reduceIte]
    exact Or.inl (end_ok trivial (rs_t (v := .d (eB false)) rfl rs_nil) (en_d (to_d _) en_nil) ou_nil (by first | exact eok rfl rfl rfl rfl trivial | (refine eok ?_ ?_ ?_ ?_ ?_ <;> first | rfl | exact trivial | simp [retM, Mem.get, PV.renL, PV.ren, Blk.ren, comps, rhoR, rhoM, appN, PV.refsL, PV.refs, keys, nodupB, Blk.refs, allIn, Blk.bor])))

/-- passkey/flash.New -/
def flashNewH : Hints := ⟨[(0, [0, 1, 4]), (1, [0, 1, 4, 18]), (2, [4, 5]), (3, [4, 6]), (4, [4, 6, 28, 29]), (5, [4, 6, 28, 29, 30]), (6, [4, 6, 7, 28, 29]), (7, [4, 6, 28, 29]), (8, [4, 6, 28, 29]), (9, [4, 5])], []⟩
def flashNewRc : RCode :=
  .seq (.region false [⟨some 4, .alloc [.d (.int .i64 0), .nil 1], [], none, []⟩, ⟨some 5, .mv, [.k (.d (.int .i64 0))], none, []⟩] [0, 1, 4]) (.seq (.seq (.region false [⟨some 8,
  .mv, [.t 0], none, []⟩, ⟨some 9, .call 22 false, [.t 8], none, []⟩, ⟨some 10, .un .not, [.t 9], none, []⟩, ⟨some 11, .mv, [.t 10], none, []⟩, ⟨some 12, .mv, [.t 1], some (11,
  false), []⟩, ⟨some 13, .bin .lss, [.t 12, .k (.d (.int .i64 1))], some (11, false), []⟩, ⟨some 14, .pick, [.t 11, .k (.d (.bool true)), .t 13], none, []⟩, ⟨some 15, .mv, [.t 14],
  none, []⟩, ⟨some 16, .mv, [.t 1], some (15, false), []⟩, ⟨some 17, .bin .gtr, [.t 16, .k (.d (.int .i64 8))], some (15, false), []⟩, ⟨some 18, .pick, [.t 15, .k (.d (.bool
  true)), .t 17], none, []⟩] [0, 1, 4, 18]) (.cond (.t 18) (.seq (.region false [⟨some 19, .build [.d (.int .i64 0), .nil 1] [], [], none, []⟩, ⟨none, .store 2, [.t 4, .t 19],
  none, []⟩, ⟨some 5, .mv, [.k (.d (.int .i64 9))], none, []⟩] [4, 5]) .ret) .skip)) (.seq (.region false [⟨some 20, .mv, [.t 0], none, []⟩, ⟨some 21, .mv, [.t 0], none, []⟩, ⟨some
  22, .mv, [.t 1], none, []⟩, ⟨some 23, .bin .mul, [.t 21, .t 22], none, []⟩, ⟨some 24, .mks 1 false [.d (.int .u8 0)] 281474976710656, [.t 23, .t 23], none, []⟩, ⟨some 25, .build
  [.d (.int .i64 0), .nil 1] [(0, 1), (1, 1)], [.t 20, .t 24], none, []⟩, ⟨some 6, .alloc [.d (.int .i64 0), .nil 1], [], none, []⟩, ⟨none, .store 2, [.t 6, .t 25], none, []⟩] [4,
  6]) (.seq (.seq (.region false [⟨some 26, .fa 1, [.t 6], none, []⟩, ⟨some 27, .load 1 false, [.t 26], none, []⟩, ⟨some 28, .len, [.t 27], none, []⟩, ⟨some 29, .mv, [.k (.d (.int
  .i64 0))], none, []⟩] [4, 6, 28, 29]) (.block 0 (.loop [] (.seq (.region false [⟨some 30, .bin .lss, [.t 29, .t 28], none, []⟩] [4, 6, 28, 29, 30]) (.seq (.cond (.t 30) .skip
  (.exit 0)) (.seq (.block 1 (.seq (.region false [⟨some 31, .mv, [.t 29], none, []⟩, ⟨some 7, .mv, [.t 31], none, []⟩] [4, 6, 7, 28, 29]) (.region false [⟨some 32, .fa 1, [.t 6],
  none, []⟩, ⟨some 33, .load 1 false, [.t 32], none, []⟩, ⟨some 34, .mv, [.t 7], none, []⟩, ⟨some 35, .ia 1, [.t 33, .t 34], none, []⟩, ⟨none, .store 1, [.t 35, .k (.d (.int .u8
  255))], none, []⟩] [4, 6, 28, 29]))) (.region false [⟨some 36, .bin .add, [.t 29, .k (.d (.int .i64 1))], none, []⟩, ⟨some 29, .mv, [.t 36], none, []⟩] [4, 6, 28, 29])))))))
  (.seq (.region false [⟨some 37, .load 2 true, [.t 6], none, []⟩, ⟨none, .store 2, [.t 4, .t 37], none, []⟩, ⟨some 5, .mv, [.k (.d (.int .i64 0))], none, []⟩] [4, 5]) .ret))))
def flashNewRr : List RR := [.c 4 2 true, .t 5]
theorem flashNewC : compFn Try.prog 10 flashNewH = some (flashNewRc, flashNewRr, 38) := by kernel_rfl
theorem flashNewOK (a0 : Int) (a1 : Int) (res : TApiFlash × Int) (h : flashNew a0 a1 = some res) : CallOK Try.prog 10 [.d (eI a0), .d (eI a1)] [] (.tup [.d (eTApiFlash res.1), .d (eI res.2)]) [] := by
  unfold flashNew at h
  refine callOK flashNewC fm rfl ?_
  simp only [initE, initM, nbor, List.map_cons, List.map_nil, Nat.reduceAdd]
  unfold flashNewRc
  refine rwp_seq fun K1 hK1 => ?_
  refine rwp_region fun K2 hK2 => ?_
  refine st1 128 rfl (mem' := [(64, .var .mine [.d (eI (0 : Int)), .nil 1])]) (ok (alc (zs := [.d (eI (0 : Int)), .nil 1]))) rfl ?_
  refine st0 192 rfl (ok (mv (.d (eI (0 : Int))))) ?_
  refine hK2 _ _ ?_
  simp only [thenK, blockK, keepE, updM, List.filter_cons, List.filter_nil, List.nil_append, List.cons_append, List.map_cons, List.map_nil, envE, Mem.get, Nat.reduceEqDiff, reduceIte, Option.isNone_none, Option.isNone_some, Bool.false_eq_true, List.length_cons, List.length_nil, Nat.reduceAdd, Nat.reduceMul]
  refine hK1 _ _ _ ?_
  refine rwp_seq fun K3 hK3 => ?_
  refine rwp_join ([], []) 960 (fun env mem => ∃ (v4 : Bool), flashNewJ1 a0 a1 v4 = some res ∧ env = [(0, .d (eI a0)), (1, .d (eI a1)), (4, .ptr 64 0), (18, .d (eB v4))] ∧ mem = [(64, .var .mine [.d (eI (0 : Int)), .nil 1])]) (fun _ _ hI => ?_) (fun K5 hK5 => ?_)
  · obtain ⟨v4, h, rfl, rfl⟩ := hI
    unfold flashNewJ1 at h
    rcases Bool.eq_false_or_eq_true (v4) with h6 | h6
    · replace h := ite_t h h6
      refine rwp_t (isT h6) ?_
      refine rwp_seq fun K7 hK7 => ?_
      refine rwp_region fun K8 hK8 => ?_
      refine st0 1024 rfl (ok (bld (v := .agg [.d (eI (0 : Int)), .nil 1]) rfl rfl)) ?_
      refine stn 1088 rfl (mem' := [(64, .var .mine [.d (eI (0 : Int)), .nil 1])]) (ok (sto_v (ps' := [.d (eI (0 : Int)), .nil 1]) rfl rfl rfl rfl)) rfl ?_
      refine st0 1152 rfl (ok (mv (.d (eI (9 : Int))))) ?_
      refine hK8 _ _ ?_
      simp only [thenK, blockK, keepE, updM, List.filter_cons, List.filter_nil, List.nil_append, List.cons_append, List.map_cons, List.map_nil, envE, Mem.get, Nat.reduceEqDiff, reduceIte, Option.isNone_none, Option.isNone_some, Bool.false_eq_true, List.length_cons, List.length_nil, Nat.reduceAdd, Nat.reduceMul]
      refine hK7 _ _ _ ?_
      refine rwp_ret ?_
      obtain rfl := Option.some.inj h
      try simp only [thenK, blockK, reduceIte]
      exact Or.inl (end_ok trivial (rs_c (id := 64) (off := 0) (v := .agg [.d (eI (0 : Int)), .nil 1]) rfl rfl rfl rfl (rs_t (v := .d (eI (9 : Int))) rfl rs_nil)) (en_d (to_agg (ds_d _ (ds_n eU8 ds_nil)) (x := eTApiFlash (TApiFlash.mk (0 : Int) ([] : List (BitVec 8)))) rfl) (en_d (to_d _) en_nil)) ou_nil (by first | exact eok rfl rfl rfl rfl trivial | (refine eok ?_ ?_ ?_ ?_ ?_ <;> first | rfl | exact trivial | simp [retM, Mem.get, PV.renL, PV.ren, Blk.ren, comps, rhoR, rhoM, appN, PV.refsL, PV.refs, keys, nodupB, Blk.refs, allIn, Blk.bor])))
    · replace h := ite_f h h6
      refine rwp_f (isF h6) ?_
      refine rwp_skip ?_
      refine hK3 _ _ _ ?_
      refine rwp_seq fun K9 hK9 => ?_
      refine rwp_region fun K10 hK10 => ?_
      refine st0 1024 rfl (ok (mv (.d (eI a0)))) ?_
      refine st0 1088 rfl (ok (mv (.d (eI a0)))) ?_
      refine st0 1152 rfl (ok (mv (.d (eI a1)))) ?_
      refine st0 1216 rfl (ok (mulI _ _)) ?_
      obtain ⟨h11, h⟩ := asq_inv h
      refine st1 1280 rfl (mem' := [(1216, .row true 1 ((List.replicate (w64 (a0 * a1)).toNat 0#8).map eU8)), (64, .var .mine [.d (eI (0 : Int)), .nil 1])]) (ok (mks1 (e := eU8) 0#8 rfl rfl h11)) rfl ?_
      refine st0 1344 rfl (ok (bld (v := .agg [.d (eI a0), .ref 1216 (((List.replicate (w64 (a0 * a1)).toNat 0#8)).length) 0 (((List.replicate (w64 (a0 * a1)).toNat 0#8)).length)]) rfl rfl)) ?_
      refine st1 1408 rfl (mem' := [(1344, .var .mine [.d (eI (0 : Int)), .nil 1]), (1216, .row true 1 ((List.replicate (w64 (a0 * a1)).toNat 0#8).map eU8)), (64, .var .mine [.d (eI (0 : Int)), .nil 1])]) (ok (alc (zs := [.d (eI (0 : Int)), .nil 1]))) rfl ?_
      refine stn 1472 rfl (mem' := [(1344, .var .mine [.d (eI a0), .ref 1216 (((List.replicate (w64 (a0 * a1)).toNat 0#8)).length) 0 (((List.replicate (w64 (a0 * a1)).toNat 0#8)).length)]), (1216, .row true 1 ((List.replicate (w64 (a0 * a1)).toNat 0#8).map eU8)), (64, .var .mine [.d (eI (0 : Int)), .nil 1])]) (ok (sto_v (ps' := [.d (eI a0), .ref 1216 (((List.replicate (w64 (a0 * a1)).toNat 0#8)).length) 0 (((List.replicate (w64 (a0 * a1)).toNat 0#8)).length)]) rfl rfl rfl rfl)) rfl ?_
      refine hK10 _ _ ?_
      simp only [thenK, blockK, keepE, updM, List.filter_cons, List.filter_nil, List.nil_append, List.cons_append, List.map_cons, List.map_nil, envE, Mem.get, Nat.reduceEqDiff, reduceIte, Option.isNone_none, Option.isNone_some, Bool.false_eq_true, List.length_cons, List.length_nil, Nat.reduceAdd, Nat.reduceMul]
      refine hK9 _ _ _ ?_
      refine rwp_join ([], []) 2624 (fun env mem => ∃ (v12 : List (BitVec 8)), flashNewJ2 a0 v12 = some res ∧ env = [(4, .ptr 64 0), (6, .ptr 1344 0)] ∧ mem = [(64, .var .mine [.d (eI (0 : Int)), .nil 1]), (1344, .var .mine [.d (eI a0), .ref 1216 v12.length 0 v12.length]), (1216, .row true 1 (v12.map eU8))]) (fun _ _ hI => ?_) (fun K13 hK13 => ?_)
      · obtain ⟨v12, h, rfl, rfl⟩ := hI
        unfold flashNewJ2 at h
        refine rwp_seq fun K14 hK14 => ?_
        refine rwp_region fun K15 hK15 => ?_
        refine st0 2688 rfl (ok (ld_v (v := .agg [.d (eI a0), .ref 1216 v12.length 0 v12.length]) rfl rfl rfl)) ?_
        refine stn 2752 rfl (mem' := [(64, .var .mine [.d (eI a0), .ref 1216 v12.length 0 v12.length]), (1344, .var .mine [.d (eI a0), .ref 1216 v12.length 0 v12.length]), (1216, .row true 1 (v12.map eU8))]) (ok (sto_v (ps' := [.d (eI a0), .ref 1216 v12.length 0 v12.length]) rfl rfl rfl rfl)) rfl ?_
        refine st0 2816 rfl (ok (mv (.d (eI (0 : Int))))) ?_
        refine hK15 _ _ ?_
        simp only [thenK, blockK, keepE, updM, List.filter_cons, List.filter_nil, List.nil_append, List.cons_append, List.map_cons, List.map_nil, envE, Mem.get, Nat.reduceEqDiff, reduceIte, Option.isNone_none, Option.isNone_some, Bool.false_eq_true, List.length_cons, List.length_nil, Nat.reduceAdd, Nat.reduceMul]
        refine hK14 _ _ _ ?_
        refine rwp_ret ?_
        obtain rfl := Option.some.inj h
        try simp only [thenK, blockK, reduceIte]
        exact Or.inl (end_ok trivial (rs_c (id := 64) (off := 0) (v := .agg [.d (eI a0), .ref 1216 v12.length 0 v12.length]) rfl rfl rfl rfl (rs_t (v := .d (eI (0 : Int))) rfl rs_nil)) (en_d (to_agg (ds_d _ (ds_r (ys := v12) rfl rfl rfl ds_nil)) (x := eTApiFlash (TApiFlash.mk a0 v12)) rfl) (en_d (to_d _) en_nil)) ou_nil (by first | exact eok rfl rfl rfl rfl trivial | (refine eok ?_ ?_ ?_ ?_ ?_ <;> first | rfl | exact trivial | simp [retM, Mem.get, PV.renL, PV.ren, Blk.ren, comps, rhoR, rhoM, appN, PV.refsL, PV.refs, keys, nodupB, Blk.refs, allIn, Blk.bor])))
      · refine rwp_seq fun K16 hK16 => ?_
        refine rwp_region fun K17 hK17 => ?_
        refine st0 1536 rfl (ok (fa_k 1 rfl)) ?_
        refine st0 1600 rfl (ok (ld_v (v := .ref 1216 (((List.replicate (w64 (a0 * a1)).toNat 0#8)).length) 0 (((List.replicate (w64 (a0 * a1)).toNat 0#8)).length)) rfl rfl rfl)) ?_
        refine st0 1664 rfl (ok (lenR _ _ _ _)) ?_
        refine st0 1728 rfl (ok (mv (.d (eI (0 : Int))))) ?_
        refine hK17 _ _ ?_
        simp only [thenK, blockK, keepE, updM, List.filter_cons, List.filter_nil, List.nil_append, List.cons_append, List.map_cons, List.map_nil, envE, Mem.get, Nat.reduceEqDiff, reduceIte, Option.isNone_none, Option.isNone_some, Bool.false_eq_true, List.length_cons, List.length_nil, Nat.reduceAdd, Nat.reduceMul]
        refine hK16 _ _ _ ?_
        refine rwp_block fun K18 hK18 => ?_
        refine rwp_loop ([], []) 2496 (fun k env mem => ∃ (v19 : List (BitVec 8)) (v20 : Int), flashNewL3 a0 a1 k v19 v20 = some res ∧ env = [(4, .ptr 64 0), (6, .ptr 1344 0), (28, .d (eI (((List.replicate (w64 (a0 * a1)).toNat 0#8)).length : Int))), (29, .d (eI v20))] ∧ mem = [(64, .var .mine [.d (eI (0 : Int)), .nil 1]), (1344, .var .mine [.d (eI a0), .ref 1216 v19.length 0 v19.length]), (1216, .row true 1 (v19.map eU8))]) FUEL ⟨_, _, Settled.refl, _, _, ⟨_, _, h, rfl, rfl⟩, ⟨rfl, ⟨⟨rfl, rfl⟩, ⟨⟨rfl, rfl⟩, ⟨⟨rfl, rfl⟩, ⟨⟨rfl, rfl⟩, trivial⟩⟩⟩⟩, ⟨⟨rfl, rfl⟩, ⟨⟨rfl, rfl⟩, ⟨⟨rfl, rfl⟩, trivial⟩⟩⟩⟩, rfl⟩ (fun k3 env1 mem1 hI K21 hK21 => ?_)
        obtain ⟨v19, v20, h, rfl, rfl⟩ := hI
        cases k3 with
        | zero => simp [flashNewL3] at h
        | succ k3 =>
          rw [flashNewL3] at h
          refine rwp_seq fun K22 hK22 => ?_
          refine rwp_region fun K23 hK23 => ?_
          refine st0 2560 rfl (ok (lssI _ _)) ?_
          refine hK23 _ _ ?_
          simp only [thenK, blockK, keepE, updM, List.filter_cons, List.filter_nil, List.nil_append, List.cons_append, List.map_cons, List.map_nil, envE, Mem.get, Nat.reduceEqDiff, reduceIte, Option.isNone_none, Option.isNone_some, Bool.false_eq_true, List.length_cons, List.length_nil, Nat.reduceAdd, Nat.reduceMul]
          refine hK22 _ _ _ ?_
          refine rwp_seq fun K24 hK24 => ?_
          rcases Bool.eq_false_or_eq_true ((decide (v20 < (((List.replicate (w64 (a0 * a1)).toNat 0#8)).length : Int)))) with h25 | h25
          · replace h := ite_t h h25
            refine rwp_t (isT h25) ?_
            refine rwp_skip ?_
            refine hK24 _ _ _ ?_
            refine rwp_seq fun K26 hK26 => ?_
            refine rwp_block fun K27 hK27 => ?_
            refine rwp_seq fun K28 hK28 => ?_
            refine rwp_region fun K29 hK29 => ?_
            refine st0 2624 rfl (ok (mv (.d (eI v20)))) ?_
            refine st0 2688 rfl (ok (mv (.d (eI v20)))) ?_
            refine hK29 _ _ ?_
            simp only [thenK, blockK, keepE, updM, List.filter_cons, List.filter_nil, List.nil_append, List.cons_append, List.map_cons, List.map_nil, envE, Mem.get, Nat.reduceEqDiff, reduceIte, Option.isNone_none, Option.isNone_some, Bool.false_eq_true, List.length_cons, List.length_nil, Nat.reduceAdd, Nat.reduceMul]
            refine hK28 _ _ _ ?_
            refine rwp_region fun K30 hK30 => ?_
            refine st0 2752 rfl (ok (fa_k 1 rfl)) ?_
            refine st0 2816 rfl (ok (ld_v (v := .ref 1216 v19.length 0 v19.length) rfl rfl rfl)) ?_
            refine st0 2880 rfl (ok (mv (.d (eI v20)))) ?_
            obtain ⟨h31, h⟩ := asq_inv h
            refine st0 2944 rfl (ok (iaR (xs := v19) (e := eU8) rfl rfl h31)) ?_
            refine stn 3008 rfl (mem' := [(1216, .row true 1 ((v19.set (0 + v20.toNat) (255#8)).map eU8)), (64, .var .mine [.d (eI (0 : Int)), .nil 1]), (1344, .var .mine [.d (eI a0), .ref 1216 v19.length 0 v19.length])]) (ok (sto_r (e := eU8) (xs := v19) (y := (255#8)) rfl rfl rfl)) rfl ?_
            refine hK30 _ _ ?_
            simp only [thenK, blockK, keepE, updM, List.filter_cons, List.filter_nil, List.nil_append, List.cons_append, List.map_cons, List.map_nil, envE, Mem.get, Nat.reduceEqDiff, reduceIte, Option.isNone_none, Option.isNone_some, Bool.false_eq_true, List.length_cons, List.length_nil, Nat.reduceAdd, Nat.reduceMul]
            refine hK27 _ _ _ ?_
            refine hK26 _ _ _ ?_
            refine rwp_region fun K32 hK32 => ?_
            refine st0 3072 rfl (ok (addI _ (1 : Int))) ?_
            refine st0 3136 rfl (ok (mv (.d (eI (w64 (v20 + (1 : Int))))))) ?_
            refine hK32 _ _ ?_
            simp only [thenK, blockK, keepE, updM, List.filter_cons, List.filter_nil, List.nil_append, List.cons_append, List.map_cons, List.map_nil, envE, Mem.get, Nat.reduceEqDiff, reduceIte, Option.isNone_none, Option.isNone_some, Bool.false_eq_true, List.length_cons, List.length_nil, Nat.reduceAdd, Nat.reduceMul]
            exact hK21.out _ _ _ k3 (Nat.lt_succ_self k3) ⟨_, _, Settled.refl, _, _, ⟨_, _, h, rfl, rfl⟩, (by refine ⟨rfl, ⟨⟨?_, rfl⟩, ⟨⟨?_, rfl⟩, ⟨⟨?_, rfl⟩, ⟨⟨?_, rfl⟩, trivial⟩⟩⟩⟩, ⟨⟨?_, rfl⟩, ⟨⟨?_, rfl⟩, ⟨⟨?_, rfl⟩, trivial⟩⟩⟩⟩ <;> first | rfl | (exact refEq rfl (by simp) rfl (by simp)) | simp [envE, Mem.get, liftE, liftV, rhoOf, rhoE, rhoM, appN, PV.refs, PV.refsL, Blk.refs, PV.ren, PV.renL, Blk.ren]), rfl⟩
          · replace h := ite_f h h25
            refine rwp_f (isF h25) ?_
            refine rwp_exit ?_
            refine hK18 _ _ _ ?_
            exact hK13 _ _ _ ⟨_, _, Settled.refl, _, _, ⟨_, h, rfl, rfl⟩, ⟨rfl, ⟨⟨rfl, rfl⟩, ⟨⟨rfl, rfl⟩, trivial⟩⟩, ⟨⟨rfl, rfl⟩, ⟨⟨rfl, rfl⟩, ⟨⟨rfl, rfl⟩, trivial⟩⟩⟩⟩, rfl⟩
  · refine rwp_region fun K33 hK33 => ?_
    refine st0 256 rfl (ok (mv (.d (eI a0)))) ?_
    obtain ⟨y34, h35, h⟩ := bind_inv h
    refine st0 320 rfl (call_ok (v := .d (eB y34)) (u := []) (ar_d (eI a0) ar_nil) rfl (flashsizedOK a0 y34 h35) rfl) ?_
    refine st0 384 rfl (ok (notB _)) ?_
    refine st0 448 rfl (ok (mv (.d (eB (!y34))))) ?_
    rcases Bool.eq_false_or_eq_true ((!y34)) with h36 | h36
    · replace h := ite_t h h36
      refine stGN 512 rfl rfl h36 ?_
      refine stGN 576 rfl rfl h36 ?_
      refine st0 640 rfl (ok (pick_t h36 (.d (eB true)) _)) ?_
      refine st0 704 rfl (ok (mv (.d (eB true)))) ?_
      refine stGN 768 rfl rfl rfl ?_
      refine stGN 832 rfl rfl rfl ?_
      refine st0 896 rfl (ok (pick_t rfl (.d (eB true)) _)) ?_
      refine hK33 _ _ ?_
      simp only [thenK, blockK, keepE, updM, List.filter_cons, List.filter_nil, List.nil_append, List.cons_append, List.map_cons, List.map_nil, envE, Mem.get, Nat.reduceEqDiff, reduceIte, Option.isNone_none, Option.isNone_some, Bool.false_eq_true, List.length_cons, List.length_nil, Nat.reduceAdd, Nat.reduceMul]
      exact hK5 _ _ _ ⟨_, _, Settled.refl, _, _, ⟨_, h, rfl, rfl⟩, ⟨rfl, ⟨⟨rfl, rfl⟩, ⟨⟨rfl, rfl⟩, ⟨⟨rfl, rfl⟩, ⟨⟨rfl, rfl⟩, trivial⟩⟩⟩⟩, ⟨⟨rfl, rfl⟩, trivial⟩⟩, rfl⟩
    · replace h := ite_f h h36
      refine stG (isF h36) ?_
      refine st0 512 rfl (ok (mv (.d (eI a1)))) ?_
      refine stG (isF h36) ?_
      refine st0 576 rfl (ok (lssI _ (1 : Int))) ?_
      refine st0 640 rfl (ok (pick_f h36 _ (.d (eB (decide (a1 < (1 : Int))))))) ?_
      refine st0 704 rfl (ok (mv (.d (eB (decide (a1 < (1 : Int))))))) ?_
      rcases Bool.eq_false_or_eq_true ((decide (a1 < (1 : Int)))) with h37 | h37
      · replace h := ite_t h h37
        refine stGN 768 rfl rfl h37 ?_
        refine stGN 832 rfl rfl h37 ?_
        refine st0 896 rfl (ok (pick_t h37 (.d (eB true)) _)) ?_
        refine hK33 _ _ ?_
        simp only [thenK, blockK, keepE, updM, List.filter_cons, List.filter_nil, List.nil_append, List.cons_append, List.map_cons, List.map_nil, envE, Mem.get, Nat.reduceEqDiff, reduceIte, Option.isNone_none, Option.isNone_some, Bool.false_eq_true, List.length_cons, List.length_nil, Nat.reduceAdd, Nat.reduceMul]
        exact hK5 _ _ _ ⟨_, _, Settled.refl, _, _, ⟨_, h, rfl, rfl⟩, ⟨rfl, ⟨⟨rfl, rfl⟩, ⟨⟨rfl, rfl⟩, ⟨⟨rfl, rfl⟩, ⟨⟨rfl, rfl⟩, trivial⟩⟩⟩⟩, ⟨⟨rfl, rfl⟩, trivial⟩⟩, rfl⟩
      · replace h := ite_f h h37
        refine stG (isF h37) ?_
        refine st0 768 rfl (ok (mv (.d (eI a1)))) ?_
        refine stG (isF h37) ?_
        refine st0 832 rfl (ok (gtrI _ (8 : Int))) ?_
        refine st0 896 rfl (ok (pick_f h37 _ (.d (eB (decide ((8 : Int) < a1)))))) ?_
        refine hK33 _ _ ?_
        simp only [thenK, blockK, keepE, updM, List.filter_cons, List.filter_nil, List.nil_append, List.cons_append, List.map_cons, List.map_nil, envE, Mem.get, Nat.reduceEqDiff, reduceIte, Option.isNone_none, Option.isNone_some, Bool.false_eq_true, List.length_cons, List.length_nil, Nat.reduceAdd, Nat.reduceMul]
        exact hK5 _ _ _ ⟨_, _, Settled.refl, _, _, ⟨_, h, rfl, rfl⟩, ⟨rfl, ⟨⟨rfl, rfl⟩, ⟨⟨rfl, rfl⟩, ⟨⟨rfl, rfl⟩, ⟨⟨rfl, rfl⟩, trivial⟩⟩⟩⟩, ⟨⟨rfl, rfl⟩, trivial⟩⟩, rfl⟩

/-- passkey/flash.Validate -/
def flashValidateH : Hints := ⟨[(0, [1]), (1, [1, 7]), (2, [2]), (3, [1, 3]), (4, [28]), (5, [2]), (6, [2])], []⟩
def flashValidateRc : RCode :=
  .seq (.region false [⟨some 1, .box, [.t 0], none, []⟩, ⟨some 2, .mv, [.k (.d (.int .i64 0))], none, []⟩] [1]) (.seq (.seq (.region false [⟨some 4, .fa 0, [.t 1], none, []⟩, ⟨some
  5, .load 1 false, [.t 4], none, []⟩, ⟨some 6, .call 22 false, [.t 5], none, []⟩, ⟨some 7, .un .not, [.t 6], none, []⟩] [1, 7]) (.cond (.t 7) (.seq (.region false [⟨some 2, .mv,
  [.k (.d (.int .i64 9))], none, []⟩] [2]) .ret) .skip)) (.seq (.seq (.region false [⟨some 8, .fa 1, [.t 1], none, []⟩, ⟨some 9, .load 1 false, [.t 8], none, []⟩, ⟨some 10, .len,
  [.t 9], none, []⟩, ⟨some 3, .mv, [.t 10], none, []⟩] [1, 3]) (.seq (.region false [⟨some 11, .mv, [.t 3], none, []⟩, ⟨some 12, .fa 0, [.t 1], none, []⟩, ⟨some 13, .load 1 false,
  [.t 12], none, []⟩, ⟨some 14, .bin .rem, [.t 11, .t 13], none, []⟩, ⟨some 15, .bin .neq, [.t 14, .k (.d (.int .i64 0))], none, []⟩, ⟨some 16, .mv, [.t 15], none, []⟩, ⟨some 17,
  .mv, [.t 3], some (16, false), []⟩, ⟨some 18, .fa 0, [.t 1], some (16, false), []⟩, ⟨some 19, .load 1 false, [.t 18], some (16, false), []⟩, ⟨some 20, .bin .lss, [.t 17, .t 19],
  some (16, false), []⟩, ⟨some 21, .pick, [.t 16, .k (.d (.bool true)), .t 20], none, []⟩, ⟨some 22, .mv, [.t 21], none, []⟩, ⟨some 23, .mv, [.t 3], some (22, false), []⟩, ⟨some
  24, .fa 0, [.t 1], some (22, false), []⟩, ⟨some 25, .load 1 false, [.t 24], some (22, false), []⟩, ⟨some 26, .bin .mul, [.k (.d (.int .i64 8)), .t 25], some (22, false), []⟩,
  ⟨some 27, .bin .gtr, [.t 23, .t 26], some (22, false), []⟩, ⟨some 28, .pick, [.t 22, .k (.d (.bool true)), .t 27], none, []⟩] [28]) (.cond (.t 28) (.seq (.region false [⟨some 2,
  .mv, [.k (.d (.int .i64 4))], none, []⟩] [2]) .ret) .skip))) (.seq (.region false [⟨some 2, .mv, [.k (.d (.int .i64 0))], none, []⟩] [2]) .ret)))
def flashValidateRr : List RR := [.t 2]
theorem flashValidateC : compFn Try.prog 13 flashValidateH = some (flashValidateRc, flashValidateRr, 29) := by kernel_rfl
theorem flashValidateOK (a0 : TApiFlash) (res : Int) (h : flashValidate a0 = some res) : CallOK Try.prog 13 [.d (eTApiFlash a0)] [] (.d (eI res)) [] := by
  unfold flashValidate at h
  refine callOK flashValidateC fm rfl ?_
  simp only [initE, initM, nbor, List.map_cons, List.map_nil, Nat.reduceAdd]
  unfold flashValidateRc
  refine rwp_seq fun K1 hK1 => ?_
  refine rwp_region fun K2 hK2 => ?_
  refine st1 128 rfl (mem' := [(64, .var .mine [.d (eI a0.PageSize), .d ((eL 1 eU8) a0.Bytes)])]) (ok (bx (ps := [.d (eI a0.PageSize), .d ((eL 1 eU8) a0.Bytes)]) rfl rfl)) rfl ?_
  refine st0 192 rfl (ok (mv (.d (eI (0 : Int))))) ?_
  refine hK2 _ _ ?_
  simp only [thenK, blockK, keepE, updM, List.filter_cons, List.filter_nil, List.nil_append, List.cons_append, List.map_cons, List.map_nil, envE, Mem.get, Nat.reduceEqDiff, reduceIte, Option.isNone_none, Option.isNone_some, Bool.false_eq_true, List.length_cons, List.length_nil, Nat.reduceAdd, Nat.reduceMul]
  refine hK1 _ _ _ ?_
  refine rwp_seq fun K3 hK3 => ?_
  refine rwp_seq fun K4 hK4 => ?_
  refine rwp_region fun K5 hK5 => ?_
  refine st0 256 rfl (ok (fa_k 0 rfl)) ?_
  refine st0 320 rfl (ok (ld_v (v := .d (eI a0.PageSize)) rfl rfl rfl)) ?_
  obtain ⟨y6, h7, h⟩ := bind_inv h
  refine st0 384 rfl (call_ok (v := .d (eB y6)) (u := []) (ar_d (eI a0.PageSize) ar_nil) rfl (flashsizedOK a0.PageSize y6 h7) rfl) ?_
  refine st0 448 rfl (ok (notB _)) ?_
  refine hK5 _ _ ?_
  simp only [thenK, blockK, keepE, updM, List.filter_cons, List.filter_nil, List.nil_append, List.cons_append, List.map_cons, List.map_nil, envE, Mem.get, Nat.reduceEqDiff, reduceIte, Option.isNone_none, Option.isNone_some, Bool.false_eq_true, List.length_cons, List.length_nil, Nat.reduceAdd, Nat.reduceMul]
  refine hK4 _ _ _ ?_
  rcases Bool.eq_false_or_eq_true ((!y6)) with h8 | h8
  · replace h := ite_t h h8
    refine rwp_t (isT h8) ?_
    refine rwp_seq fun K9 hK9 => ?_
    refine rwp_region fun K10 hK10 => ?_
    refine st0 512 rfl (ok (mv (.d (eI (9 : Int))))) ?_
    refine hK10 _ _ ?_
    simp only [thenK, blockK, keepE, updM, List.filter_cons, List.filter_nil, List.nil_append, List.cons_append, List.map_cons, List.map_nil, envE, Mem.get, Nat.reduceEqDiff, reduceIte, Option.isNone_none, Option.isNone_some, Bool.false_eq_true, List.length_cons, List.length_nil, Nat.reduceAdd, Nat.reduceMul]
    refine hK9 _ _ _ ?_
    refine rwp_ret ?_
    obtain rfl := Option.some.inj h
    try simp only [thenK, blockK, reduceIte]
    exact Or.inl (end_ok trivial (rs_t (v := .d (eI (9 : Int))) rfl rs_nil) (en_d (to_d _) en_nil) ou_nil (by first | exact eok rfl rfl rfl rfl trivial | (refine eok ?_ ?_ ?_ ?_ ?_ <;> first | rfl | exact trivial | simp [retM, Mem.get, PV.renL, PV.ren, Blk.ren, comps, rhoR, rhoM, appN, PV.refsL, PV.refs, keys, nodupB, Blk.refs, allIn, Blk.bor])))
  · replace h := ite_f h h8
    refine rwp_f (isF h8) ?_
    refine rwp_skip ?_
    refine hK3 _ _ _ ?_
    refine rwp_seq fun K11 hK11 => ?_
    refine rwp_seq fun K12 hK12 => ?_
    refine rwp_region fun K13 hK13 => ?_
    refine st0 512 rfl (ok (fa_k 1 rfl)) ?_
    refine st0 576 rfl (ok (ld_v (v := .d ((eL 1 eU8) a0.Bytes)) rfl rfl rfl)) ?_
    refine st0 640 rfl (ok (lenL _ _)) ?_
    refine st0 704 rfl (ok (mv (.d (eI (a0.Bytes.length : Int))))) ?_
    refine hK13 _ _ ?_
    simp only [thenK, blockK, keepE, updM, List.filter_cons, List.filter_nil, List.nil_append, List.cons_append, List.map_cons, List.map_nil, envE, Mem.get, Nat.reduceEqDiff, reduceIte, Option.isNone_none, Option.isNone_some, Bool.false_eq_true, List.length_cons, List.length_nil, Nat.reduceAdd, Nat.reduceMul]
    refine hK12 _ _ _ ?_
    refine rwp_join ([], []) 1920 (fun env mem => ∃ (v14 : Bool), flashValidateJ1 v14 = some res ∧ env = [(28, .d (eB v14))] ∧ mem = []) (fun _ _ hI => ?_) (fun K15 hK15 => ?_)
    · obtain ⟨v14, h, rfl, rfl⟩ := hI
      unfold flashValidateJ1 at h
      rcases Bool.eq_false_or_eq_true (v14) with h16 | h16
      · replace h := ite_t h h16
        refine rwp_t (isT h16) ?_
        refine rwp_seq fun K17 hK17 => ?_
        refine rwp_region fun K18 hK18 => ?_
        refine st0 1984 rfl (ok (mv (.d (eI (4 : Int))))) ?_
        refine hK18 _ _ ?_
        simp only [thenK, blockK, keepE, updM, List.filter_cons, List.filter_nil, List.nil_append, List.cons_append, List.map_cons, List.map_nil, envE, Mem.get, Nat.reduceEqDiff, reduceIte, Option.isNone_none, Option.isNone_some, Bool.false_eq_true, List.length_cons, List.length_nil, Nat.reduceAdd, Nat.reduceMul]
        refine hK17 _ _ _ ?_
        refine rwp_ret ?_
        obtain rfl := Option.some.inj h
        try simp only [thenK, blockK, reduceIte]
        exact Or.inl (end_ok trivial (rs_t (v := .d (eI (4 : Int))) rfl rs_nil) (en_d (to_d _) en_nil) ou_nil (by first | exact eok rfl rfl rfl rfl trivial | (refine eok ?_ ?_ ?_ ?_ ?_ <;> first | rfl | exact trivial | simp [retM, Mem.get, PV.renL, PV.ren, Blk.ren, comps, rhoR, rhoM, appN, PV.refsL, PV.refs, keys, nodupB, Blk.refs, allIn, Blk.bor])))
      · replace h := ite_f h h16
        refine rwp_f (isF h16) ?_
        refine rwp_skip ?_
        refine hK11 _ _ _ ?_
        refine rwp_seq fun K19 hK19 => ?_
        refine rwp_region fun K20 hK20 => ?_
        refine st0 1984 rfl (ok (mv (.d (eI (0 : Int))))) ?_
        refine hK20 _ _ ?_
        simp only [thenK, blockK, keepE, updM, List.filter_cons, List.filter_nil, List.nil_append, List.cons_append, List.map_cons, List.map_nil, envE, Mem.get, Nat.reduceEqDiff, reduceIte, Option.isNone_none, Option.isNone_some, Bool.false_eq_true, List.length_cons, List.length_nil, Nat.reduceAdd, Nat.reduceMul]
        refine hK19 _ _ _ ?_
        refine rwp_ret ?_
        obtain rfl := Option.some.inj h
        try simp only [thenK, blockK, reduceIte]
        exact Or.inl (end_ok trivial (rs_t (v := .d (eI (0 : Int))) rfl rs_nil) (en_d (to_d _) en_nil) ou_nil (by first | exact eok rfl rfl rfl rfl trivial | (refine eok ?_ ?_ ?_ ?_ ?_ <;> first | rfl | exact trivial | simp [retM, Mem.get, PV.renL, PV.ren, Blk.ren, comps, rhoR, rhoM, appN, PV.refsL, PV.refs, keys, nodupB, Blk.refs, allIn, Blk.bor])))
    · refine rwp_region fun K21 hK21 => ?_
      refine st0 768 rfl (ok (mv (.d (eI (a0.Bytes.length : Int))))) ?_
      refine st0 832 rfl (ok (fa_k 0 rfl)) ?_
      refine st0 896 rfl (ok (ld_v (v := .d (eI a0.PageSize)) rfl rfl rfl)) ?_
      obtain ⟨h22, h⟩ := asq_inv h
      refine st0 960 rfl (ok (remI _ _ h22)) ?_
      refine st0 1024 rfl (ok (neqI _ (0 : Int))) ?_
      refine st0 1088 rfl (ok (mv (.d (eB (((a0.Bytes.length : Int).tmod a0.PageSize) != (0 : Int)))))) ?_
      rcases Bool.eq_false_or_eq_true ((((a0.Bytes.length : Int).tmod a0.PageSize) != (0 : Int))) with h23 | h23
      · replace h := ite_t h h23
        refine stGN 1152 rfl rfl h23 ?_
        refine stGN 1216 rfl rfl h23 ?_
        refine stGN 1280 rfl rfl h23 ?_
        refine stGN 1344 rfl rfl h23 ?_
        refine st0 1408 rfl (ok (pick_t h23 (.d (eB true)) _)) ?_
        refine st0 1472 rfl (ok (mv (.d (eB true)))) ?_
        refine stGN 1536 rfl rfl rfl ?_
        refine stGN 1600 rfl rfl rfl ?_
        refine stGN 1664 rfl rfl rfl ?_
        refine stGN 1728 rfl rfl rfl ?_
        refine stGN 1792 rfl rfl rfl ?_
        refine st0 1856 rfl (ok (pick_t rfl (.d (eB true)) _)) ?_
        refine hK21 _ _ ?_
        simp only [thenK, blockK, keepE, updM, List.filter_cons, List.filter_nil, List.nil_append, List.cons_append, List.map_cons, List.map_nil, envE, Mem.get, Nat.reduceEqDiff, reduceIte, Option.isNone_none, Option.isNone_some, Bool.false_eq_true, List.length_cons, List.length_nil, Nat.reduceAdd, Nat.reduceMul]
        exact hK15 _ _ _ ⟨_, _, Settled.refl, _, _, ⟨_, h, rfl, rfl⟩, ⟨rfl, ⟨⟨rfl, rfl⟩, trivial⟩, trivial⟩, rfl⟩
      · replace h := ite_f h h23
        refine stG (isF h23) ?_
        refine st0 1152 rfl (ok (mv (.d (eI (a0.Bytes.length : Int))))) ?_
        refine stG (isF h23) ?_
        refine st0 1216 rfl (ok (fa_k 0 rfl)) ?_
        refine stG (isF h23) ?_
        refine st0 1280 rfl (ok (ld_v (v := .d (eI a0.PageSize)) rfl rfl rfl)) ?_
        refine stG (isF h23) ?_
        refine st0 1344 rfl (ok (lssI _ _)) ?_
        refine st0 1408 rfl (ok (pick_f h23 _ (.d (eB (decide ((a0.Bytes.length : Int) < a0.PageSize)))))) ?_
        refine st0 1472 rfl (ok (mv (.d (eB (decide ((a0.Bytes.length : Int) < a0.PageSize)))))) ?_
        rcases Bool.eq_false_or_eq_true ((decide ((a0.Bytes.length : Int) < a0.PageSize))) with h24 | h24
        · replace h := ite_t h h24
          refine stGN 1536 rfl rfl h24 ?_
          refine stGN 1600 rfl rfl h24 ?_
          refine stGN 1664 rfl rfl h24 ?_
          refine stGN 1728 rfl rfl h24 ?_
          refine stGN 1792 rfl rfl h24 ?_
          refine st0 1856 rfl (ok (pick_t h24 (.d (eB true)) _)) ?_
          refine hK21 _ _ ?_
          simp only [thenK, blockK, keepE, updM, List.filter_cons, List.filter_nil, List.nil_append, List.cons_append, List.map_cons, List.map_nil, envE, Mem.get, Nat.reduceEqDiff, reduceIte, Option.isNone_none, Option.isNone_some, Bool.false_eq_true, List.length_cons, List.length_nil, Nat.reduceAdd, Nat.reduceMul]
          exact hK15 _ _ _ ⟨_, _, Settled.refl, _, _, ⟨_, h, rfl, rfl⟩, ⟨rfl, ⟨⟨rfl, rfl⟩, trivial⟩, trivial⟩, rfl⟩
        · replace h := ite_f h h24
          refine stG (isF h24) ?_
          refine st0 1536 rfl (ok (mv (.d (eI (a0.Bytes.length : Int))))) ?_
          refine stG (isF h24) ?_
          refine st0 1600 rfl (ok (fa_k 0 rfl)) ?_
          refine stG (isF h24) ?_
          refine st0 1664 rfl (ok (ld_v (v := .d (eI a0.PageSize)) rfl rfl rfl)) ?_
          refine stG (isF h24) ?_
          refine st0 1728 rfl (ok (mulI (8 : Int) _)) ?_
          refine stG (isF h24) ?_
          refine st0 1792 rfl (ok (gtrI _ _)) ?_
          refine st0 1856 rfl (ok (pick_f h24 _ (.d (eB (decide ((w64 ((8 : Int) * a0.PageSize)) < (a0.Bytes.length : Int))))))) ?_
          refine hK21 _ _ ?_
          simp only [thenK, blockK, keepE, updM, List.filter_cons, List.filter_nil, List.nil_append, List.cons_append, List.map_cons, List.map_nil, envE, Mem.get, Nat.reduceEqDiff, reduceIte, Option.isNone_none, Option.isNone_some, Bool.false_eq_true, List.length_cons, List.length_nil, Nat.reduceAdd, Nat.reduceMul]
          exact hK15 _ _ _ ⟨_, _, Settled.refl, _, _, ⟨_, h, rfl, rfl⟩, ⟨rfl, ⟨⟨rfl, rfl⟩, trivial⟩, trivial⟩, rfl⟩

/-- passkey/flash.place -/
def flashplaceH : Hints := ⟨[(0, [1, 2, 3, 4]), (1, [1, 2, 3, 4, 10]), (2, [1, 2, 3, 4, 10, 14]), (3, [8, 9]), (4, [1, 2, 4, 49]), (5, [8, 9]), (6, [8, 9])], []⟩
def flashplaceRc : RCode :=
  .seq (.region false [⟨some 4, .box, [.t 0], none, []⟩, ⟨some 8, .mv, [.k (.d (.int .i64 0))], none, []⟩, ⟨some 9, .mv, [.k (.d (.int .i64 0))], none, []⟩] [1, 2, 3, 4]) (.seq (.seq
  (.region false [⟨some 11, .load 2 true, [.t 4], none, []⟩, ⟨some 12, .call 13 false, [.t 11], none, []⟩, ⟨some 10, .mv, [.t 12], none, []⟩] [1, 2, 3, 4, 10]) (.seq (.region false
  [⟨some 13, .mv, [.t 10], none, []⟩, ⟨some 14, .bin .neq, [.t 13, .k (.d (.int .i64 0))], none, []⟩] [1, 2, 3, 4, 10, 14]) (.cond (.t 14) (.seq (.region false [⟨some 15, .mv, [.t
  10], none, []⟩, ⟨some 8, .mv, [.k (.d (.int .i64 0))], none, []⟩, ⟨some 9, .mv, [.t 15], none, []⟩] [8, 9]) .ret) .skip))) (.seq (.seq (.region false [⟨some 16, .mv, [.t 1],
  none, []⟩, ⟨some 17, .bin .lss, [.t 16, .k (.d (.int .i64 0))], none, []⟩, ⟨some 18, .mv, [.t 17], none, []⟩, ⟨some 19, .mv, [.t 1], some (18, false), []⟩, ⟨some 20, .fa 1, [.t
  4], some (18, false), []⟩, ⟨some 21, .load 1 false, [.t 20], some (18, false), []⟩, ⟨some 22, .len, [.t 21], some (18, false), []⟩, ⟨some 23, .fa 0, [.t 4], some (18, false),
  []⟩, ⟨some 24, .load 1 false, [.t 23], some (18, false), []⟩, ⟨some 25, .bin .quo, [.t 22, .t 24], some (18, false), []⟩, ⟨some 26, .bin .geq, [.t 19, .t 25], some (18, false),
  []⟩, ⟨some 27, .pick, [.t 18, .k (.d (.bool true)), .t 26], none, []⟩, ⟨some 28, .mv, [.t 27], none, []⟩, ⟨some 29, .mv, [.t 2], some (28, false), []⟩, ⟨some 30, .bin .lss, [.t
  29, .k (.d (.int .i64 0))], some (28, false), []⟩, ⟨some 31, .pick, [.t 28, .k (.d (.bool true)), .t 30], none, []⟩, ⟨some 32, .mv, [.t 31], none, []⟩, ⟨some 33, .mv, [.t 2],
  some (32, false), []⟩, ⟨some 34, .fa 0, [.t 4], some (32, false), []⟩, ⟨some 35, .load 1 false, [.t 34], some (32, false), []⟩, ⟨some 36, .bin .gtr, [.t 33, .t 35], some (32,
  false), []⟩, ⟨some 37, .pick, [.t 32, .k (.d (.bool true)), .t 36], none, []⟩, ⟨some 38, .mv, [.t 37], none, []⟩, ⟨some 39, .mv, [.t 3], some (38, false), []⟩, ⟨some 40, .bin
  .lss, [.t 39, .k (.d (.int .i64 0))], some (38, false), []⟩, ⟨some 41, .pick, [.t 38, .k (.d (.bool true)), .t 40], none, []⟩, ⟨some 42, .mv, [.t 41], none, []⟩, ⟨some 43, .mv,
  [.t 3], some (42, false), []⟩, ⟨some 44, .fa 0, [.t 4], some (42, false), []⟩, ⟨some 45, .load 1 false, [.t 44], some (42, false), []⟩, ⟨some 46, .mv, [.t 2], some (42, false),
  []⟩, ⟨some 47, .bin .sub, [.t 45, .t 46], some (42, false), []⟩, ⟨some 48, .bin .gtr, [.t 43, .t 47], some (42, false), []⟩, ⟨some 49, .pick, [.t 42, .k (.d (.bool true)), .t
  48], none, []⟩] [1, 2, 4, 49]) (.cond (.t 49) (.seq (.region false [⟨some 8, .mv, [.k (.d (.int .i64 0))], none, []⟩, ⟨some 9, .mv, [.k (.d (.int .i64 9))], none, []⟩] [8, 9])
  .ret) .skip)) (.seq (.region false [⟨some 50, .mv, [.t 1], none, []⟩, ⟨some 51, .fa 0, [.t 4], none, []⟩, ⟨some 52, .load 1 false, [.t 51], none, []⟩, ⟨some 53, .bin .mul, [.t
  50, .t 52], none, []⟩, ⟨some 54, .mv, [.t 2], none, []⟩, ⟨some 55, .bin .add, [.t 53, .t 54], none, []⟩, ⟨some 8, .mv, [.t 55], none, []⟩, ⟨some 9, .mv, [.k (.d (.int .i64 0))],
  none, []⟩] [8, 9]) .ret)))
def flashplaceRr : List RR := [.t 8, .t 9]
theorem flashplaceC : compFn Try.prog 23 flashplaceH = some (flashplaceRc, flashplaceRr, 56) := by kernel_rfl
theorem flashplaceOK (a0 : TApiFlash) (a1 : Int) (a2 : Int) (a3 : Int) (res : Int × Int) (h : flashplace a0 a1 a2 a3 = some res) : CallOK Try.prog 23 [.d (eTApiFlash a0), .d (eI a1), .d (eI a2), .d (eI a3)] [] (.tup [.d (eI res.1), .d (eI res.2)]) [] := by
  unfold flashplace at h
  refine callOK flashplaceC fm rfl ?_
  simp only [initE, initM, nbor, List.map_cons, List.map_nil, Nat.reduceAdd]
  unfold flashplaceRc
  refine rwp_seq fun K1 hK1 => ?_
  refine rwp_region fun K2 hK2 => ?_
  refine st1 128 rfl (mem' := [(64, .var .mine [.d (eI a0.PageSize), .d ((eL 1 eU8) a0.Bytes)])]) (ok (bx (ps := [.d (eI a0.PageSize), .d ((eL 1 eU8) a0.Bytes)]) rfl rfl)) rfl ?_
  refine st0 192 rfl (ok (mv (.d (eI (0 : Int))))) ?_
  refine st0 256 rfl (ok (mv (.d (eI (0 : Int))))) ?_
  refine hK2 _ _ ?_
  simp only [thenK, blockK, keepE, updM, List.filter_cons, List.filter_nil, List.nil_append, List.cons_append, List.map_cons, List.map_nil, envE, Mem.get, Nat.reduceEqDiff, reduceIte, Option.isNone_none, Option.isNone_some, Bool.false_eq_true, List.length_cons, List.length_nil, Nat.reduceAdd, Nat.reduceMul]
  refine hK1 _ _ _ ?_
  refine rwp_seq fun K3 hK3 => ?_
  refine rwp_seq fun K4 hK4 => ?_
  refine rwp_region fun K5 hK5 => ?_
  refine st0 320 rfl (ok (ld_v (v := .d (.agg [eI a0.PageSize, (eL 1 eU8) a0.Bytes])) rfl rfl rfl)) ?_
  obtain ⟨y6, h7, h⟩ := bind_inv h
  refine st0 384 rfl (call_ok (v := .d (eI y6)) (u := []) (ar_d (eTApiFlash (TApiFlash.mk a0.PageSize a0.Bytes)) ar_nil) rfl (flashValidateOK (TApiFlash.mk a0.PageSize a0.Bytes) y6 h7) rfl) ?_
  refine st0 448 rfl (ok (mv (.d (eI y6)))) ?_
  refine hK5 _ _ ?_
  simp only [thenK, blockK, keepE, updM, List.filter_cons, List.filter_nil, List.nil_append, List.cons_append, List.map_cons, List.map_nil, envE, Mem.get, Nat.reduceEqDiff, reduceIte, Option.isNone_none, Option.isNone_some, Bool.false_eq_true, List.length_cons, List.length_nil, Nat.reduceAdd, Nat.reduceMul]
  refine hK4 _ _ _ ?_
  refine rwp_seq fun K8 hK8 => ?_
  refine rwp_region fun K9 hK9 => ?_
  refine st0 512 rfl (ok (mv (.d (eI y6)))) ?_
  refine st0 576 rfl (ok (neqI _ (0 : Int))) ?_
  refine hK9 _ _ ?_
  simp only [thenK, blockK, keepE, updM, List.filter_cons, List.filter_nil, List.nil_append, List.cons_append, List.map_cons, List.map_nil, envE, Mem.get, Nat.reduceEqDiff, reduceIte, Option.isNone_none, Option.isNone_some, Bool.false_eq_true, List.length_cons, List.length_nil, Nat.reduceAdd, Nat.reduceMul]
  refine hK8 _ _ _ ?_
  rcases Bool.eq_false_or_eq_true ((y6 != (0 : Int))) with h10 | h10
  · replace h := ite_t h h10
    refine rwp_t (isT h10) ?_
    refine rwp_seq fun K11 hK11 => ?_
    refine rwp_region fun K12 hK12 => ?_
    refine st0 640 rfl (ok (mv (.d (eI y6)))) ?_
    refine st0 704 rfl (ok (mv (.d (eI (0 : Int))))) ?_
    refine st0 768 rfl (ok (mv (.d (eI y6)))) ?_
    refine hK12 _ _ ?_
    simp only [thenK, blockK, keepE, updM, List.filter_cons, List.filter_nil, List.nil_append, List.cons_append, List.map_cons, List.map_nil, envE, Mem.get, Nat.reduceEqDiff, reduceIte, Option.isNone_none, Option.isNone_some, Bool.false_eq_true, List.length_cons, List.length_nil, Nat.reduceAdd, Nat.reduceMul]
    refine hK11 _ _ _ ?_
    refine rwp_ret ?_
    obtain rfl := Option.some.inj h
    try simp only [thenK, blockK, reduceIte]
    exact Or.inl (end_ok trivial (rs_t (v := .d (eI (0 : Int))) rfl (rs_t (v := .d (eI y6)) rfl rs_nil)) (en_d (to_d _) (en_d (to_d _) en_nil)) ou_nil (by first | exact eok rfl rfl rfl rfl trivial | (refine eok ?_ ?_ ?_ ?_ ?_ <;> first | rfl | exact trivial | simp [retM, Mem.get, PV.renL, PV.ren, Blk.ren, comps, rhoR, rhoM, appN, PV.refsL, PV.refs, keys, nodupB, Blk.refs, allIn, Blk.bor])))
  · replace h := ite_f h h10
    refine rwp_f (isF h10) ?_
    refine rwp_skip ?_
    refine hK3 _ _ _ ?_
    refine rwp_seq fun K13 hK13 => ?_
    refine rwp_join ([], []) 2816 (fun env mem => ∃ (v14 : Bool), flashplaceJ1 a0 a1 a2 v14 = some res ∧ env = [(1, .d (eI a1)), (2, .d (eI a2)), (4, .ptr 64 0), (49, .d (eB v14))] ∧ mem = [(64, .var .mine [.d (eI a0.PageSize), .d ((eL 1 eU8) a0.Bytes)])]) (fun _ _ hI => ?_) (fun K15 hK15 => ?_)
    · obtain ⟨v14, h, rfl, rfl⟩ := hI
      unfold flashplaceJ1 at h
      rcases Bool.eq_false_or_eq_true (v14) with h16 | h16
      · replace h := ite_t h h16
        refine rwp_t (isT h16) ?_
        refine rwp_seq fun K17 hK17 => ?_
        refine rwp_region fun K18 hK18 => ?_
        refine st0 2880 rfl (ok (mv (.d (eI (0 : Int))))) ?_
        refine st0 2944 rfl (ok (mv (.d (eI (9 : Int))))) ?_
        refine hK18 _ _ ?_
        simp only [thenK, blockK, keepE, updM, List.filter_cons, List.filter_nil, List.nil_append, List.cons_append, List.map_cons, List.map_nil, envE, Mem.get, Nat.reduceEqDiff, reduceIte, Option.isNone_none, Option.isNone_some, Bool.false_eq_true, List.length_cons, List.length_nil, Nat.reduceAdd, Nat.reduceMul]
        refine hK17 _ _ _ ?_
        refine rwp_ret ?_
        obtain rfl := Option.some.inj h
        try simp only [thenK, blockK, reduceIte]
        exact Or.inl (end_ok trivial (rs_t (v := .d (eI (0 : Int))) rfl (rs_t (v := .d (eI (9 : Int))) rfl rs_nil)) (en_d (to_d _) (en_d (to_d _) en_nil)) ou_nil (by first | exact eok rfl rfl rfl rfl trivial | (refine eok ?_ ?_ ?_ ?_ ?_ <;> first | rfl | exact trivial | simp [retM, Mem.get, PV.renL, PV.ren, Blk.ren, comps, rhoR, rhoM, appN, PV.refsL, PV.refs, keys, nodupB, Blk.refs, allIn, Blk.bor])))
      · replace h := ite_f h h16
        refine rwp_f (isF h16) ?_
        refine rwp_skip ?_
        refine hK13 _ _ _ ?_
        refine rwp_seq fun K19 hK19 => ?_
        refine rwp_region fun K20 hK20 => ?_
        refine st0 2880 rfl (ok (mv (.d (eI a1)))) ?_
        refine st0 2944 rfl (ok (fa_k 0 rfl)) ?_
        refine st0 3008 rfl (ok (ld_v (v := .d (eI a0.PageSize)) rfl rfl rfl)) ?_
        refine st0 3072 rfl (ok (mulI _ _)) ?_
        refine st0 3136 rfl (ok (mv (.d (eI a2)))) ?_
        refine st0 3200 rfl (ok (addI _ _)) ?_
        refine st0 3264 rfl (ok (mv (.d (eI (w64 ((w64 (a1 * a0.PageSize)) + a2)))))) ?_
        refine st0 3328 rfl (ok (mv (.d (eI (0 : Int))))) ?_
        refine hK20 _ _ ?_
        simp only [thenK, blockK, keepE, updM, List.filter_cons, List.filter_nil, List.nil_append, List.cons_append, List.map_cons, List.map_nil, envE, Mem.get, Nat.reduceEqDiff, reduceIte, Option.isNone_none, Option.isNone_some, Bool.false_eq_true, List.length_cons, List.length_nil, Nat.reduceAdd, Nat.reduceMul]
        refine hK19 _ _ _ ?_
        refine rwp_ret ?_
        obtain rfl := Option.some.inj h
        try simp only [thenK, blockK, reduceIte]
        exact Or.inl (end_ok trivial (rs_t (v := .d (eI (w64 ((w64 (a1 * a0.PageSize)) + a2)))) rfl (rs_t (v := .d (eI (0 : Int))) rfl rs_nil)) (en_d (to_d _) (en_d (to_d _) en_nil)) ou_nil (by first | exact eok rfl rfl rfl rfl trivial | (refine eok ?_ ?_ ?_ ?_ ?_ <;> first | rfl | exact trivial | simp [retM, Mem.get, PV.renL, PV.ren, Blk.ren, comps, rhoR, rhoM, appN, PV.refsL, PV.refs, keys, nodupB, Blk.refs, allIn, Blk.bor])))
    · refine rwp_region fun K21 hK21 => ?_
      refine st0 640 rfl (ok (mv (.d (eI a1)))) ?_
      refine st0 704 rfl (ok (lssI _ (0 : Int))) ?_
      refine st0 768 rfl (ok (mv (.d (eB (decide (a1 < (0 : Int))))))) ?_
      rcases Bool.eq_false_or_eq_true ((decide (a1 < (0 : Int)))) with h22 | h22
      · replace h := ite_t h h22
        refine stGN 832 rfl rfl h22 ?_
        refine stGN 896 rfl rfl h22 ?_
        refine stGN 960 rfl rfl h22 ?_
        refine stGN 1024 rfl rfl h22 ?_
        refine stGN 1088 rfl rfl h22 ?_
        refine stGN 1152 rfl rfl h22 ?_
        refine stGN 1216 rfl rfl h22 ?_
        refine stGN 1280 rfl rfl h22 ?_
        refine st0 1344 rfl (ok (pick_t h22 (.d (eB true)) _)) ?_
        refine st0 1408 rfl (ok (mv (.d (eB true)))) ?_
        refine stGN 1472 rfl rfl rfl ?_
        refine stGN 1536 rfl rfl rfl ?_
        refine st0 1600 rfl (ok (pick_t rfl (.d (eB true)) _)) ?_
        refine st0 1664 rfl (ok (mv (.d (eB true)))) ?_
        refine stGN 1728 rfl rfl rfl ?_
        refine stGN 1792 rfl rfl rfl ?_
        refine stGN 1856 rfl rfl rfl ?_
        refine stGN 1920 rfl rfl rfl ?_
        refine st0 1984 rfl (ok (pick_t rfl (.d (eB true)) _)) ?_
        refine st0 2048 rfl (ok (mv (.d (eB true)))) ?_
        refine stGN 2112 rfl rfl rfl ?_
        refine stGN 2176 rfl rfl rfl ?_
        refine st0 2240 rfl (ok (pick_t rfl (.d (eB true)) _)) ?_
        refine st0 2304 rfl (ok (mv (.d (eB true)))) ?_
        refine stGN 2368 rfl rfl rfl ?_
        refine stGN 2432 rfl rfl rfl ?_
        refine stGN 2496 rfl rfl rfl ?_
        refine stGN 2560 rfl rfl rfl ?_
        refine stGN 2624 rfl rfl rfl ?_
        refine stGN 2688 rfl rfl rfl ?_
        refine st0 2752 rfl (ok (pick_t rfl (.d (eB true)) _)) ?_
        refine hK21 _ _ ?_
        simp only [thenK, blockK, keepE, updM, List.filter_cons, List.filter_nil, List.nil_append, List.cons_append, List.map_cons, List.map_nil, envE, Mem.get, Nat.reduceEqDiff, reduceIte, Option.isNone_none, Option.isNone_some, Bool.false_eq_true, List.length_cons, List.length_nil, Nat.reduceAdd, Nat.reduceMul]
        exact hK15 _ _ _ ⟨_, _, Settled.refl, _, _, ⟨_, h, rfl, rfl⟩, ⟨rfl, ⟨⟨rfl, rfl⟩, ⟨⟨rfl, rfl⟩, ⟨⟨rfl, rfl⟩, ⟨⟨rfl, rfl⟩, trivial⟩⟩⟩⟩, ⟨⟨rfl, rfl⟩, trivial⟩⟩, rfl⟩
      · replace h := ite_f h h22
        refine stG (isF h22) ?_
        refine st0 832 rfl (ok (mv (.d (eI a1)))) ?_
        refine stG (isF h22) ?_
        refine st0 896 rfl (ok (fa_k 1 rfl)) ?_
        refine stG (isF h22) ?_
        refine st0 960 rfl (ok (ld_v (v := .d ((eL 1 eU8) a0.Bytes)) rfl rfl rfl)) ?_
        refine stG (isF h22) ?_
        refine st0 1024 rfl (ok (lenL _ _)) ?_
        refine stG (isF h22) ?_
        refine st0 1088 rfl (ok (fa_k 0 rfl)) ?_
        refine stG (isF h22) ?_
        refine st0 1152 rfl (ok (ld_v (v := .d (eI a0.PageSize)) rfl rfl rfl)) ?_
        refine stG (isF h22) ?_
        obtain ⟨h23, h⟩ := asq_inv h
        refine st0 1216 rfl (ok (quoI _ _ h23)) ?_
        refine stG (isF h22) ?_
        refine st0 1280 rfl (ok (geqI _ _)) ?_
        refine st0 1344 rfl (ok (pick_f h22 _ (.d (eB (decide ((w64 ((a0.Bytes.length : Int).tdiv a0.PageSize)) ≤ a1)))))) ?_
        refine st0 1408 rfl (ok (mv (.d (eB (decide ((w64 ((a0.Bytes.length : Int).tdiv a0.PageSize)) ≤ a1)))))) ?_
        rcases Bool.eq_false_or_eq_true ((decide ((w64 ((a0.Bytes.length : Int).tdiv a0.PageSize)) ≤ a1))) with h24 | h24
        · replace h := ite_t h h24
          refine stGN 1472 rfl rfl h24 ?_
          refine stGN 1536 rfl rfl h24 ?_
          refine st0 1600 rfl (ok (pick_t h24 (.d (eB true)) _)) ?_
          refine st0 1664 rfl (ok (mv (.d (eB true)))) ?_
          refine stGN 1728 rfl rfl rfl ?_
          refine stGN 1792 rfl rfl rfl ?_
          refine stGN 1856 rfl rfl rfl ?_
          refine stGN 1920 rfl rfl rfl ?_
          refine st0 1984 rfl (ok (pick_t rfl (.d (eB true)) _)) ?_
          refine st0 2048 rfl (ok (mv (.d (eB true)))) ?_
          refine stGN 2112 rfl rfl rfl ?_
          refine stGN 2176 rfl rfl rfl ?_
          refine st0 2240 rfl (ok (pick_t rfl (.d (eB true)) _)) ?_
          refine st0 2304 rfl (ok (mv (.d (eB true)))) ?_
          refine stGN 2368 rfl rfl rfl ?_
          refine stGN 2432 rfl rfl rfl ?_
          refine stGN 2496 rfl rfl rfl ?_
          refine stGN 2560 rfl rfl rfl ?_
          refine stGN 2624 rfl rfl rfl ?_
          refine stGN 2688 rfl rfl rfl ?_
          refine st0 2752 rfl (ok (pick_t rfl (.d (eB true)) _)) ?_
          refine hK21 _ _ ?_
          simp only [thenK, blockK, keepE, updM, List.filter_cons, List.filter_nil, List.nil_append, List.cons_append, List.map_cons, List.map_nil, envE, Mem.get, Nat.reduceEqDiff, reduceIte, Option.isNone_none, Option.isNone_some, Bool.false_eq_true, List.length_cons, List.length_nil, Nat.reduceAdd, Nat.reduceMul]
          exact hK15 _ _ _ ⟨_, _, Settled.refl, _, _, ⟨_, h, rfl, rfl⟩, ⟨rfl, ⟨⟨rfl, rfl⟩, ⟨⟨rfl, rfl⟩, ⟨⟨rfl, rfl⟩, ⟨⟨rfl, rfl⟩, trivial⟩⟩⟩⟩, ⟨⟨rfl, rfl⟩, trivial⟩⟩, rfl⟩
        · replace h := ite_f h h24
          refine stG (isF h24) ?_
          refine st0 1472 rfl (ok (mv (.d (eI a2)))) ?_
          refine stG (isF h24) ?_
          refine st0 1536 rfl (ok (lssI _ (0 : Int))) ?_
          refine st0 1600 rfl (ok (pick_f h24 _ (.d (eB (decide (a2 < (0 : Int))))))) ?_
          refine st0 1664 rfl (ok (mv (.d (eB (decide (a2 < (0 : Int))))))) ?_
          rcases Bool.eq_false_or_eq_true ((decide (a2 < (0 : Int)))) with h25 | h25
          · replace h := ite_t h h25
            refine stGN 1728 rfl rfl h25 ?_
            refine stGN 1792 rfl rfl h25 ?_
            refine stGN 1856 rfl rfl h25 ?_
            refine stGN 1920 rfl rfl h25 ?_
            refine st0 1984 rfl (ok (pick_t h25 (.d (eB true)) _)) ?_
            refine st0 2048 rfl (ok (mv (.d (eB true)))) ?_
            refine stGN 2112 rfl rfl rfl ?_
            refine stGN 2176 rfl rfl rfl ?_
            refine st0 2240 rfl (ok (pick_t rfl (.d (eB true)) _)) ?_
            refine st0 2304 rfl (ok (mv (.d (eB true)))) ?_
            refine stGN 2368 rfl rfl rfl ?_
            refine stGN 2432 rfl rfl rfl ?_
            refine stGN 2496 rfl rfl rfl ?_
            refine stGN 2560 rfl rfl rfl ?_
            refine stGN 2624 rfl rfl rfl ?_
            refine stGN 2688 rfl rfl rfl ?_
            refine st0 2752 rfl (ok (pick_t rfl (.d (eB true)) _)) ?_
            refine hK21 _ _ ?_
            simp only [thenK, blockK, keepE, updM, List.filter_cons, List.filter_nil, List.nil_append, List.cons_append, List.map_cons, List.map_nil, envE, Mem.get, Nat.reduceEqDiff, reduceIte, Option.isNone_none, Option.isNone_some, Bool.false_eq_true, List.length_cons, List.length_nil, Nat.reduceAdd, Nat.reduceMul]
            exact hK15 _ _ _ ⟨_, _, Settled.refl, _, _, ⟨_, h, rfl, rfl⟩, ⟨rfl, ⟨⟨rfl, rfl⟩, ⟨⟨rfl, rfl⟩, ⟨⟨rfl, rfl⟩, ⟨⟨rfl, rfl⟩, trivial⟩⟩⟩⟩, ⟨⟨rfl, rfl⟩, trivial⟩⟩, rfl⟩
          · replace h := ite_f h h25
            refine stG (isF h25) ?_
            refine st0 1728 rfl (ok (mv (.d (eI a2)))) ?_
            refine stG (isF h25) ?_
            refine st0 1792 rfl (ok (fa_k 0 rfl)) ?_
            refine stG (isF h25) ?_
            refine st0 1856 rfl (ok (ld_v (v := .d (eI a0.PageSize)) rfl rfl rfl)) ?_
            refine stG (isF h25) ?_
            refine st0 1920 rfl (ok (gtrI _ _)) ?_
            refine st0 1984 rfl (ok (pick_f h25 _ (.d (eB (decide (a0.PageSize < a2)))))) ?_
            refine st0 2048 rfl (ok (mv (.d (eB (decide (a0.PageSize < a2)))))) ?_
            rcases Bool.eq_false_or_eq_true ((decide (a0.PageSize < a2))) with h26 | h26
            · replace h := ite_t h h26
              refine stGN 2112 rfl rfl h26 ?_
              refine stGN 2176 rfl rfl h26 ?_
              refine st0 2240 rfl (ok (pick_t h26 (.d (eB true)) _)) ?_
              refine st0 2304 rfl (ok (mv (.d (eB true)))) ?_
              refine stGN 2368 rfl rfl rfl ?_
              refine stGN 2432 rfl rfl rfl ?_
              refine stGN 2496 rfl rfl rfl ?_
              refine stGN 2560 rfl rfl rfl ?_
              refine stGN 2624 rfl rfl rfl ?_
              refine stGN 2688 rfl rfl rfl ?_
              refine st0 2752 rfl (ok (pick_t rfl (.d (eB true)) _)) ?_
              refine hK21 _ _ ?_
              simp only [thenK, blockK, keepE, updM, List.filter_cons, List.filter_nil, List.nil_append, List.cons_append, List.map_cons, List.map_nil, envE, Mem.get, Nat.reduceEqDiff, reduceIte, Option.isNone_none, Option.isNone_some, Bool.false_eq_true, List.length_cons, List.length_nil, Nat.reduceAdd, Nat.reduceMul]
              exact hK15 _ _ _ ⟨_, _, Settled.refl, _, _, ⟨_, h, rfl, rfl⟩, ⟨rfl, ⟨⟨rfl, rfl⟩, ⟨⟨rfl, rfl⟩, ⟨⟨rfl, rfl⟩, ⟨⟨rfl, rfl⟩, trivial⟩⟩⟩⟩, ⟨⟨rfl, rfl⟩, trivial⟩⟩, rfl⟩
            · replace h := ite_f h h26
              refine stG (isF h26) ?_
              refine st0 2112 rfl (ok (mv (.d (eI a3)))) ?_
              refine stG (isF h26) ?_
              refine st0 2176 rfl (ok (lssI _ (0 : Int))) ?_
              refine st0 2240 rfl (ok (pick_f h26 _ (.d (eB (decide (a3 < (0 : Int))))))) ?_
              refine st0 2304 rfl (ok (mv (.d (eB (decide (a3 < (0 : Int))))))) ?_
              rcases Bool.eq_false_or_eq_true ((decide (a3 < (0 : Int)))) with h27 | h27
              · replace h := ite_t h h27
                refine stGN 2368 rfl rfl h27 ?_
                refine stGN 2432 rfl rfl h27 ?_
                refine stGN 2496 rfl rfl h27 ?_
                refine stGN 2560 rfl rfl h27 ?_
                refine stGN 2624 rfl rfl h27 ?_
                refine stGN 2688 rfl rfl h27 ?_
                refine st0 2752 rfl (ok (pick_t h27 (.d (eB true)) _)) ?_
                refine hK21 _ _ ?_
                simp only [thenK, blockK, keepE, updM, List.filter_cons, List.filter_nil, List.nil_append, List.cons_append, List.map_cons, List.map_nil, envE, Mem.get, Nat.reduceEqDiff, reduceIte, Option.isNone_none, Option.isNone_some, Bool.false_eq_true, List.length_cons, List.length_nil, Nat.reduceAdd, Nat.reduceMul]
                exact hK15 _ _ _ ⟨_, _, Settled.refl, _, _, ⟨_, h, rfl, rfl⟩, ⟨rfl, ⟨⟨rfl, rfl⟩, ⟨⟨rfl, rfl⟩, ⟨⟨rfl, rfl⟩, ⟨⟨rfl, rfl⟩, trivial⟩⟩⟩⟩, ⟨⟨rfl, rfl⟩, trivial⟩⟩, rfl⟩
              · replace h := ite_f h h27
                refine stG (isF h27) ?_
                refine st0 2368 rfl (ok (mv (.d (eI a3)))) ?_
                refine stG (isF h27) ?_
                refine st0 2432 rfl (ok (fa_k 0 rfl)) ?_
                refine stG (isF h27) ?_
                refine st0 2496 rfl (ok (ld_v (v := .d (eI a0.PageSize)) rfl rfl rfl)) ?_
                refine stG (isF h27) ?_
                refine st0 2560 rfl (ok (mv (.d (eI a2)))) ?_
                refine stG (isF h27) ?_
                refine st0 2624 rfl (ok (subI _ _)) ?_
                refine stG (isF h27) ?_
                refine st0 2688 rfl (ok (gtrI _ _)) ?_
                refine st0 2752 rfl (ok (pick_f h27 _ (.d (eB (decide ((w64 (a0.PageSize - a2)) < a3)))))) ?_
                refine hK21 _ _ ?_
                simp only [thenK, blockK, keepE, updM, List.filter_cons, List.filter_nil, List.nil_append, List.cons_append, List.map_cons, List.map_nil, envE, Mem.get, Nat.reduceEqDiff, reduceIte, Option.isNone_none, Option.isNone_some, Bool.false_eq_true, List.length_cons, List.length_nil, Nat.reduceAdd, Nat.reduceMul]
                exact hK15 _ _ _ ⟨_, _, Settled.refl, _, _, ⟨_, h, rfl, rfl⟩, ⟨rfl, ⟨⟨rfl, rfl⟩, ⟨⟨rfl, rfl⟩, ⟨⟨rfl, rfl⟩, ⟨⟨rfl, rfl⟩, trivial⟩⟩⟩⟩, ⟨⟨rfl, rfl⟩, trivial⟩⟩, rfl⟩

end Go.Proofs.Ty
