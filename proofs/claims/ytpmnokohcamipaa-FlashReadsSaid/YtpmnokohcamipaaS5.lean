/- Each Go function comes to what its plain function says. PRINTED by a program of this session (ty.py). -/
import Derived.Test.YtpmnokohcamipaaS4
set_option linter.unusedVariables false
set_option linter.unusedSimpArgs false
set_option maxHeartbeats 4000000
set_option maxRecDepth 10000
namespace Go.Proofs.Ty
open Go Go.RW Go.Proofs
theorem passkeyref7NewFlashOwnOK (a0 : Int) (a1 : Int) (res : TApiFlash × Int) (h : passkeyref7NewFlashOwn a0 a1 = some res) : CallOK Try.prog 11 [.d (eI a0), .d (eI a1)] [] (.tup [.agg [.d (eI res.1.PageSize), .ref 9 res.1.Bytes.length 0 res.1.Bytes.length], .d (eI res.2)]) [(9, .row true 1 (res.1.Bytes.map eU8))] := by
  unfold passkeyref7NewFlashOwn at h
  refine callOK passkeyref7NewFlashC fm rfl ?_
  simp only [initE, initM, nbor, List.map_cons, List.map_nil, Nat.reduceAdd]
  unfold passkeyref7NewFlashRc
  refine rwp_seq fun K1 hK1 => ?_
  refine rwp_region fun K2 hK2 => ?_
  refine st1 128 rfl (mem' := [(64, .var .mine [.d (eI (0 : Int)), .nil 1])]) (ok (alc (zs := [.d (eI (0 : Int)), .nil 1]))) rfl ?_
  refine st0 192 rfl (ok (mv (.d (eI (0 : Int))))) ?_
  refine hK2 _ _ ?_
  simp only [thenK, blockK, keepE, updM, List.filter_cons, List.filter_nil, List.nil_append, List.cons_append, List.map_cons, List.map_nil, envE, Mem.get, Nat.reduceEqDiff, reduceIte, Option.isNone_none, Option.isNone_some, Bool.false_eq_true, List.length_cons, List.length_nil, Nat.reduceAdd, Nat.reduceMul]
  refine hK1 _ _ _ ?_
  refine rwp_seq fun K3 hK3 => ?_
  refine rwp_join ([], []) 1152 (fun env mem => ∃ (v4 : Bool), passkeyref7NewFlashOwnJ1 a0 a1 v4 = some res ∧ env = [(0, .d (eI a0)), (1, .d (eI a1)), (4, .ptr 64 0), (21, .d (eB v4))] ∧ mem = [(64, .var .mine [.d (eI (0 : Int)), .nil 1])]) (fun _ _ hI => ?_) (fun K5 hK5 => ?_)
  · obtain ⟨v4, h, rfl, rfl⟩ := hI
    unfold passkeyref7NewFlashOwnJ1 at h
    rcases Bool.eq_false_or_eq_true (v4) with h6 | h6
    · replace h := ite_t h h6
      refine rwp_t (isT h6) ?_
      refine rwp_seq fun K7 hK7 => ?_
      refine rwp_region fun K8 hK8 => ?_
      refine st0 1216 rfl (ok (bld (v := .agg [.d (eI (0 : Int)), .nil 1]) rfl rfl)) ?_
      refine stn 1280 rfl (mem' := [(64, .var .mine [.d (eI (0 : Int)), .nil 1])]) (ok (sto_v (ps' := [.d (eI (0 : Int)), .nil 1]) rfl rfl rfl rfl)) rfl ?_
      refine st0 1344 rfl (ok (mv (.d (eI (9 : Int))))) ?_
      refine hK8 _ _ ?_
      simp only [thenK, blockK, keepE, updM, List.filter_cons, List.filter_nil, List.nil_append, List.cons_append, List.map_cons, List.map_nil, envE, Mem.get, Nat.reduceEqDiff, reduceIte, Option.isNone_none, Option.isNone_some, Bool.false_eq_true, List.length_cons, List.length_nil, Nat.reduceAdd, Nat.reduceMul]
      refine hK7 _ _ _ ?_
      refine rwp_ret ?_
      simp at h
    · replace h := ite_f h h6
      refine rwp_f (isF h6) ?_
      refine rwp_skip ?_
      refine hK3 _ _ _ ?_
      refine rwp_seq fun K9 hK9 => ?_
      refine rwp_region fun K10 hK10 => ?_
      refine st0 1216 rfl (ok (mv (.d (eI a0)))) ?_
      refine st0 1280 rfl (ok (bld (v := .agg [.d (eI a0), .nil 1]) rfl rfl)) ?_
      refine st1 1344 rfl (mem' := [(1280, .var .mine [.d (eI (0 : Int)), .nil 1]), (64, .var .mine [.d (eI (0 : Int)), .nil 1])]) (ok (alc (zs := [.d (eI (0 : Int)), .nil 1]))) rfl ?_
      refine stn 1408 rfl (mem' := [(1280, .var .mine [.d (eI a0), .nil 1]), (64, .var .mine [.d (eI (0 : Int)), .nil 1])]) (ok (sto_v (ps' := [.d (eI a0), .nil 1]) rfl rfl rfl rfl)) rfl ?_
      refine hK10 _ _ ?_
      simp only [thenK, blockK, keepE, updM, List.filter_cons, List.filter_nil, List.nil_append, List.cons_append, List.map_cons, List.map_nil, envE, Mem.get, Nat.reduceEqDiff, reduceIte, Option.isNone_none, Option.isNone_some, Bool.false_eq_true, List.length_cons, List.length_nil, Nat.reduceAdd, Nat.reduceMul]
      refine hK9 _ _ _ ?_
      refine rwp_join ([], []) 2944 (fun env mem => ∃ (v11 : List (BitVec 8)), passkeyref7NewFlashOwnJ2 a0 v11 = some res ∧ env = [(4, .ptr 64 0), (6, .ptr 1280 0)] ∧ mem = [(64, .var .mine [.d (eI (0 : Int)), .nil 1]), (1280, .var .mine [.d (eI a0), .ref 2497 v11.length 0 v11.length]), (2497, .row true 1 (v11.map eU8))]) (fun _ _ hI => ?_) (fun K12 hK12 => ?_)
      · obtain ⟨v11, h, rfl, rfl⟩ := hI
        unfold passkeyref7NewFlashOwnJ2 at h
        refine rwp_seq fun K13 hK13 => ?_
        refine rwp_region fun K14 hK14 => ?_
        refine st0 3008 rfl (ok (ld_v (v := .agg [.d (eI a0), .ref 2497 v11.length 0 v11.length]) rfl rfl rfl)) ?_
        refine stn 3072 rfl (mem' := [(64, .var .mine [.d (eI a0), .ref 2497 v11.length 0 v11.length]), (1280, .var .mine [.d (eI a0), .ref 2497 v11.length 0 v11.length]), (2497, .row true 1 (v11.map eU8))]) (ok (sto_v (ps' := [.d (eI a0), .ref 2497 v11.length 0 v11.length]) rfl rfl rfl rfl)) rfl ?_
        refine st0 3136 rfl (ok (mv (.d (eI (0 : Int))))) ?_
        refine hK14 _ _ ?_
        simp only [thenK, blockK, keepE, updM, List.filter_cons, List.filter_nil, List.nil_append, List.cons_append, List.map_cons, List.map_nil, envE, Mem.get, Nat.reduceEqDiff, reduceIte, Option.isNone_none, Option.isNone_some, Bool.false_eq_true, List.length_cons, List.length_nil, Nat.reduceAdd, Nat.reduceMul]
        refine hK13 _ _ _ ?_
        refine rwp_ret ?_
        obtain rfl := Option.some.inj h
        try simp only [thenK, blockK, reduceIte]
        exact end_ok trivial (rs_c (id := 64) (off := 0) (v := .agg [.d (eI a0), .ref 2497 v11.length 0 v11.length]) rfl rfl rfl rfl (rs_t (v := .d (eI (0 : Int))) rfl rs_nil)) (en_agg (en_d (to_d _) en_nil)) ou_nil (by first | exact eok rfl rfl rfl rfl (And.intro (And.intro rfl rfl) trivial) | (refine eok ?_ ?_ ?_ ?_ ?_ <;> first | rfl | exact (And.intro (And.intro rfl rfl) trivial) | simp [retM, Mem.get, PV.renL, PV.ren, Blk.ren, comps, rhoR, rhoM, appN, PV.refsL, PV.refs, keys, nodupB, Blk.refs, allIn, Blk.bor]))
      · refine rwp_seq fun K15 hK15 => ?_
        refine rwp_region fun K16 hK16 => ?_
        refine st0 1472 rfl (ok (mv (.d (eI (0 : Int))))) ?_
        refine hK16 _ _ ?_
        simp only [thenK, blockK, keepE, updM, List.filter_cons, List.filter_nil, List.nil_append, List.cons_append, List.map_cons, List.map_nil, envE, Mem.get, Nat.reduceEqDiff, reduceIte, Option.isNone_none, Option.isNone_some, Bool.false_eq_true, List.length_cons, List.length_nil, Nat.reduceAdd, Nat.reduceMul]
        refine hK15 _ _ _ ?_
        refine rwp_block fun K17 hK17 => ?_
        refine rwp_loop ([], [(1280, 1, 2497)]) 2560 (fun k env mem => ∃ (v18 : List (BitVec 8)) (v19 : Int), passkeyref7NewFlashOwnL3 a0 a1 k v18 v19 = some res ∧ env = [(0, .d (eI a0)), (1, .d (eI a1)), (4, .ptr 64 0), (6, .ptr 1280 0), (7, .d (eI v19))] ∧ mem = [(64, .var .mine [.d (eI (0 : Int)), .nil 1]), (1280, .var .mine [.d (eI a0), .ref 2497 v18.length 0 v18.length]), (2497, .row true 1 (v18.map eU8))]) FUEL ⟨_, _, Settled.refl, _, _, ⟨_, _, h, rfl, rfl⟩, ⟨rfl, ⟨⟨rfl, rfl⟩, ⟨⟨rfl, rfl⟩, ⟨⟨rfl, rfl⟩, ⟨⟨rfl, rfl⟩, ⟨⟨rfl, rfl⟩, trivial⟩⟩⟩⟩⟩, ⟨⟨rfl, rfl⟩, ⟨⟨rfl, rfl⟩, ⟨⟨rfl, rfl⟩, trivial⟩⟩⟩⟩, rfl⟩ (fun k3 env1 mem1 hI K20 hK20 => ?_)
        obtain ⟨v18, v19, h, rfl, rfl⟩ := hI
        cases k3 with
        | zero => simp [passkeyref7NewFlashOwnL3] at h
        | succ k3 =>
          rw [passkeyref7NewFlashOwnL3] at h
          refine rwp_seq fun K21 hK21 => ?_
          refine rwp_seq fun K22 hK22 => ?_
          refine rwp_region fun K23 hK23 => ?_
          refine st0 2624 rfl (ok (mv (.d (eI v19)))) ?_
          refine st0 2688 rfl (ok (mv (.d (eI a0)))) ?_
          refine st0 2752 rfl (ok (mv (.d (eI a1)))) ?_
          refine st0 2816 rfl (ok (mulI _ _)) ?_
          refine st0 2880 rfl (ok (lssI _ _)) ?_
          refine hK23 _ _ ?_
          simp only [thenK, blockK, keepE, updM, List.filter_cons, List.filter_nil, List.nil_append, List.cons_append, List.map_cons, List.map_nil, envE, Mem.get, Nat.reduceEqDiff, reduceIte, Option.isNone_none, Option.isNone_some, Bool.false_eq_true, List.length_cons, List.length_nil, Nat.reduceAdd, Nat.reduceMul]
          refine hK22 _ _ _ ?_
          rcases Bool.eq_false_or_eq_true ((decide (v19 < (w64 (a0 * a1))))) with h24 | h24
          · replace h := ite_t h h24
            refine rwp_t (isT h24) ?_
            refine rwp_skip ?_
            refine hK21 _ _ _ ?_
            refine rwp_seq fun K25 hK25 => ?_
            refine rwp_block fun K26 hK26 => ?_
            refine rwp_region fun K27 hK27 => ?_
            refine st0 2944 rfl (ok (fa_k 1 rfl)) ?_
            refine st0 3008 rfl (ok (ld_v (v := .ref 2497 v18.length 0 v18.length) rfl rfl rfl)) ?_
            refine st1 3072 rfl (mem' := [(3008, .row true 1 (([255#8] : List (BitVec 8)).map eU8)), (64, .var .mine [.d (eI (0 : Int)), .nil 1]), (1280, .var .mine [.d (eI a0), .ref 2497 v18.length 0 v18.length]), (2497, .row true 1 (v18.map eU8))]) (ok (bsl (e := eU8) (ys := ([255#8] : List (BitVec 8))) rfl rfl rfl)) rfl ?_
            obtain ⟨h28, h⟩ := asq_inv h
            refine st1 3136 rfl (mem' := [(2497, .row true 1 ((v18 ++ ([255#8] : List (BitVec 8))).map eU8)), (3008, .row true 1 (([255#8] : List (BitVec 8)).map eU8)), (64, .var .mine [.d (eI (0 : Int)), .nil 1]), (1280, .var .mine [.d (eI a0), .ref 2497 v18.length 0 v18.length])]) (ok (appR (e := eU8) (xs := v18) (ys := ([255#8] : List (BitVec 8))) (contR (xs := ([255#8] : List (BitVec 8))) rfl rfl rfl) rfl rfl rfl h28)) rfl ?_
            refine st0 3200 rfl (ok (fa_k 1 rfl)) ?_
            refine stn 3264 rfl (mem' := [(1280, .var .mine [.d (eI a0), .ref 2497 (((v18 ++ ([255#8] : List (BitVec 8)))).length) 0 (((v18 ++ ([255#8] : List (BitVec 8)))).length)]), (2497, .row true 1 ((v18 ++ ([255#8] : List (BitVec 8))).map eU8)), (3008, .row true 1 (([255#8] : List (BitVec 8)).map eU8)), (64, .var .mine [.d (eI (0 : Int)), .nil 1])]) (ok (sto_v (ps' := [.d (eI a0), .ref 2497 (((v18 ++ ([255#8] : List (BitVec 8)))).length) 0 (((v18 ++ ([255#8] : List (BitVec 8)))).length)]) rfl rfl rfl rfl)) rfl ?_
            refine hK27 _ _ ?_
            simp only [thenK, blockK, keepE, updM, List.filter_cons, List.filter_nil, List.nil_append, List.cons_append, List.map_cons, List.map_nil, envE, Mem.get, Nat.reduceEqDiff, reduceIte, Option.isNone_none, Option.isNone_some, Bool.false_eq_true, List.length_cons, List.length_nil, Nat.reduceAdd, Nat.reduceMul]
            refine hK26 _ _ _ ?_
            refine hK25 _ _ _ ?_
            refine rwp_region fun K29 hK29 => ?_
            refine st0 3328 rfl (ok (mv (.d (eI v19)))) ?_
            refine st0 3392 rfl (ok (addI _ (1 : Int))) ?_
            refine st0 3456 rfl (ok (mv (.d (eI (w64 (v19 + (1 : Int))))))) ?_
            refine hK29 _ _ ?_
            simp only [thenK, blockK, keepE, updM, List.filter_cons, List.filter_nil, List.nil_append, List.cons_append, List.map_cons, List.map_nil, envE, Mem.get, Nat.reduceEqDiff, reduceIte, Option.isNone_none, Option.isNone_some, Bool.false_eq_true, List.length_cons, List.length_nil, Nat.reduceAdd, Nat.reduceMul]
            exact hK20.out _ _ _ k3 (Nat.lt_succ_self k3) ⟨_, _, Settled.refl, _, _, ⟨_, _, h, rfl, rfl⟩, ⟨rfl, ⟨⟨rfl, rfl⟩, ⟨⟨rfl, rfl⟩, ⟨⟨rfl, rfl⟩, ⟨⟨rfl, rfl⟩, ⟨⟨rfl, rfl⟩, trivial⟩⟩⟩⟩⟩, ⟨⟨rfl, rfl⟩, ⟨⟨rfl, rfl⟩, ⟨⟨rfl, rfl⟩, trivial⟩⟩⟩⟩, rfl⟩
          · replace h := ite_f h h24
            refine rwp_f (isF h24) ?_
            refine rwp_exit ?_
            refine hK17 _ _ _ ?_
            exact hK12 _ _ _ ⟨_, _, Settled.refl, _, _, ⟨_, h, rfl, rfl⟩, ⟨rfl, ⟨⟨rfl, rfl⟩, ⟨⟨rfl, rfl⟩, trivial⟩⟩, ⟨⟨rfl, rfl⟩, ⟨⟨rfl, rfl⟩, ⟨⟨rfl, rfl⟩, trivial⟩⟩⟩⟩, rfl⟩
  · refine rwp_region fun K30 hK30 => ?_
    refine st0 256 rfl (ok (mv (.d (eI a0)))) ?_
    refine st0 320 rfl (ok (lssI _ (512 : Int))) ?_
    refine st0 384 rfl (ok (mv (.d (eB (decide (a0 < (512 : Int))))))) ?_
    rcases Bool.eq_false_or_eq_true ((decide (a0 < (512 : Int)))) with h31 | h31
    · replace h := ite_t h h31
      refine stGN 448 rfl rfl h31 ?_
      refine stGN 512 rfl rfl h31 ?_
      refine st0 576 rfl (ok (pick_t h31 (.d (eB true)) _)) ?_
      refine st0 640 rfl (ok (mv (.d (eB true)))) ?_
      refine stGN 704 rfl rfl rfl ?_
      refine stGN 768 rfl rfl rfl ?_
      refine st0 832 rfl (ok (pick_t rfl (.d (eB true)) _)) ?_
      refine st0 896 rfl (ok (mv (.d (eB true)))) ?_
      refine stGN 960 rfl rfl rfl ?_
      refine stGN 1024 rfl rfl rfl ?_
      refine st0 1088 rfl (ok (pick_t rfl (.d (eB true)) _)) ?_
      refine hK30 _ _ ?_
      simp only [thenK, blockK, keepE, updM, List.filter_cons, List.filter_nil, List.nil_append, List.cons_append, List.map_cons, List.map_nil, envE, Mem.get, Nat.reduceEqDiff, reduceIte, Option.isNone_none, Option.isNone_some, Bool.false_eq_true, List.length_cons, List.length_nil, Nat.reduceAdd, Nat.reduceMul]
      exact hK5 _ _ _ ⟨_, _, Settled.refl, _, _, ⟨_, h, rfl, rfl⟩, ⟨rfl, ⟨⟨rfl, rfl⟩, ⟨⟨rfl, rfl⟩, ⟨⟨rfl, rfl⟩, ⟨⟨rfl, rfl⟩, trivial⟩⟩⟩⟩, ⟨⟨rfl, rfl⟩, trivial⟩⟩, rfl⟩
    · replace h := ite_f h h31
      refine stG (isF h31) ?_
      refine st0 448 rfl (ok (mv (.d (eI a0)))) ?_
      refine stG (isF h31) ?_
      refine st0 512 rfl (ok (gtrI _ (8192 : Int))) ?_
      refine st0 576 rfl (ok (pick_f h31 _ (.d (eB (decide ((8192 : Int) < a0)))))) ?_
      refine st0 640 rfl (ok (mv (.d (eB (decide ((8192 : Int) < a0)))))) ?_
      rcases Bool.eq_false_or_eq_true ((decide ((8192 : Int) < a0))) with h32 | h32
      · replace h := ite_t h h32
        refine stGN 704 rfl rfl h32 ?_
        refine stGN 768 rfl rfl h32 ?_
        refine st0 832 rfl (ok (pick_t h32 (.d (eB true)) _)) ?_
        refine st0 896 rfl (ok (mv (.d (eB true)))) ?_
        refine stGN 960 rfl rfl rfl ?_
        refine stGN 1024 rfl rfl rfl ?_
        refine st0 1088 rfl (ok (pick_t rfl (.d (eB true)) _)) ?_
        refine hK30 _ _ ?_
        simp only [thenK, blockK, keepE, updM, List.filter_cons, List.filter_nil, List.nil_append, List.cons_append, List.map_cons, List.map_nil, envE, Mem.get, Nat.reduceEqDiff, reduceIte, Option.isNone_none, Option.isNone_some, Bool.false_eq_true, List.length_cons, List.length_nil, Nat.reduceAdd, Nat.reduceMul]
        exact hK5 _ _ _ ⟨_, _, Settled.refl, _, _, ⟨_, h, rfl, rfl⟩, ⟨rfl, ⟨⟨rfl, rfl⟩, ⟨⟨rfl, rfl⟩, ⟨⟨rfl, rfl⟩, ⟨⟨rfl, rfl⟩, trivial⟩⟩⟩⟩, ⟨⟨rfl, rfl⟩, trivial⟩⟩, rfl⟩
      · replace h := ite_f h h32
        refine stG (isF h32) ?_
        refine st0 704 rfl (ok (mv (.d (eI a1)))) ?_
        refine stG (isF h32) ?_
        refine st0 768 rfl (ok (lssI _ (1 : Int))) ?_
        refine st0 832 rfl (ok (pick_f h32 _ (.d (eB (decide (a1 < (1 : Int))))))) ?_
        refine st0 896 rfl (ok (mv (.d (eB (decide (a1 < (1 : Int))))))) ?_
        rcases Bool.eq_false_or_eq_true ((decide (a1 < (1 : Int)))) with h33 | h33
        · replace h := ite_t h h33
          refine stGN 960 rfl rfl h33 ?_
          refine stGN 1024 rfl rfl h33 ?_
          refine st0 1088 rfl (ok (pick_t h33 (.d (eB true)) _)) ?_
          refine hK30 _ _ ?_
          simp only [thenK, blockK, keepE, updM, List.filter_cons, List.filter_nil, List.nil_append, List.cons_append, List.map_cons, List.map_nil, envE, Mem.get, Nat.reduceEqDiff, reduceIte, Option.isNone_none, Option.isNone_some, Bool.false_eq_true, List.length_cons, List.length_nil, Nat.reduceAdd, Nat.reduceMul]
          exact hK5 _ _ _ ⟨_, _, Settled.refl, _, _, ⟨_, h, rfl, rfl⟩, ⟨rfl, ⟨⟨rfl, rfl⟩, ⟨⟨rfl, rfl⟩, ⟨⟨rfl, rfl⟩, ⟨⟨rfl, rfl⟩, trivial⟩⟩⟩⟩, ⟨⟨rfl, rfl⟩, trivial⟩⟩, rfl⟩
        · replace h := ite_f h h33
          refine stG (isF h33) ?_
          refine st0 960 rfl (ok (mv (.d (eI a1)))) ?_
          refine stG (isF h33) ?_
          refine st0 1024 rfl (ok (gtrI _ (8 : Int))) ?_
          refine st0 1088 rfl (ok (pick_f h33 _ (.d (eB (decide ((8 : Int) < a1)))))) ?_
          refine hK30 _ _ ?_
          simp only [thenK, blockK, keepE, updM, List.filter_cons, List.filter_nil, List.nil_append, List.cons_append, List.map_cons, List.map_nil, envE, Mem.get, Nat.reduceEqDiff, reduceIte, Option.isNone_none, Option.isNone_some, Bool.false_eq_true, List.length_cons, List.length_nil, Nat.reduceAdd, Nat.reduceMul]
          exact hK5 _ _ _ ⟨_, _, Settled.refl, _, _, ⟨_, h, rfl, rfl⟩, ⟨rfl, ⟨⟨rfl, rfl⟩, ⟨⟨rfl, rfl⟩, ⟨⟨rfl, rfl⟩, ⟨⟨rfl, rfl⟩, trivial⟩⟩⟩⟩, ⟨⟨rfl, rfl⟩, trivial⟩⟩, rfl⟩

/-- passkey/passkeylaw7.made -/
def passkeylaw7madeH : Hints := ⟨[(0, [0, 1, 4]), (1, [1, 4, 5]), (2, [1, 4, 5, 7]), (3, [1, 4, 5, 7, 29]), (5, [1, 4, 5, 7]), (4, [1, 4, 5, 7]), (6, [4])], []⟩
def passkeylaw7madeRc : RCode :=
  .seq (.region false [⟨some 4, .alloc [.d (.int .i64 0), .nil 1], [], none, []⟩] [0, 1, 4]) (.seq (.region false [⟨some 9, .bslice 1 false 3 [.d (.int .i64 0)] [0, 1, 2], [.k (.d
  (.int .i64 512)), .k (.d (.int .i64 513)), .k (.d (.int .i64 600))], none, []⟩, ⟨some 10, .mv, [.t 0], none, []⟩, ⟨some 11, .bin .and, [.t 10, .k (.d (.int .i64 65535))], none,
  []⟩, ⟨some 12, .bin .rem, [.t 11, .k (.d (.int .i64 3))], none, []⟩, ⟨some 13, .ia 1, [.t 9, .t 12], none, []⟩, ⟨some 14, .load 1 false, [.t 13], none, []⟩, ⟨some 15, .mv, [.t
  0], none, []⟩, ⟨some 16, .bin .shr, [.t 15, .k (.d (.int .u64 2))], none, []⟩, ⟨some 17, .bin .and, [.t 16, .k (.d (.int .i64 3))], none, []⟩, ⟨some 18, .bin .add, [.k (.d (.int
  .i64 1)), .t 17], none, []⟩, ⟨some 19, .call 11 true, [.t 14, .t 18], none, []⟩, ⟨some 8, .mv, [.t 19], none, []⟩, ⟨some 20, .ext 0, [.t 8], none, []⟩, ⟨some 21, .ext 1, [.t 8],
  none, []⟩, ⟨some 5, .alloc [.d (.int .i64 0), .nil 1], [], none, []⟩, ⟨none, .store 2, [.t 5, .t 20], none, []⟩, ⟨some 6, .mv, [.t 21], none, []⟩] [1, 4, 5]) (.seq (.seq (.region
  false [⟨some 7, .mv, [.k (.d (.int .i64 0))], none, []⟩] [1, 4, 5, 7]) (.block 0 (.loop [] (.seq (.seq (.region false [⟨some 22, .mv, [.t 7], none, []⟩, ⟨some 23, .mv, [.t 1],
  none, []⟩, ⟨some 24, .len, [.t 23], none, []⟩, ⟨some 25, .bin .lss, [.t 22, .t 24], none, []⟩, ⟨some 26, .mv, [.t 25], none, []⟩, ⟨some 27, .mv, [.t 7], some (26, true), []⟩,
  ⟨some 28, .bin .lss, [.t 27, .k (.d (.int .i64 12))], some (26, true), []⟩, ⟨some 29, .pick, [.t 26, .t 28, .k (.d (.bool false))], none, []⟩] [1, 4, 5, 7, 29]) (.cond (.t 29)
  .skip (.exit 0))) (.seq (.block 1 (.region true [⟨some 32, .fa 1, [.t 5], none, []⟩, ⟨some 33, .load 1 false, [.t 32], none, [0]⟩, ⟨some 34, .mv, [.t 1], none, []⟩, ⟨some 35,
  .mv, [.t 7], none, []⟩, ⟨some 36, .ia 1, [.t 34, .t 35], none, [2, 3]⟩, ⟨some 37, .load 1 false, [.t 36], none, [2, 3, 4]⟩, ⟨some 38, .bin .and, [.t 37, .k (.d (.int .i64
  65535))], none, [2, 3, 4, 5]⟩, ⟨some 39, .fa 1, [.t 5], none, []⟩, ⟨some 40, .load 1 false, [.t 39], none, [7]⟩, ⟨some 41, .len, [.t 40], none, [7, 8]⟩, ⟨some 42, .bin .rem, [.t
  38, .t 41], none, [2, 3, 4, 5, 6, 7, 8, 9]⟩, ⟨some 43, .ia 1, [.t 33, .t 42], none, [0, 1, 2, 3, 4, 5, 6, 7, 8, 9, 10]⟩, ⟨some 44, .load 1 false, [.t 43], none, [0, 1, 2, 3, 4,
  5, 6, 7, 8, 9, 10, 11]⟩, ⟨some 45, .mv, [.t 1], none, []⟩, ⟨some 46, .mv, [.t 7], none, []⟩, ⟨some 47, .ia 1, [.t 45, .t 46], none, [13, 14]⟩, ⟨some 48, .load 1 false, [.t 47],
  none, [13, 14, 15]⟩, ⟨some 49, .bin .shr, [.t 48, .k (.d (.int .u64 8))], none, [13, 14, 15, 16]⟩, ⟨some 50, .cvt .u8, [.t 49], none, [13, 14, 15, 16, 17]⟩, ⟨some 51, .bin .and,
  [.t 44, .t 50], none, [0, 1, 2, 3, 4, 5, 6, 7, 8, 9, 10, 11, 12, 13, 14, 15, 16, 17, 18]⟩, ⟨some 52, .ia 1, [.t 33, .t 42], none, [0, 1, 2, 3, 4, 5, 6, 7, 8, 9, 10, 11, 12, 13,
  14, 15, 16, 17, 18, 19]⟩, ⟨none, .store 1, [.t 52, .t 51], none, [0, 1, 2, 3, 4, 5, 6, 7, 8, 9, 10, 11, 12, 13, 14, 15, 16, 17, 18, 19, 20]⟩] [1, 4, 5, 7])) (.region false [⟨some
  30, .mv, [.t 7], none, []⟩, ⟨some 31, .bin .add, [.t 30, .k (.d (.int .i64 1))], none, []⟩, ⟨some 7, .mv, [.t 31], none, []⟩] [1, 4, 5, 7])))))) (.seq (.region false [⟨some 53,
  .load 2 true, [.t 5], none, []⟩, ⟨none, .store 2, [.t 4, .t 53], none, []⟩] [4]) .ret)))
def passkeylaw7madeRr : List RR := [.c 4 2 true]
theorem passkeylaw7madeC : compFn Try.prog 16 passkeylaw7madeH = some (passkeylaw7madeRc, passkeylaw7madeRr, 54) := by kernel_rfl
theorem passkeylaw7madeOK (a0 : Int) (a1 : List (Int)) (res : TApiFlash) (h : passkeylaw7made a0 a1 = some res) : CallOK Try.prog 16 [.d (eI a0), .d ((eL 1 eI) a1)] [] (.d (eTApiFlash res)) [] := by
  unfold passkeylaw7made at h
  refine callOK passkeylaw7madeC fm rfl ?_
  simp only [initE, initM, nbor, List.map_cons, List.map_nil, Nat.reduceAdd]
  unfold passkeylaw7madeRc
  refine rwp_seq fun K1 hK1 => ?_
  refine rwp_region fun K2 hK2 => ?_
  refine st1 128 rfl (mem' := [(64, .var .mine [.d (eI (0 : Int)), .nil 1])]) (ok (alc (zs := [.d (eI (0 : Int)), .nil 1]))) rfl ?_
  refine hK2 _ _ ?_
  simp only [thenK, blockK, keepE, updM, List.filter_cons, List.filter_nil, List.nil_append, List.cons_append, List.map_cons, List.map_nil, envE, Mem.get, Nat.reduceEqDiff, reduceIte, Option.isNone_none, Option.isNone_some, Bool.false_eq_true, List.length_cons, List.length_nil, Nat.reduceAdd, Nat.reduceMul]
  refine hK1 _ _ _ ?_
  refine rwp_seq fun K3 hK3 => ?_
  refine rwp_region fun K4 hK4 => ?_
  refine st1 192 rfl (mem' := [(128, .row true 1 (([(512 : Int), (513 : Int), (600 : Int)] : List (Int)).map eI)), (64, .var .mine [.d (eI (0 : Int)), .nil 1])]) (ok (bsl (e := eI) (ys := ([(512 : Int), (513 : Int), (600 : Int)] : List (Int))) rfl rfl rfl)) rfl ?_
  refine st0 256 rfl (ok (mv (.d (eI a0)))) ?_
  refine st0 320 rfl (ok (andI _ (65535 : Int))) ?_
  refine st0 384 rfl (ok (remI _ (3 : Int) (by decide))) ?_
  obtain ⟨h5, h⟩ := asq_inv h
  refine st0 448 rfl (ok (iaR (xs := ([(512 : Int), (513 : Int), (600 : Int)] : List (Int))) (e := eI) rfl rfl h5)) ?_
  refine st0 512 rfl (ok (ld_r (e := eI) (xs := ([(512 : Int), (513 : Int), (600 : Int)] : List (Int))) (0 : Int) rfl rfl (by have := h5; simp at this ⊢; omega) rfl)) ?_
  refine st0 576 rfl (ok (mv (.d (eI a0)))) ?_
  refine st0 640 rfl (ok (shrII _ (by decide))) ?_
  refine st0 704 rfl (ok (andI _ (3 : Int))) ?_
  obtain ⟨v6, h7, h⟩ := lett_inv h
  refine st0e 768 rfl (ok (addI (1 : Int) _)) (congrArg (fun z => PV.d (eI z)) h7) ?_
  obtain ⟨y8, h9, h⟩ := bind_inv h
  refine st1 832 rfl (mem' := [(777, .row true 1 (y8.1.Bytes.map eU8)), (128, .row true 1 (([(512 : Int), (513 : Int), (600 : Int)] : List (Int)).map eI)), (64, .var .mine [.d (eI (0 : Int)), .nil 1])]) (call_ok (v := .tup [.agg [.d (eI y8.1.PageSize), .ref 777 y8.1.Bytes.length 0 y8.1.Bytes.length], .d (eI y8.2)]) (u := [(777, .row true 1 (y8.1.Bytes.map eU8))]) (ar_d (eI (([(512 : Int), (513 : Int), (600 : Int)] : List (Int)).getD (0 + ((ibits .and .i64 a0 (65535 : Int)).tmod (3 : Int)).toNat) (0 : Int))) (ar_d (eI v6) ar_nil)) rfl (passkeyref7NewFlashOwnOK (([(512 : Int), (513 : Int), (600 : Int)] : List (Int)).getD (0 + ((ibits .and .i64 a0 (65535 : Int)).tmod (3 : Int)).toNat) (0 : Int)) v6 y8 h9) rfl) rfl ?_
  refine st0 896 rfl (ok (mv (.tup [.agg [.d (eI y8.1.PageSize), .ref 777 y8.1.Bytes.length 0 y8.1.Bytes.length], .d (eI y8.2)]))) ?_
  refine st0 960 rfl (ok (extr (v := .agg [.d (eI y8.1.PageSize), .ref 777 y8.1.Bytes.length 0 y8.1.Bytes.length]) rfl rfl)) ?_
  refine st0 1024 rfl (ok (extr (v := .d (eI y8.2)) rfl rfl)) ?_
  refine st1 1088 rfl (mem' := [(1024, .var .mine [.d (eI (0 : Int)), .nil 1]), (777, .row true 1 (y8.1.Bytes.map eU8)), (128, .row true 1 (([(512 : Int), (513 : Int), (600 : Int)] : List (Int)).map eI)), (64, .var .mine [.d (eI (0 : Int)), .nil 1])]) (ok (alc (zs := [.d (eI (0 : Int)), .nil 1]))) rfl ?_
  refine stn 1152 rfl (mem' := [(1024, .var .mine [.d (eI y8.1.PageSize), .ref 777 y8.1.Bytes.length 0 y8.1.Bytes.length]), (777, .row true 1 (y8.1.Bytes.map eU8)), (128, .row true 1 (([(512 : Int), (513 : Int), (600 : Int)] : List (Int)).map eI)), (64, .var .mine [.d (eI (0 : Int)), .nil 1])]) (ok (sto_v (ps' := [.d (eI y8.1.PageSize), .ref 777 y8.1.Bytes.length 0 y8.1.Bytes.length]) rfl rfl rfl rfl)) rfl ?_
  refine st0 1216 rfl (ok (mv (.d (eI y8.2)))) ?_
  refine hK4 _ _ ?_
  simp only [thenK, blockK, keepE, updM, List.filter_cons, List.filter_nil, List.nil_append, List.cons_append, List.map_cons, List.map_nil, envE, Mem.get, Nat.reduceEqDiff, reduceIte, Option.isNone_none, Option.isNone_some, Bool.false_eq_true, List.length_cons, List.length_nil, Nat.reduceAdd, Nat.reduceMul]
  refine hK3 _ _ _ ?_
  refine rwp_join ([], []) 4224 (fun env mem => ∃ (v10 : List (BitVec 8)), passkeylaw7madeJ1 y8 v10 = some res ∧ env = [(4, .ptr 64 0), (5, .ptr 1024 0)] ∧ mem = [(64, .var .mine [.d (eI (0 : Int)), .nil 1]), (1024, .var .mine [.d (eI y8.1.PageSize), .ref 777 v10.length 0 v10.length]), (777, .row true 1 (v10.map eU8))]) (fun _ _ hI => ?_) (fun K11 hK11 => ?_)
  · obtain ⟨v10, h, rfl, rfl⟩ := hI
    unfold passkeylaw7madeJ1 at h
    refine rwp_seq fun K12 hK12 => ?_
    refine rwp_region fun K13 hK13 => ?_
    refine st0 4288 rfl (ok (ld_v (v := .agg [.d (eI y8.1.PageSize), .ref 777 v10.length 0 v10.length]) rfl rfl rfl)) ?_
    refine stn 4352 rfl (mem' := [(64, .var .mine [.d (eI y8.1.PageSize), .ref 777 v10.length 0 v10.length]), (1024, .var .mine [.d (eI y8.1.PageSize), .ref 777 v10.length 0 v10.length]), (777, .row true 1 (v10.map eU8))]) (ok (sto_v (ps' := [.d (eI y8.1.PageSize), .ref 777 v10.length 0 v10.length]) rfl rfl rfl rfl)) rfl ?_
    refine hK13 _ _ ?_
    simp only [thenK, blockK, keepE, updM, List.filter_cons, List.filter_nil, List.nil_append, List.cons_append, List.map_cons, List.map_nil, envE, Mem.get, Nat.reduceEqDiff, reduceIte, Option.isNone_none, Option.isNone_some, Bool.false_eq_true, List.length_cons, List.length_nil, Nat.reduceAdd, Nat.reduceMul]
    refine hK12 _ _ _ ?_
    refine rwp_ret ?_
    obtain rfl := Option.some.inj h
    try simp only [thenK, blockK, reduceIte]
    exact end_ok trivial (rs_c (id := 64) (off := 0) (v := .agg [.d (eI y8.1.PageSize), .ref 777 v10.length 0 v10.length]) rfl rfl rfl rfl rs_nil) (en_d (to_agg (ds_d _ (ds_r (ys := v10) rfl rfl rfl ds_nil)) (x := eTApiFlash (TApiFlash.mk y8.1.PageSize v10)) rfl) en_nil) ou_nil (by first | exact eok rfl rfl rfl rfl trivial | (refine eok ?_ ?_ ?_ ?_ ?_ <;> first | rfl | exact trivial | simp [retM, Mem.get, PV.renL, PV.ren, Blk.ren, comps, rhoR, rhoM, appN, PV.refsL, PV.refs, keys, nodupB, Blk.refs, allIn, Blk.bor]))
  · refine rwp_seq fun K14 hK14 => ?_
    refine rwp_region fun K15 hK15 => ?_
    refine st0 1280 rfl (ok (mv (.d (eI (0 : Int))))) ?_
    refine hK15 _ _ ?_
    simp only [thenK, blockK, keepE, updM, List.filter_cons, List.filter_nil, List.nil_append, List.cons_append, List.map_cons, List.map_nil, envE, Mem.get, Nat.reduceEqDiff, reduceIte, Option.isNone_none, Option.isNone_some, Bool.false_eq_true, List.length_cons, List.length_nil, Nat.reduceAdd, Nat.reduceMul]
    refine hK14 _ _ _ ?_
    refine rwp_block fun K16 hK16 => ?_
    refine rwp_loop ([], []) 3584 (fun k env mem => ∃ (v17 : List (BitVec 8)) (v18 : Int), passkeylaw7madeL2 a1 y8 k v17 v18 = some res ∧ env = [(1, .d ((eL 1 eI) a1)), (4, .ptr 64 0), (5, .ptr 1024 0), (7, .d (eI v18))] ∧ mem = [(64, .var .mine [.d (eI (0 : Int)), .nil 1]), (1024, .var .mine [.d (eI y8.1.PageSize), .ref 777 v17.length 0 v17.length]), (777, .row true 1 (v17.map eU8))]) FUEL ⟨_, _, Settled.refl, _, _, ⟨_, _, h, rfl, rfl⟩, ⟨rfl, ⟨⟨rfl, rfl⟩, ⟨⟨rfl, rfl⟩, ⟨⟨rfl, rfl⟩, ⟨⟨rfl, rfl⟩, trivial⟩⟩⟩⟩, ⟨⟨rfl, rfl⟩, ⟨⟨rfl, rfl⟩, ⟨⟨rfl, rfl⟩, trivial⟩⟩⟩⟩, rfl⟩ (fun k2 env1 mem1 hI K19 hK19 => ?_)
    obtain ⟨v17, v18, h, rfl, rfl⟩ := hI
    cases k2 with
    | zero => simp [passkeylaw7madeL2] at h
    | succ k2 =>
      rw [passkeylaw7madeL2] at h
      refine rwp_seq fun K20 hK20 => ?_
      refine rwp_join ([], []) 4160 (fun env mem => ∃ (v21 : Bool), passkeylaw7madeJ3 (passkeylaw7madeL2 a1 y8 k2) a1 y8 v17 v18 v21 = some res ∧ env = [(1, .d ((eL 1 eI) a1)), (4, .ptr 64 0), (5, .ptr 1024 0), (7, .d (eI v18)), (29, .d (eB v21))] ∧ mem = [(64, .var .mine [.d (eI (0 : Int)), .nil 1]), (1024, .var .mine [.d (eI y8.1.PageSize), .ref 777 v17.length 0 v17.length]), (777, .row true 1 (v17.map eU8))]) (fun _ _ hI => ?_) (fun K22 hK22 => ?_)
      · obtain ⟨v21, h, rfl, rfl⟩ := hI
        unfold passkeylaw7madeJ3 at h
        rcases Bool.eq_false_or_eq_true (v21) with h23 | h23
        · replace h := ite_t h h23
          refine rwp_t (isT h23) ?_
          refine rwp_skip ?_
          refine hK20 _ _ _ ?_
          refine rwp_seq fun K24 hK24 => ?_
          refine rwp_block fun K25 hK25 => ?_
          refine rwp_draw fun K26 hK26 => ?_
          refine dr0 4224 rfl (ok (fa_k 1 rfl)) (by kernel_rfl) ?_
          refine dr0 4288 rfl (ok (ld_v (v := .ref 777 v17.length 0 v17.length) rfl rfl rfl)) (by kernel_rfl) ?_
          refine dr0 4352 rfl (ok (mv (.d ((eL 1 eI) a1)))) (by kernel_rfl) ?_
          refine dr0 4416 rfl (ok (mv (.d (eI v18)))) (by kernel_rfl) ?_
          obtain ⟨h27, h⟩ := asq_inv h
          refine dr0 4480 rfl (ok (iaL (e := eI) (xs := a1) (0 : Int) h27)) (by kernel_rfl) ?_
          refine dr0 4544 rfl (ok (ld_i (v := eI (a1.getD v18.toNat (0 : Int))) rfl rfl)) (by kernel_rfl) ?_
          obtain ⟨v28, h29, h⟩ := lett_inv h
          refine dr0e 4608 rfl (ok (andI _ (65535 : Int))) (congrArg (fun z => PV.d (eI z)) h29) (by kernel_rfl) ?_
          refine dr0 4672 rfl (ok (fa_k 1 rfl)) (by kernel_rfl) ?_
          refine dr0 4736 rfl (ok (ld_v (v := .ref 777 v17.length 0 v17.length) rfl rfl rfl)) (by kernel_rfl) ?_
          refine dr0 4800 rfl (ok (lenR _ _ _ _)) (by kernel_rfl) ?_
          obtain ⟨h30, h⟩ := asq_inv h
          refine dr0 4864 rfl (ok (remI _ _ h30)) (by kernel_rfl) ?_
          obtain ⟨h31, h⟩ := asq_inv h
          refine dr0 4928 rfl (ok (iaR (xs := v17) (e := eU8) rfl rfl h31)) (by kernel_rfl) ?_
          refine dr0 4992 rfl (ok (ld_r (e := eU8) (xs := v17) 0#8 rfl rfl (by have := h31; simp at this ⊢; omega) rfl)) (by kernel_rfl) ?_
          refine dr0 5056 rfl (ok (mv (.d ((eL 1 eI) a1)))) (by kernel_rfl) ?_
          refine dr0 5120 rfl (ok (mv (.d (eI v18)))) (by kernel_rfl) ?_
          obtain ⟨h32, h⟩ := asq_inv h
          refine dr0 5184 rfl (ok (iaL (e := eI) (xs := a1) (0 : Int) h32)) (by kernel_rfl) ?_
          refine dr0 5248 rfl (ok (ld_i (v := eI (a1.getD v18.toNat (0 : Int))) rfl rfl)) (by kernel_rfl) ?_
          refine dr0 5312 rfl (ok (shrII _ (by decide))) (by kernel_rfl) ?_
          obtain ⟨v33, h34, h⟩ := lett_inv h
          refine dr0e 5376 rfl (ok (ofI8 _ (ishr .i64 (a1.getD v18.toNat (0 : Int)) (8 : Int)))) (congrArg (fun z => PV.d (eU8 z)) h34) (by kernel_rfl) ?_
          obtain ⟨v35, h36, h⟩ := lett_inv h
          refine dr0e 5440 rfl (ok (and8 _ _)) (congrArg (fun z => PV.d (eU8 z)) h36) (by kernel_rfl) ?_
          obtain ⟨h37, h⟩ := asq_inv h
          refine dr0 5504 rfl (ok (iaR (xs := v17) (e := eU8) rfl rfl h37)) (by kernel_rfl) ?_
          refine drn 5568 rfl (mem' := [(777, .row true 1 ((v17.set (0 + (v28.tmod (v17.length : Int)).toNat) v35).map eU8)), (64, .var .mine [.d (eI (0 : Int)), .nil 1]), (1024, .var .mine [.d (eI y8.1.PageSize), .ref 777 v17.length 0 v17.length])]) (ok (sto_r (e := eU8) (xs := v17) (y := v35) rfl rfl rfl)) rfl (by kernel_rfl) ?_
          refine hK26 _ _ ?_
          simp only [thenK, blockK, keepE, updM, List.filter_cons, List.filter_nil, List.nil_append, List.cons_append, List.map_cons, List.map_nil, envE, Mem.get, Nat.reduceEqDiff, reduceIte, Option.isNone_none, Option.isNone_some, Bool.false_eq_true, List.length_cons, List.length_nil, Nat.reduceAdd, Nat.reduceMul]
          refine hK25 _ _ _ ?_
          refine hK24 _ _ _ ?_
          refine rwp_region fun K38 hK38 => ?_
          refine st0 5632 rfl (ok (mv (.d (eI v18)))) ?_
          refine st0 5696 rfl (ok (addI _ (1 : Int))) ?_
          refine st0 5760 rfl (ok (mv (.d (eI (w64 (v18 + (1 : Int))))))) ?_
          refine hK38 _ _ ?_
          simp only [thenK, blockK, keepE, updM, List.filter_cons, List.filter_nil, List.nil_append, List.cons_append, List.map_cons, List.map_nil, envE, Mem.get, Nat.reduceEqDiff, reduceIte, Option.isNone_none, Option.isNone_some, Bool.false_eq_true, List.length_cons, List.length_nil, Nat.reduceAdd, Nat.reduceMul]
          exact hK19.out _ _ _ k2 (Nat.lt_succ_self k2) ⟨_, _, Settled.refl, _, _, ⟨_, _, h, rfl, rfl⟩, (by refine ⟨rfl, ⟨⟨?_, rfl⟩, ⟨⟨?_, rfl⟩, ⟨⟨?_, rfl⟩, ⟨⟨?_, rfl⟩, trivial⟩⟩⟩⟩, ⟨⟨?_, rfl⟩, ⟨⟨?_, rfl⟩, ⟨⟨?_, rfl⟩, trivial⟩⟩⟩⟩ <;> first | rfl | (exact refEq rfl (by simp) rfl (by simp)) | simp [envE, Mem.get, liftE, liftV, rhoOf, rhoE, rhoM, appN, PV.refs, PV.refsL, Blk.refs, PV.ren, PV.renL, Blk.ren]), rfl⟩
        · replace h := ite_f h h23
          refine rwp_f (isF h23) ?_
          refine rwp_exit ?_
          refine hK16 _ _ _ ?_
          exact hK11 _ _ _ ⟨_, _, Settled.refl, _, _, ⟨_, h, rfl, rfl⟩, ⟨rfl, ⟨⟨rfl, rfl⟩, ⟨⟨rfl, rfl⟩, trivial⟩⟩, ⟨⟨rfl, rfl⟩, ⟨⟨rfl, rfl⟩, ⟨⟨rfl, rfl⟩, trivial⟩⟩⟩⟩, rfl⟩
      · refine rwp_region fun K39 hK39 => ?_
        refine st0 3648 rfl (ok (mv (.d (eI v18)))) ?_
        refine st0 3712 rfl (ok (mv (.d ((eL 1 eI) a1)))) ?_
        refine st0 3776 rfl (ok (lenL _ _)) ?_
        refine st0 3840 rfl (ok (lssI _ _)) ?_
        refine st0 3904 rfl (ok (mv (.d (eB (decide (v18 < (a1.length : Int))))))) ?_
        rcases Bool.eq_false_or_eq_true ((decide (v18 < (a1.length : Int)))) with h40 | h40
        · replace h := ite_t h h40
          refine stG (isT h40) ?_
          refine st0 3968 rfl (ok (mv (.d (eI v18)))) ?_
          refine stG (isT h40) ?_
          refine st0 4032 rfl (ok (lssI _ (12 : Int))) ?_
          refine st0 4096 rfl (ok (pick_t h40 (.d (eB (decide (v18 < (12 : Int))))) _)) ?_
          refine hK39 _ _ ?_
          simp only [thenK, blockK, keepE, updM, List.filter_cons, List.filter_nil, List.nil_append, List.cons_append, List.map_cons, List.map_nil, envE, Mem.get, Nat.reduceEqDiff, reduceIte, Option.isNone_none, Option.isNone_some, Bool.false_eq_true, List.length_cons, List.length_nil, Nat.reduceAdd, Nat.reduceMul]
          exact hK22 _ _ _ ⟨_, _, Settled.refl, _, _, ⟨_, h, rfl, rfl⟩, ⟨rfl, ⟨⟨rfl, rfl⟩, ⟨⟨rfl, rfl⟩, ⟨⟨rfl, rfl⟩, ⟨⟨rfl, rfl⟩, ⟨⟨rfl, rfl⟩, trivial⟩⟩⟩⟩⟩, ⟨⟨rfl, rfl⟩, ⟨⟨rfl, rfl⟩, ⟨⟨rfl, rfl⟩, trivial⟩⟩⟩⟩, rfl⟩
        · replace h := ite_f h h40
          refine stGN 3968 rfl rfl h40 ?_
          refine stGN 4032 rfl rfl h40 ?_
          refine st0 4096 rfl (ok (pick_f h40 _ (.d (eB false)))) ?_
          refine hK39 _ _ ?_
          simp only [thenK, blockK, keepE, updM, List.filter_cons, List.filter_nil, List.nil_append, List.cons_append, List.map_cons, List.map_nil, envE, Mem.get, Nat.reduceEqDiff, reduceIte, Option.isNone_none, Option.isNone_some, Bool.false_eq_true, List.length_cons, List.length_nil, Nat.reduceAdd, Nat.reduceMul]
          exact hK22 _ _ _ ⟨_, _, Settled.refl, _, _, ⟨_, h, rfl, rfl⟩, ⟨rfl, ⟨⟨rfl, rfl⟩, ⟨⟨rfl, rfl⟩, ⟨⟨rfl, rfl⟩, ⟨⟨rfl, rfl⟩, ⟨⟨rfl, rfl⟩, trivial⟩⟩⟩⟩⟩, ⟨⟨rfl, rfl⟩, ⟨⟨rfl, rfl⟩, ⟨⟨rfl, rfl⟩, trivial⟩⟩⟩⟩, rfl⟩

/-- passkey/passkeylaw7.spoil -/
def passkeylaw7spoilH : Hints := ⟨[(0, [1, 2, 4]), (1, [1, 2, 4, 6]), (2, [1, 2, 4, 6, 7]), (3, [2, 4]), (4, [2, 4, 6, 17]), (5, [2, 4]), (6, [2, 4, 27]), (7, [2, 4]), (8, [4])], []⟩
def passkeylaw7spoilRc : RCode :=
  .seq (.region false [⟨some 2, .box, [.t 0], none, []⟩, ⟨some 4, .alloc [.d (.int .i64 0), .nil 1], [], none, []⟩] [1, 2, 4]) (.seq (.seq (.region false [⟨some 5, .mv, [.t 1], none,
  []⟩, ⟨some 6, .bin .and, [.t 5, .k (.d (.int .i64 15))], none, []⟩] [1, 2, 4, 6]) (.block 0 (.seq (.region false [⟨some 8, .bin .eql, [.t 6, .k (.d (.int .i64 0))], none, []⟩,
  ⟨some 7, .mv, [.t 8], none, []⟩] [1, 2, 4, 6, 7]) (.cond (.t 7) (.region false [⟨some 9, .bslice 1 false 5 [.d (.int .i64 0)] [0, 1, 2, 3, 4], [.k (.d (.int .i64 0)), .k (.d
  (.int .i64 511)), .k (.d (.int .i64 512)), .k (.d (.int .i64 8193)), .k (.d (.int .i64 (-1)))], none, []⟩, ⟨some 10, .mv, [.t 1], none, []⟩, ⟨some 11, .bin .shr, [.t 10, .k (.d
  (.int .u64 4))], none, []⟩, ⟨some 12, .bin .and, [.t 11, .k (.d (.int .i64 255))], none, []⟩, ⟨some 13, .bin .rem, [.t 12, .k (.d (.int .i64 5))], none, []⟩, ⟨some 14, .ia 1, [.t
  9, .t 13], none, []⟩, ⟨some 15, .load 1 false, [.t 14], none, []⟩, ⟨some 16, .fa 0, [.t 2], none, []⟩, ⟨none, .store 1, [.t 16, .t 15], none, []⟩] [2, 4]) (.seq (.region false
  [⟨some 18, .bin .eql, [.t 6, .k (.d (.int .i64 1))], none, []⟩, ⟨some 17, .mv, [.t 18], none, []⟩] [2, 4, 6, 17]) (.cond (.t 17) (.region false [⟨some 19, .fa 1, [.t 2], none,
  []⟩, ⟨some 20, .load 1 false, [.t 19], none, []⟩, ⟨some 21, .fa 1, [.t 2], none, []⟩, ⟨some 22, .load 1 false, [.t 21], none, []⟩, ⟨some 23, .len, [.t 22], none, []⟩, ⟨some 24,
  .bin .sub, [.t 23, .k (.d (.int .i64 1))], none, []⟩, ⟨some 25, .slice 1 false true false, [.t 20, .t 24], none, []⟩, ⟨some 26, .fa 1, [.t 2], none, []⟩, ⟨none, .store 1, [.t 26,
  .t 25], none, []⟩] [2, 4]) (.seq (.region false [⟨some 28, .bin .eql, [.t 6, .k (.d (.int .i64 2))], none, []⟩, ⟨some 27, .mv, [.t 28], none, []⟩] [2, 4, 27]) (.cond (.t 27)
  (.region false [⟨some 29, .fa 1, [.t 2], none, []⟩, ⟨none, .store 1, [.t 29, .k (.nil 1)], none, []⟩] [2, 4]) .skip)))))))) (.seq (.region false [⟨some 30, .load 2 true, [.t 2],
  none, []⟩, ⟨none, .store 2, [.t 4, .t 30], none, []⟩] [4]) .ret))
def passkeylaw7spoilRr : List RR := [.c 4 2 true]
theorem passkeylaw7spoilC : compFn Try.prog 15 passkeylaw7spoilH = some (passkeylaw7spoilRc, passkeylaw7spoilRr, 31) := by kernel_rfl
theorem passkeylaw7spoilOK (a0 : TApiFlash) (a1 : Int) (res : TApiFlash) (h : passkeylaw7spoil a0 a1 = some res) : CallOK Try.prog 15 [.d (eTApiFlash a0), .d (eI a1)] [] (.d (eTApiFlash res)) [] := by
  unfold passkeylaw7spoil at h
  refine callOK passkeylaw7spoilC fm rfl ?_
  simp only [initE, initM, nbor, List.map_cons, List.map_nil, Nat.reduceAdd]
  unfold passkeylaw7spoilRc
  refine rwp_seq fun K1 hK1 => ?_
  refine rwp_region fun K2 hK2 => ?_
  refine st1 128 rfl (mem' := [(64, .var .mine [.d (eI a0.PageSize), .d ((eL 1 eU8) a0.Bytes)])]) (ok (bx (ps := [.d (eI a0.PageSize), .d ((eL 1 eU8) a0.Bytes)]) rfl rfl)) rfl ?_
  refine st1 192 rfl (mem' := [(128, .var .mine [.d (eI (0 : Int)), .nil 1]), (64, .var .mine [.d (eI a0.PageSize), .d ((eL 1 eU8) a0.Bytes)])]) (ok (alc (zs := [.d (eI (0 : Int)), .nil 1]))) rfl ?_
  refine hK2 _ _ ?_
  simp only [thenK, blockK, keepE, updM, List.filter_cons, List.filter_nil, List.nil_append, List.cons_append, List.map_cons, List.map_nil, envE, Mem.get, Nat.reduceEqDiff, reduceIte, Option.isNone_none, Option.isNone_some, Bool.false_eq_true, List.length_cons, List.length_nil, Nat.reduceAdd, Nat.reduceMul]
  refine hK1 _ _ _ ?_
  refine rwp_join ([], []) 1216 (fun env mem => ∃ (v3 : Int) (v4 : List (BitVec 8)), passkeylaw7spoilJ1 v3 v4 = some res ∧ env = [(2, .ptr 64 0), (4, .ptr 128 0)] ∧ mem = [(64, .var .mine [.d (eI v3), .d ((eL 1 eU8) v4)]), (128, .var .mine [.d (eI (0 : Int)), .nil 1])]) (fun _ _ hI => ?_) (fun K5 hK5 => ?_)
  · obtain ⟨v3, v4, h, rfl, rfl⟩ := hI
    unfold passkeylaw7spoilJ1 at h
    refine rwp_seq fun K6 hK6 => ?_
    refine rwp_region fun K7 hK7 => ?_
    refine st0 1280 rfl (ok (ld_v (v := .d (.agg [eI v3, (eL 1 eU8) v4])) rfl rfl rfl)) ?_
    refine stn 1344 rfl (mem' := [(128, .var .mine [.d (eI v3), .d ((eL 1 eU8) v4)]), (64, .var .mine [.d (eI v3), .d ((eL 1 eU8) v4)])]) (ok (sto_v (ps' := [.d (eI v3), .d ((eL 1 eU8) v4)]) rfl rfl rfl rfl)) rfl ?_
    refine hK7 _ _ ?_
    simp only [thenK, blockK, keepE, updM, List.filter_cons, List.filter_nil, List.nil_append, List.cons_append, List.map_cons, List.map_nil, envE, Mem.get, Nat.reduceEqDiff, reduceIte, Option.isNone_none, Option.isNone_some, Bool.false_eq_true, List.length_cons, List.length_nil, Nat.reduceAdd, Nat.reduceMul]
    refine hK6 _ _ _ ?_
    refine rwp_ret ?_
    obtain rfl := Option.some.inj h
    try simp only [thenK, blockK, reduceIte]
    exact end_ok trivial (rs_c (id := 128) (off := 0) (v := .d (.agg [eI v3, (eL 1 eU8) v4])) rfl rfl rfl rfl rs_nil) (en_d (to_d _) en_nil) ou_nil (by first | exact eok rfl rfl rfl rfl trivial | (refine eok ?_ ?_ ?_ ?_ ?_ <;> first | rfl | exact trivial | simp [retM, Mem.get, PV.renL, PV.ren, Blk.ren, comps, rhoR, rhoM, appN, PV.refsL, PV.refs, keys, nodupB, Blk.refs, allIn, Blk.bor]))
  · refine rwp_seq fun K8 hK8 => ?_
    refine rwp_region fun K9 hK9 => ?_
    refine st0 256 rfl (ok (mv (.d (eI a1)))) ?_
    refine st0 320 rfl (ok (andI _ (15 : Int))) ?_
    refine hK9 _ _ ?_
    simp only [thenK, blockK, keepE, updM, List.filter_cons, List.filter_nil, List.nil_append, List.cons_append, List.map_cons, List.map_nil, envE, Mem.get, Nat.reduceEqDiff, reduceIte, Option.isNone_none, Option.isNone_some, Bool.false_eq_true, List.length_cons, List.length_nil, Nat.reduceAdd, Nat.reduceMul]
    refine hK8 _ _ _ ?_
    refine rwp_block fun K10 hK10 => ?_
    refine rwp_seq fun K11 hK11 => ?_
    refine rwp_region fun K12 hK12 => ?_
    refine st0 384 rfl (ok (eqlI _ (0 : Int))) ?_
    refine st0 448 rfl (ok (mv (.d (eB ((ibits .and .i64 a1 (15 : Int)) == (0 : Int)))))) ?_
    refine hK12 _ _ ?_
    simp only [thenK, blockK, keepE, updM, List.filter_cons, List.filter_nil, List.nil_append, List.cons_append, List.map_cons, List.map_nil, envE, Mem.get, Nat.reduceEqDiff, reduceIte, Option.isNone_none, Option.isNone_some, Bool.false_eq_true, List.length_cons, List.length_nil, Nat.reduceAdd, Nat.reduceMul]
    refine hK11 _ _ _ ?_
    rcases Bool.eq_false_or_eq_true (((ibits .and .i64 a1 (15 : Int)) == (0 : Int))) with h13 | h13
    · replace h := ite_t h h13
      refine rwp_t (isT h13) ?_
      refine rwp_region fun K14 hK14 => ?_
      refine st1 512 rfl (mem' := [(448, .row true 1 (([(0 : Int), (511 : Int), (512 : Int), (8193 : Int), (-1 : Int)] : List (Int)).map eI)), (128, .var .mine [.d (eI (0 : Int)), .nil 1]), (64, .var .mine [.d (eI a0.PageSize), .d ((eL 1 eU8) a0.Bytes)])]) (ok (bsl (e := eI) (ys := ([(0 : Int), (511 : Int), (512 : Int), (8193 : Int), (-1 : Int)] : List (Int))) rfl rfl rfl)) rfl ?_
      refine st0 576 rfl (ok (mv (.d (eI a1)))) ?_
      refine st0 640 rfl (ok (shrII _ (by decide))) ?_
      refine st0 704 rfl (ok (andI _ (255 : Int))) ?_
      obtain ⟨v15, h16, h⟩ := lett_inv h
      refine st0e 768 rfl (ok (remI _ (5 : Int) (by decide))) (congrArg (fun z => PV.d (eI z)) h16) ?_
      obtain ⟨h17, h⟩ := asq_inv h
      refine st0 832 rfl (ok (iaR (xs := ([(0 : Int), (511 : Int), (512 : Int), (8193 : Int), (-1 : Int)] : List (Int))) (e := eI) rfl rfl h17)) ?_
      refine st0 896 rfl (ok (ld_r (e := eI) (xs := ([(0 : Int), (511 : Int), (512 : Int), (8193 : Int), (-1 : Int)] : List (Int))) (0 : Int) rfl rfl (by have := h17; simp at this ⊢; omega) rfl)) ?_
      refine st0 960 rfl (ok (fa_k 0 rfl)) ?_
      refine stn 1024 rfl (mem' := [(64, .var .mine [.d (eI (([(0 : Int), (511 : Int), (512 : Int), (8193 : Int), (-1 : Int)] : List (Int)).getD (0 + v15.toNat) (0 : Int))), .d ((eL 1 eU8) a0.Bytes)]), (448, .row true 1 (([(0 : Int), (511 : Int), (512 : Int), (8193 : Int), (-1 : Int)] : List (Int)).map eI)), (128, .var .mine [.d (eI (0 : Int)), .nil 1])]) (ok (sto_v (ps' := [.d (eI (([(0 : Int), (511 : Int), (512 : Int), (8193 : Int), (-1 : Int)] : List (Int)).getD (0 + v15.toNat) (0 : Int))), .d ((eL 1 eU8) a0.Bytes)]) rfl rfl rfl rfl)) rfl ?_
      refine hK14 _ _ ?_
      simp only [thenK, blockK, keepE, updM, List.filter_cons, List.filter_nil, List.nil_append, List.cons_append, List.map_cons, List.map_nil, envE, Mem.get, Nat.reduceEqDiff, reduceIte, Option.isNone_none, Option.isNone_some, Bool.false_eq_true, List.length_cons, List.length_nil, Nat.reduceAdd, Nat.reduceMul]
      refine hK10 _ _ _ ?_
      exact hK5 _ _ _ ⟨_, _, Settled.refl, _, _, ⟨_, _, h, rfl, rfl⟩, ⟨rfl, ⟨⟨rfl, rfl⟩, ⟨⟨rfl, rfl⟩, trivial⟩⟩, ⟨⟨rfl, rfl⟩, ⟨⟨rfl, rfl⟩, trivial⟩⟩⟩, rfl⟩
    · replace h := ite_f h h13
      refine rwp_f (isF h13) ?_
      refine rwp_seq fun K18 hK18 => ?_
      refine rwp_region fun K19 hK19 => ?_
      refine st0 512 rfl (ok (eqlI _ (1 : Int))) ?_
      refine st0 576 rfl (ok (mv (.d (eB ((ibits .and .i64 a1 (15 : Int)) == (1 : Int)))))) ?_
      refine hK19 _ _ ?_
      simp only [thenK, blockK, keepE, updM, List.filter_cons, List.filter_nil, List.nil_append, List.cons_append, List.map_cons, List.map_nil, envE, Mem.get, Nat.reduceEqDiff, reduceIte, Option.isNone_none, Option.isNone_some, Bool.false_eq_true, List.length_cons, List.length_nil, Nat.reduceAdd, Nat.reduceMul]
      refine hK18 _ _ _ ?_
      rcases Bool.eq_false_or_eq_true (((ibits .and .i64 a1 (15 : Int)) == (1 : Int))) with h20 | h20
      · replace h := ite_t h h20
        refine rwp_t (isT h20) ?_
        refine rwp_region fun K21 hK21 => ?_
        refine st0 640 rfl (ok (fa_k 1 rfl)) ?_
        refine st0 704 rfl (ok (ld_v (v := .d ((eL 1 eU8) a0.Bytes)) rfl rfl rfl)) ?_
        refine st0 768 rfl (ok (fa_k 1 rfl)) ?_
        refine st0 832 rfl (ok (ld_v (v := .d ((eL 1 eU8) a0.Bytes)) rfl rfl rfl)) ?_
        refine st0 896 rfl (ok (lenL _ _)) ?_
        refine st0 960 rfl (ok (subI _ (1 : Int))) ?_
        obtain ⟨h22, h⟩ := asq_inv h
        obtain ⟨v23, h24, h⟩ := lett_inv h
        refine st0e 1024 rfl (ok (slL_h (xs := a0.Bytes) (e := eU8) h22)) (congrArg (fun z => PV.d ((eL 1 eU8) z)) h24) ?_
        refine st0 1088 rfl (ok (fa_k 1 rfl)) ?_
        refine stn 1152 rfl (mem' := [(64, .var .mine [.d (eI a0.PageSize), .d ((eL 1 eU8) v23)]), (128, .var .mine [.d (eI (0 : Int)), .nil 1])]) (ok (sto_v (ps' := [.d (eI a0.PageSize), .d ((eL 1 eU8) v23)]) rfl rfl rfl rfl)) rfl ?_
        refine hK21 _ _ ?_
        simp only [thenK, blockK, keepE, updM, List.filter_cons, List.filter_nil, List.nil_append, List.cons_append, List.map_cons, List.map_nil, envE, Mem.get, Nat.reduceEqDiff, reduceIte, Option.isNone_none, Option.isNone_some, Bool.false_eq_true, List.length_cons, List.length_nil, Nat.reduceAdd, Nat.reduceMul]
        refine hK10 _ _ _ ?_
        exact hK5 _ _ _ ⟨_, _, Settled.refl, _, _, ⟨_, _, h, rfl, rfl⟩, ⟨rfl, ⟨⟨rfl, rfl⟩, ⟨⟨rfl, rfl⟩, trivial⟩⟩, ⟨⟨rfl, rfl⟩, ⟨⟨rfl, rfl⟩, trivial⟩⟩⟩, rfl⟩
      · replace h := ite_f h h20
        refine rwp_f (isF h20) ?_
        refine rwp_seq fun K25 hK25 => ?_
        refine rwp_region fun K26 hK26 => ?_
        refine st0 640 rfl (ok (eqlI _ (2 : Int))) ?_
        refine st0 704 rfl (ok (mv (.d (eB ((ibits .and .i64 a1 (15 : Int)) == (2 : Int)))))) ?_
        refine hK26 _ _ ?_
        simp only [thenK, blockK, keepE, updM, List.filter_cons, List.filter_nil, List.nil_append, List.cons_append, List.map_cons, List.map_nil, envE, Mem.get, Nat.reduceEqDiff, reduceIte, Option.isNone_none, Option.isNone_some, Bool.false_eq_true, List.length_cons, List.length_nil, Nat.reduceAdd, Nat.reduceMul]
        refine hK25 _ _ _ ?_
        rcases Bool.eq_false_or_eq_true (((ibits .and .i64 a1 (15 : Int)) == (2 : Int))) with h27 | h27
        · replace h := ite_t h h27
          refine rwp_t (isT h27) ?_
          refine rwp_region fun K28 hK28 => ?_
          refine st0 768 rfl (ok (fa_k 1 rfl)) ?_
          refine stn 832 rfl (mem' := [(64, .var .mine [.d (eI a0.PageSize), .nil 1]), (128, .var .mine [.d (eI (0 : Int)), .nil 1])]) (ok (sto_v (y := .nil 1) (ps' := [.d (eI a0.PageSize), .nil 1]) rfl rfl rfl rfl)) rfl ?_
          refine hK28 _ _ ?_
          simp only [thenK, blockK, keepE, updM, List.filter_cons, List.filter_nil, List.nil_append, List.cons_append, List.map_cons, List.map_nil, envE, Mem.get, Nat.reduceEqDiff, reduceIte, Option.isNone_none, Option.isNone_some, Bool.false_eq_true, List.length_cons, List.length_nil, Nat.reduceAdd, Nat.reduceMul]
          refine hK10 _ _ _ ?_
          exact hK5 _ _ _ ⟨_, _, (Settled.cell 64 1 rfl rfl (ds_n eU8 ds_nil) rfl Settled.refl), _, _, ⟨_, _, h, rfl, rfl⟩, ⟨rfl, ⟨⟨rfl, rfl⟩, ⟨⟨rfl, rfl⟩, trivial⟩⟩, ⟨⟨rfl, rfl⟩, ⟨⟨rfl, rfl⟩, trivial⟩⟩⟩, rfl⟩
        · replace h := ite_f h h27
          refine rwp_f (isF h27) ?_
          refine rwp_skip ?_
          refine hK10 _ _ _ ?_
          exact hK5 _ _ _ ⟨_, _, Settled.refl, _, _, ⟨_, _, h, rfl, rfl⟩, ⟨rfl, ⟨⟨rfl, rfl⟩, ⟨⟨rfl, rfl⟩, trivial⟩⟩, ⟨⟨rfl, rfl⟩, ⟨⟨rfl, rfl⟩, trivial⟩⟩⟩, rfl⟩

end Go.Proofs.Ty
