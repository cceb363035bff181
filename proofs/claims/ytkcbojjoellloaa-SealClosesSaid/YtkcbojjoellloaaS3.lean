/- Each Go function comes to what its plain function says. PRINTED by a program of this session (ty.py). -/
import Derived.Test.YtkcbojjoellloaaS2
set_option linter.unusedVariables false
set_option linter.unusedSimpArgs false
set_option maxHeartbeats 4000000
set_option maxRecDepth 10000
namespace Go.Proofs.Ty
open Go Go.RW Go.Proofs
/-- passkey/passkeyref3.Stream -/
def passkeyref3StreamH : Hints := ⟨[(0, [0, 1, 2]), (1, [0, 1, 2]), (2, [0, 1, 2, 7]), (3, [0, 1, 2, 7, 8]), (4, [0, 1, 2, 7, 8, 15]), (6, [0, 1, 2, 7, 8]), (5, [0, 1, 2, 7, 8]), (7, [6])], []⟩
def passkeyref3StreamRc : RCode :=
  .seq (.region false [⟨some 6, .mv, [.k (.nil 1)], none, []⟩] [0, 1, 2]) (.seq (.region false [⟨some 9, .mv, [.t 2], none, []⟩, ⟨some 10, .mx, [.t 9, .k (.d (.int .i64 0))], none,
  []⟩, ⟨some 11, .mn, [.t 10, .k (.d (.int .i64 1024))], none, []⟩, ⟨some 2, .mv, [.t 11], none, []⟩] [0, 1, 2]) (.seq (.region false [⟨some 7, .mv, [.k (.nil 1)], none, []⟩] [0,
  1, 2, 7]) (.seq (.seq (.region false [⟨some 8, .mv, [.k (.d (.int .i64 0))], none, []⟩] [0, 1, 2, 7, 8]) (.block 0 (.loop [] (.seq (.seq (.region false [⟨some 12, .mv, [.t 7],
  none, []⟩, ⟨some 13, .len, [.t 12], none, []⟩, ⟨some 14, .mv, [.t 2], none, []⟩, ⟨some 15, .bin .lss, [.t 13, .t 14], none, []⟩] [0, 1, 2, 7, 8, 15]) (.cond (.t 15) .skip (.exit
  0))) (.seq (.block 1 (.region false [⟨some 18, .mv, [.t 7], none, []⟩, ⟨some 19, .mv, [.t 0], none, []⟩, ⟨some 20, .mv, [.t 1], none, []⟩, ⟨some 21, .mv, [.t 8], none, []⟩, ⟨some
  22, .cvt .u64, [.t 21], none, []⟩, ⟨some 23, .bslice 1 false 2 [.d (.int .u64 0)] [0, 1], [.t 20, .t 22], none, []⟩, ⟨some 24, .call 21 true, [.t 23], none, []⟩, ⟨some 25, .call
  22 false, [.t 19, .k (.d (.int .i64 5)), .t 24], none, []⟩, ⟨some 26, .bslice 1 false 1 [.d (.int .u64 0)] [0], [.t 25], none, []⟩, ⟨some 27, .call 21 true, [.t 26], none, []⟩,
  ⟨some 28, .app 1 140737488355328, [.t 18, .t 27], none, []⟩, ⟨some 7, .mv, [.t 28], none, []⟩] [0, 1, 2, 7, 8])) (.region false [⟨some 16, .mv, [.t 8], none, []⟩, ⟨some 17, .bin
  .add, [.t 16, .k (.d (.int .i64 1))], none, []⟩, ⟨some 8, .mv, [.t 17], none, []⟩] [0, 1, 2, 7, 8])))))) (.seq (.region false [⟨some 29, .mv, [.t 7], none, []⟩, ⟨some 30, .mv,
  [.t 2], none, []⟩, ⟨some 31, .slice 1 false true false, [.t 29, .t 30], none, []⟩, ⟨some 6, .mv, [.t 31], none, []⟩] [6]) .ret))))
def passkeyref3StreamRr : List RR := [.t 6]
theorem passkeyref3StreamC : compFn Try.prog 10 passkeyref3StreamH = some (passkeyref3StreamRc, passkeyref3StreamRr, 32) := by kernel_rfl
theorem passkeyref3StreamOK (a0 : BitVec 64) (a1 : BitVec 64) (a2 : Int) (res : List (BitVec 8)) (h : passkeyref3Stream a0 a1 a2 = some res) : CallOK Try.prog 10 [.d (eU64 a0), .d (eU64 a1), .d (eI a2)] [] (.d ((eL 1 eU8) res)) [] := by
  unfold passkeyref3Stream at h
  refine callOK passkeyref3StreamC fm rfl ?_
  simp only [initE, initM, nbor, List.map_cons, List.map_nil, Nat.reduceAdd]
  unfold passkeyref3StreamRc
  refine rwp_seq fun K1 hK1 => ?_
  refine rwp_region fun K2 hK2 => ?_
  refine st0 128 rfl (ok (mv (.nil 1))) ?_
  refine hK2 _ _ ?_
  simp only [thenK, blockK, keepE, updM, List.filter_cons, List.filter_nil, List.nil_append, List.cons_append, List.map_cons, List.map_nil, envE, Mem.get, Nat.reduceEqDiff, reduceIte, Option.isNone_none, Option.isNone_some, Bool.false_eq_true, List.length_cons, List.length_nil, Nat.reduceAdd, Nat.reduceMul]
  refine hK1 _ _ _ ?_
  refine rwp_seq fun K3 hK3 => ?_
  refine rwp_region fun K4 hK4 => ?_
  refine st0 192 rfl (ok (mv (.d (eI a2)))) ?_
  refine st0 256 rfl (ok (maxI _ (0 : Int))) ?_
  obtain ⟨v5, h6, h⟩ := lett_inv h
  refine st0e 320 rfl (ok (minI _ (1024 : Int))) (congrArg (fun z => PV.d (eI z)) h6) ?_
  refine st0 384 rfl (ok (mv (.d (eI v5)))) ?_
  refine hK4 _ _ ?_
  simp only [thenK, blockK, keepE, updM, List.filter_cons, List.filter_nil, List.nil_append, List.cons_append, List.map_cons, List.map_nil, envE, Mem.get, Nat.reduceEqDiff, reduceIte, Option.isNone_none, Option.isNone_some, Bool.false_eq_true, List.length_cons, List.length_nil, Nat.reduceAdd, Nat.reduceMul]
  refine hK3 _ _ _ ?_
  refine rwp_seq fun K7 hK7 => ?_
  refine rwp_region fun K8 hK8 => ?_
  refine st0 448 rfl (ok (mv (.nil 1))) ?_
  refine hK8 _ _ ?_
  simp only [thenK, blockK, keepE, updM, List.filter_cons, List.filter_nil, List.nil_append, List.cons_append, List.map_cons, List.map_nil, envE, Mem.get, Nat.reduceEqDiff, reduceIte, Option.isNone_none, Option.isNone_some, Bool.false_eq_true, List.length_cons, List.length_nil, Nat.reduceAdd, Nat.reduceMul]
  refine hK7 _ _ _ ?_
  refine rwp_join ([], []) 2240 (fun env mem => ∃ (v9 : List (BitVec 8)), passkeyref3StreamJ1 v5 v9 = some res ∧ env = [(2, .d (eI v5)), (7, .ref 1857 v9.length 0 v9.length)] ∧ mem = [(1857, .row true 1 (v9.map eU8))]) (fun _ _ hI => ?_) (fun K10 hK10 => ?_)
  · obtain ⟨v9, h, rfl, rfl⟩ := hI
    unfold passkeyref3StreamJ1 at h
    refine rwp_seq fun K11 hK11 => ?_
    refine rwp_region fun K12 hK12 => ?_
    refine st0 2304 rfl (ok (mv (.ref 1857 v9.length 0 v9.length))) ?_
    refine st0 2368 rfl (ok (mv (.d (eI v5)))) ?_
    obtain ⟨h13, h⟩ := asq_inv h
    refine st0 2432 rfl (ok (slR_h (ys := v9.map eU8) rfl (by simp) h13)) ?_
    refine st0 2496 rfl (ok (mv (.ref 1857 v9.length (0 + 0) (v5.toNat - 0)))) ?_
    refine hK12 _ _ ?_
    simp only [thenK, blockK, keepE, updM, List.filter_cons, List.filter_nil, List.nil_append, List.cons_append, List.map_cons, List.map_nil, envE, Mem.get, Nat.reduceEqDiff, reduceIte, Option.isNone_none, Option.isNone_some, Bool.false_eq_true, List.length_cons, List.length_nil, Nat.reduceAdd, Nat.reduceMul]
    refine hK11 _ _ _ ?_
    refine rwp_ret ?_
    obtain rfl := Option.some.inj h
    try simp only [thenK, blockK, reduceIte]
    exact Or.inl (end_ok trivial (rs_t (v := .ref 1857 v9.length (0 + 0) (v5.toNat - 0)) rfl rs_nil) (en_d (to_1 rfl (ds_p (ys := v9) rfl rfl ds_nil)) en_nil) ou_nil (by first | exact eok rfl rfl rfl rfl trivial | (refine eok ?_ ?_ ?_ ?_ ?_ <;> first | rfl | exact trivial | simp [retM, Mem.get, PV.renL, PV.ren, Blk.ren, comps, rhoR, rhoM, appN, PV.refsL, PV.refs, keys, nodupB, Blk.refs, allIn, Blk.bor])))
  · refine rwp_seq fun K14 hK14 => ?_
    refine rwp_region fun K15 hK15 => ?_
    refine st0 512 rfl (ok (mv (.d (eI (0 : Int))))) ?_
    refine hK15 _ _ ?_
    simp only [thenK, blockK, keepE, updM, List.filter_cons, List.filter_nil, List.nil_append, List.cons_append, List.map_cons, List.map_nil, envE, Mem.get, Nat.reduceEqDiff, reduceIte, Option.isNone_none, Option.isNone_some, Bool.false_eq_true, List.length_cons, List.length_nil, Nat.reduceAdd, Nat.reduceMul]
    refine hK14 _ _ _ ?_
    refine rwp_block fun K16 hK16 => ?_
    refine rwp_loop ([(7, 1857)], []) 1920 (fun k env mem => ∃ (v17 : List (BitVec 8)) (v18 : Int), passkeyref3StreamL2 a0 a1 v5 k v17 v18 = some res ∧ env = [(0, .d (eU64 a0)), (1, .d (eU64 a1)), (2, .d (eI v5)), (7, .ref 1857 v17.length 0 v17.length), (8, .d (eI v18))] ∧ mem = [(1857, .row true 1 (v17.map eU8))]) FUEL ⟨_, _, Settled.refl, _, _, ⟨_, _, h, rfl, rfl⟩, ⟨rfl, ⟨⟨rfl, rfl⟩, ⟨⟨rfl, rfl⟩, ⟨⟨rfl, rfl⟩, ⟨⟨rfl, rfl⟩, ⟨⟨rfl, rfl⟩, trivial⟩⟩⟩⟩⟩, ⟨⟨rfl, rfl⟩, trivial⟩⟩, rfl⟩ (fun k2 env1 mem1 hI K19 hK19 => ?_)
    obtain ⟨v17, v18, h, rfl, rfl⟩ := hI
    cases k2 with
    | zero => simp [passkeyref3StreamL2] at h
    | succ k2 =>
      rw [passkeyref3StreamL2] at h
      refine rwp_seq fun K20 hK20 => ?_
      refine rwp_seq fun K21 hK21 => ?_
      refine rwp_region fun K22 hK22 => ?_
      refine st0 1984 rfl (ok (mv (.ref 1857 v17.length 0 v17.length))) ?_
      refine st0 2048 rfl (ok (lenR _ _ _ _)) ?_
      refine st0 2112 rfl (ok (mv (.d (eI v5)))) ?_
      refine st0 2176 rfl (ok (lssI _ _)) ?_
      refine hK22 _ _ ?_
      simp only [thenK, blockK, keepE, updM, List.filter_cons, List.filter_nil, List.nil_append, List.cons_append, List.map_cons, List.map_nil, envE, Mem.get, Nat.reduceEqDiff, reduceIte, Option.isNone_none, Option.isNone_some, Bool.false_eq_true, List.length_cons, List.length_nil, Nat.reduceAdd, Nat.reduceMul]
      refine hK21 _ _ _ ?_
      rcases Bool.eq_false_or_eq_true ((decide ((v17.length : Int) < v5))) with h23 | h23
      · replace h := ite_t h h23
        refine rwp_t (isT h23) ?_
        refine rwp_skip ?_
        refine hK20 _ _ _ ?_
        refine rwp_seq fun K24 hK24 => ?_
        refine rwp_block fun K25 hK25 => ?_
        refine rwp_region fun K26 hK26 => ?_
        refine st0 2240 rfl (ok (mv (.ref 1857 v17.length 0 v17.length))) ?_
        refine st0 2304 rfl (ok (mv (.d (eU64 a0)))) ?_
        refine st0 2368 rfl (ok (mv (.d (eU64 a1)))) ?_
        refine st0 2432 rfl (ok (mv (.d (eI v18)))) ?_
        refine st0 2496 rfl (ok (ofI64 _ v18)) ?_
        refine st1 2560 rfl (mem' := [(2496, .row true 1 (([a1, (BitVec.ofInt 64 v18)] : List (BitVec 64)).map eU64)), (1857, .row true 1 (v17.map eU8))]) (ok (bsl (e := eU64) (ys := ([a1, (BitVec.ofInt 64 v18)] : List (BitVec 64))) rfl rfl rfl)) rfl ?_
        obtain ⟨y27, h28, h⟩ := bind_inv h
        refine st1 2624 rfl (mem' := [(2560, .row true 1 (y27.map eU8)), (2496, .row false 1 (([a1, (BitVec.ofInt 64 v18)] : List (BitVec 64)).map eU64)), (1857, .row true 1 (v17.map eU8))]) (call_ok (v := .ref 2560 y27.length 0 y27.length) (u := [(2560, .row true 1 (y27.map eU8)), (2496, .row false 1 (([a1, (BitVec.ofInt 64 v18)] : List (BitVec 64)).map eU64))]) (ar_to rfl (to_1 rfl (ds_r (ys := ([a1, (BitVec.ofInt 64 v18)] : List (BitVec 64))) rfl rfl rfl ds_nil)) ar_nil) rfl (passkeyref1WordsOK ([a1, (BitVec.ofInt 64 v18)] : List (BitVec 64)) y27 h28) rfl) rfl ?_
        obtain ⟨y29, h30, h⟩ := bind_inv h
        refine st0 2688 rfl (call_ok (v := .d (eU64 y29)) (u := []) (ar_d (eU64 a0) (ar_d (eI (5 : Int)) (ar_to rfl (to_1 rfl (ds_r (ys := y27) rfl rfl rfl ds_nil)) ar_nil))) rfl (passkeyref1MacOK a0 (5 : Int) y27 y29 h30) rfl) ?_
        refine st1 2752 rfl (mem' := [(2688, .row true 1 (([y29] : List (BitVec 64)).map eU64)), (2560, .row true 1 (y27.map eU8)), (2496, .row false 1 (([a1, (BitVec.ofInt 64 v18)] : List (BitVec 64)).map eU64)), (1857, .row true 1 (v17.map eU8))]) (ok (bsl (e := eU64) (ys := ([y29] : List (BitVec 64))) rfl rfl rfl)) rfl ?_
        obtain ⟨y31, h32, h⟩ := bind_inv h
        refine st1 2816 rfl (mem' := [(2752, .row true 1 (y31.map eU8)), (2688, .row false 1 (([y29] : List (BitVec 64)).map eU64)), (2560, .row true 1 (y27.map eU8)), (2496, .row false 1 (([a1, (BitVec.ofInt 64 v18)] : List (BitVec 64)).map eU64)), (1857, .row true 1 (v17.map eU8))]) (call_ok (v := .ref 2752 y31.length 0 y31.length) (u := [(2752, .row true 1 (y31.map eU8)), (2688, .row false 1 (([y29] : List (BitVec 64)).map eU64))]) (ar_to rfl (to_1 rfl (ds_r (ys := ([y29] : List (BitVec 64))) rfl rfl rfl ds_nil)) ar_nil) rfl (passkeyref1WordsOK ([y29] : List (BitVec 64)) y31 h32) rfl) rfl ?_
        obtain ⟨h33, h⟩ := asq_inv h
        refine st1 2880 rfl (mem' := [(1857, .row true 1 ((v17 ++ y31).map eU8)), (2752, .row true 1 (y31.map eU8)), (2688, .row false 1 (([y29] : List (BitVec 64)).map eU64)), (2560, .row true 1 (y27.map eU8)), (2496, .row false 1 (([a1, (BitVec.ofInt 64 v18)] : List (BitVec 64)).map eU64))]) (ok (appR (e := eU8) (xs := v17) (ys := y31) (contR (xs := y31) rfl rfl rfl) rfl rfl rfl h33)) rfl ?_
        refine st0 2944 rfl (ok (mv (.ref 1857 (((v17 ++ y31)).length) 0 (((v17 ++ y31)).length)))) ?_
        refine hK26 _ _ ?_
        simp only [thenK, blockK, keepE, updM, List.filter_cons, List.filter_nil, List.nil_append, List.cons_append, List.map_cons, List.map_nil, envE, Mem.get, Nat.reduceEqDiff, reduceIte, Option.isNone_none, Option.isNone_some, Bool.false_eq_true, List.length_cons, List.length_nil, Nat.reduceAdd, Nat.reduceMul]
        refine hK25 _ _ _ ?_
        refine hK24 _ _ _ ?_
        refine rwp_region fun K34 hK34 => ?_
        refine st0 3008 rfl (ok (mv (.d (eI v18)))) ?_
        refine st0 3072 rfl (ok (addI _ (1 : Int))) ?_
        refine st0 3136 rfl (ok (mv (.d (eI (w64 (v18 + (1 : Int))))))) ?_
        refine hK34 _ _ ?_
        simp only [thenK, blockK, keepE, updM, List.filter_cons, List.filter_nil, List.nil_append, List.cons_append, List.map_cons, List.map_nil, envE, Mem.get, Nat.reduceEqDiff, reduceIte, Option.isNone_none, Option.isNone_some, Bool.false_eq_true, List.length_cons, List.length_nil, Nat.reduceAdd, Nat.reduceMul]
        exact hK19.out _ _ _ k2 (Nat.lt_succ_self k2) ⟨_, _, Settled.refl, _, _, ⟨_, _, h, rfl, rfl⟩, ⟨rfl, ⟨⟨rfl, rfl⟩, ⟨⟨rfl, rfl⟩, ⟨⟨rfl, rfl⟩, ⟨⟨rfl, rfl⟩, ⟨⟨rfl, rfl⟩, trivial⟩⟩⟩⟩⟩, ⟨⟨rfl, rfl⟩, trivial⟩⟩, rfl⟩
      · replace h := ite_f h h23
        refine rwp_f (isF h23) ?_
        refine rwp_exit ?_
        refine hK16 _ _ _ ?_
        exact hK10 _ _ _ ⟨_, _, Settled.refl, _, _, ⟨_, h, rfl, rfl⟩, ⟨rfl, ⟨⟨rfl, rfl⟩, ⟨⟨rfl, rfl⟩, trivial⟩⟩, ⟨⟨rfl, rfl⟩, trivial⟩⟩, rfl⟩

theorem sealStreamOwnOK (a0 : BitVec 64) (a1 : BitVec 64) (a2 : Int) (res : List (BitVec 8)) (h : sealStreamOwn a0 a1 a2 = some res) : CallOK Try.prog 9 [.d (eU64 a0), .d (eU64 a1), .d (eI a2)] [] (.ref 0 res.length 0 res.length) [(0, .row true 1 (res.map eU8))] := by
  unfold sealStreamOwn at h
  refine callOK sealStreamC fm rfl ?_
  simp only [initE, initM, nbor, List.map_cons, List.map_nil, Nat.reduceAdd]
  unfold sealStreamRc
  refine rwp_seq fun K1 hK1 => ?_
  refine rwp_region fun K2 hK2 => ?_
  refine st0 128 rfl (ok (mv (.nil 1))) ?_
  refine hK2 _ _ ?_
  simp only [thenK, blockK, keepE, updM, List.filter_cons, List.filter_nil, List.nil_append, List.cons_append, List.map_cons, List.map_nil, envE, Mem.get, Nat.reduceEqDiff, reduceIte, Option.isNone_none, Option.isNone_some, Bool.false_eq_true, List.length_cons, List.length_nil, Nat.reduceAdd, Nat.reduceMul]
  refine hK1 _ _ _ ?_
  refine rwp_seq fun K3 hK3 => ?_
  refine rwp_region fun K4 hK4 => ?_
  refine st0 192 rfl (ok (mv (.d (eI a2)))) ?_
  refine st0 256 rfl (ok (minI _ (1024 : Int))) ?_
  obtain ⟨v5, h6, h⟩ := lett_inv h
  refine st0e 320 rfl (ok (maxI (0 : Int) _)) (congrArg (fun z => PV.d (eI z)) h6) ?_
  refine st0 384 rfl (ok (mv (.d (eI v5)))) ?_
  refine hK4 _ _ ?_
  simp only [thenK, blockK, keepE, updM, List.filter_cons, List.filter_nil, List.nil_append, List.cons_append, List.map_cons, List.map_nil, envE, Mem.get, Nat.reduceEqDiff, reduceIte, Option.isNone_none, Option.isNone_some, Bool.false_eq_true, List.length_cons, List.length_nil, Nat.reduceAdd, Nat.reduceMul]
  refine hK3 _ _ _ ?_
  refine rwp_seq fun K7 hK7 => ?_
  refine rwp_region fun K8 hK8 => ?_
  refine st0 448 rfl (ok (mv (.nil 1))) ?_
  refine hK8 _ _ ?_
  simp only [thenK, blockK, keepE, updM, List.filter_cons, List.filter_nil, List.nil_append, List.cons_append, List.map_cons, List.map_nil, envE, Mem.get, Nat.reduceEqDiff, reduceIte, Option.isNone_none, Option.isNone_some, Bool.false_eq_true, List.length_cons, List.length_nil, Nat.reduceAdd, Nat.reduceMul]
  refine hK7 _ _ _ ?_
  refine rwp_join ([], []) 2176 (fun env mem => ∃ (v9 : List (BitVec 8)), sealStreamOwnJ1 v5 v9 = some res ∧ env = [(2, .d (eI v5)), (7, .ref 1793 v9.length 0 v9.length)] ∧ mem = [(1793, .row true 1 (v9.map eU8))]) (fun _ _ hI => ?_) (fun K10 hK10 => ?_)
  · obtain ⟨v9, h, rfl, rfl⟩ := hI
    unfold sealStreamOwnJ1 at h
    refine rwp_seq fun K11 hK11 => ?_
    refine rwp_region fun K12 hK12 => ?_
    refine st0 2240 rfl (ok (mv (.ref 1793 v9.length 0 v9.length))) ?_
    refine st0 2304 rfl (ok (mv (.d (eI v5)))) ?_
    obtain ⟨h13, h⟩ := asq_inv h
    refine st0 2368 rfl (ok (slR_h (ys := v9.map eU8) rfl (by simp) h13)) ?_
    refine st0 2432 rfl (ok (mv (.ref 1793 v9.length (0 + 0) (v5.toNat - 0)))) ?_
    refine hK12 _ _ ?_
    simp only [thenK, blockK, keepE, updM, List.filter_cons, List.filter_nil, List.nil_append, List.cons_append, List.map_cons, List.map_nil, envE, Mem.get, Nat.reduceEqDiff, reduceIte, Option.isNone_none, Option.isNone_some, Bool.false_eq_true, List.length_cons, List.length_nil, Nat.reduceAdd, Nat.reduceMul]
    refine hK11 _ _ _ ?_
    refine rwp_ret ?_
    obtain ⟨h14, h⟩ := asq_inv h
    obtain rfl := Option.some.inj h
    try simp only [thenK, blockK, reduceIte]
    refine Or.inr ⟨_, _, 2624, trunc_t (e := eU8) (xs := v9) 6 1793 2560 rfl rfl rfl rfl h14 Settled.refl, rfl, ?_⟩
    exact end_ok trivial (rs_t (v := .ref 2560 ((v9.take (v5.toNat - 0))).length 0 ((v9.take (v5.toNat - 0))).length) rfl rs_nil) (en_ref en_nil) ou_nil (by first | exact eok rfl rfl rfl rfl (And.intro (And.intro rfl rfl) trivial) | (refine eok ?_ ?_ ?_ ?_ ?_ <;> first | rfl | exact (And.intro (And.intro rfl rfl) trivial) | simp [retM, Mem.get, PV.renL, PV.ren, Blk.ren, comps, rhoR, rhoM, appN, PV.refsL, PV.refs, keys, nodupB, Blk.refs, allIn, Blk.bor]))
  · refine rwp_seq fun K15 hK15 => ?_
    refine rwp_region fun K16 hK16 => ?_
    refine st0 512 rfl (ok (mv (.d (eU64 (0#64))))) ?_
    refine hK16 _ _ ?_
    simp only [thenK, blockK, keepE, updM, List.filter_cons, List.filter_nil, List.nil_append, List.cons_append, List.map_cons, List.map_nil, envE, Mem.get, Nat.reduceEqDiff, reduceIte, Option.isNone_none, Option.isNone_some, Bool.false_eq_true, List.length_cons, List.length_nil, Nat.reduceAdd, Nat.reduceMul]
    refine hK15 _ _ _ ?_
    refine rwp_block fun K17 hK17 => ?_
    refine rwp_loop ([(7, 1793)], []) 1856 (fun k env mem => ∃ (v18 : List (BitVec 8)) (v19 : BitVec 64), sealStreamOwnL2 a0 a1 v5 k v18 v19 = some res ∧ env = [(0, .d (eU64 a0)), (1, .d (eU64 a1)), (2, .d (eI v5)), (7, .ref 1793 v18.length 0 v18.length), (8, .d (eU64 v19))] ∧ mem = [(1793, .row true 1 (v18.map eU8))]) FUEL ⟨_, _, Settled.refl, _, _, ⟨_, _, h, rfl, rfl⟩, ⟨rfl, ⟨⟨rfl, rfl⟩, ⟨⟨rfl, rfl⟩, ⟨⟨rfl, rfl⟩, ⟨⟨rfl, rfl⟩, ⟨⟨rfl, rfl⟩, trivial⟩⟩⟩⟩⟩, ⟨⟨rfl, rfl⟩, trivial⟩⟩, rfl⟩ (fun k2 env1 mem1 hI K20 hK20 => ?_)
    obtain ⟨v18, v19, h, rfl, rfl⟩ := hI
    cases k2 with
    | zero => simp [sealStreamOwnL2] at h
    | succ k2 =>
      rw [sealStreamOwnL2] at h
      refine rwp_seq fun K21 hK21 => ?_
      refine rwp_seq fun K22 hK22 => ?_
      refine rwp_region fun K23 hK23 => ?_
      refine st0 1920 rfl (ok (mv (.ref 1793 v18.length 0 v18.length))) ?_
      refine st0 1984 rfl (ok (lenR _ _ _ _)) ?_
      refine st0 2048 rfl (ok (mv (.d (eI v5)))) ?_
      refine st0 2112 rfl (ok (lssI _ _)) ?_
      refine hK23 _ _ ?_
      simp only [thenK, blockK, keepE, updM, List.filter_cons, List.filter_nil, List.nil_append, List.cons_append, List.map_cons, List.map_nil, envE, Mem.get, Nat.reduceEqDiff, reduceIte, Option.isNone_none, Option.isNone_some, Bool.false_eq_true, List.length_cons, List.length_nil, Nat.reduceAdd, Nat.reduceMul]
      refine hK22 _ _ _ ?_
      rcases Bool.eq_false_or_eq_true ((decide ((v18.length : Int) < v5))) with h24 | h24
      · replace h := ite_t h h24
        refine rwp_t (isT h24) ?_
        refine rwp_skip ?_
        refine hK21 _ _ _ ?_
        refine rwp_seq fun K25 hK25 => ?_
        refine rwp_block fun K26 hK26 => ?_
        refine rwp_region fun K27 hK27 => ?_
        refine st0 2176 rfl (ok (mv (.ref 1793 v18.length 0 v18.length))) ?_
        refine st0 2240 rfl (ok (mv (.d (eU64 a0)))) ?_
        refine st0 2304 rfl (ok (mv (.d (eU64 a1)))) ?_
        refine st0 2368 rfl (ok (mv (.d (eU64 v19)))) ?_
        refine st1 2432 rfl (mem' := [(2368, .row true 1 (([a1, v19] : List (BitVec 64)).map eU64)), (1793, .row true 1 (v18.map eU8))]) (ok (bsl (e := eU64) (ys := ([a1, v19] : List (BitVec 64))) rfl rfl rfl)) rfl ?_
        obtain ⟨y28, h29, h⟩ := bind_inv h
        refine st1 2496 rfl (mem' := [(2432, .row true 1 (y28.map eU8)), (2368, .row false 1 (([a1, v19] : List (BitVec 64)).map eU64)), (1793, .row true 1 (v18.map eU8))]) (call_ok (v := .ref 2432 y28.length 0 y28.length) (u := [(2432, .row true 1 (y28.map eU8)), (2368, .row false 1 (([a1, v19] : List (BitVec 64)).map eU64))]) (ar_to rfl (to_1 rfl (ds_r (ys := ([a1, v19] : List (BitVec 64))) rfl rfl rfl ds_nil)) ar_nil) rfl (digestWordsOK ([a1, v19] : List (BitVec 64)) y28 h29) rfl) rfl ?_
        obtain ⟨y30, h31, h⟩ := bind_inv h
        refine st0 2560 rfl (call_ok (v := .d (eU64 y30)) (u := []) (ar_d (eU64 a0) (ar_d (eI (5 : Int)) (ar_to rfl (to_1 rfl (ds_r (ys := y28) rfl rfl rfl ds_nil)) ar_nil))) rfl (digestMacOK a0 (5 : Int) y28 y30 h31) rfl) ?_
        refine st1 2624 rfl (mem' := [(2560, .row true 1 (([y30] : List (BitVec 64)).map eU64)), (2432, .row true 1 (y28.map eU8)), (2368, .row false 1 (([a1, v19] : List (BitVec 64)).map eU64)), (1793, .row true 1 (v18.map eU8))]) (ok (bsl (e := eU64) (ys := ([y30] : List (BitVec 64))) rfl rfl rfl)) rfl ?_
        obtain ⟨y32, h33, h⟩ := bind_inv h
        refine st1 2688 rfl (mem' := [(2624, .row true 1 (y32.map eU8)), (2560, .row false 1 (([y30] : List (BitVec 64)).map eU64)), (2432, .row true 1 (y28.map eU8)), (2368, .row false 1 (([a1, v19] : List (BitVec 64)).map eU64)), (1793, .row true 1 (v18.map eU8))]) (call_ok (v := .ref 2624 y32.length 0 y32.length) (u := [(2624, .row true 1 (y32.map eU8)), (2560, .row false 1 (([y30] : List (BitVec 64)).map eU64))]) (ar_to rfl (to_1 rfl (ds_r (ys := ([y30] : List (BitVec 64))) rfl rfl rfl ds_nil)) ar_nil) rfl (digestWordsOK ([y30] : List (BitVec 64)) y32 h33) rfl) rfl ?_
        obtain ⟨h34, h⟩ := asq_inv h
        refine st1 2752 rfl (mem' := [(1793, .row true 1 ((v18 ++ y32).map eU8)), (2624, .row true 1 (y32.map eU8)), (2560, .row false 1 (([y30] : List (BitVec 64)).map eU64)), (2432, .row true 1 (y28.map eU8)), (2368, .row false 1 (([a1, v19] : List (BitVec 64)).map eU64))]) (ok (appR (e := eU8) (xs := v18) (ys := y32) (contR (xs := y32) rfl rfl rfl) rfl rfl rfl h34)) rfl ?_
        refine st0 2816 rfl (ok (mv (.ref 1793 (((v18 ++ y32)).length) 0 (((v18 ++ y32)).length)))) ?_
        refine hK27 _ _ ?_
        simp only [thenK, blockK, keepE, updM, List.filter_cons, List.filter_nil, List.nil_append, List.cons_append, List.map_cons, List.map_nil, envE, Mem.get, Nat.reduceEqDiff, reduceIte, Option.isNone_none, Option.isNone_some, Bool.false_eq_true, List.length_cons, List.length_nil, Nat.reduceAdd, Nat.reduceMul]
        refine hK26 _ _ _ ?_
        refine hK25 _ _ _ ?_
        refine rwp_region fun K35 hK35 => ?_
        refine st0 2880 rfl (ok (mv (.d (eU64 v19)))) ?_
        refine st0 2944 rfl (ok (add64 _ (1#64))) ?_
        refine st0 3008 rfl (ok (mv (.d (eU64 (v19 + (1#64)))))) ?_
        refine hK35 _ _ ?_
        simp only [thenK, blockK, keepE, updM, List.filter_cons, List.filter_nil, List.nil_append, List.cons_append, List.map_cons, List.map_nil, envE, Mem.get, Nat.reduceEqDiff, reduceIte, Option.isNone_none, Option.isNone_some, Bool.false_eq_true, List.length_cons, List.length_nil, Nat.reduceAdd, Nat.reduceMul]
        exact hK20.out _ _ _ k2 (Nat.lt_succ_self k2) ⟨_, _, Settled.refl, _, _, ⟨_, _, h, rfl, rfl⟩, ⟨rfl, ⟨⟨rfl, rfl⟩, ⟨⟨rfl, rfl⟩, ⟨⟨rfl, rfl⟩, ⟨⟨rfl, rfl⟩, ⟨⟨rfl, rfl⟩, trivial⟩⟩⟩⟩⟩, ⟨⟨rfl, rfl⟩, trivial⟩⟩, rfl⟩
      · replace h := ite_f h h24
        refine rwp_f (isF h24) ?_
        refine rwp_exit ?_
        refine hK17 _ _ _ ?_
        exact hK10 _ _ _ ⟨_, _, Settled.refl, _, _, ⟨_, h, rfl, rfl⟩, ⟨rfl, ⟨⟨rfl, rfl⟩, ⟨⟨rfl, rfl⟩, trivial⟩⟩, ⟨⟨rfl, rfl⟩, trivial⟩⟩, rfl⟩

/-- passkey/seal.mixed -/
def sealmixedH : Hints := ⟨[(0, [0, 1, 2]), (1, [2, 7]), (2, [2, 7, 15, 16]), (3, [2, 7, 15, 16, 17]), (4, [2, 7, 8, 15, 16]), (5, [2, 7, 15, 16]), (6, [2, 7, 15, 16]), (7, [6])], []⟩
def sealmixedRc : RCode :=
  .seq (.region false [⟨some 6, .mv, [.k (.nil 1)], none, []⟩] [0, 1, 2]) (.seq (.region false [⟨some 9, .mv, [.t 0], none, []⟩, ⟨some 10, .mv, [.t 1], none, []⟩, ⟨some 11, .mv, [.t
  2], none, []⟩, ⟨some 12, .len, [.t 11], none, []⟩, ⟨some 13, .call 9 true, [.t 9, .t 10, .t 12], none, []⟩, ⟨some 7, .mv, [.t 13], none, []⟩] [2, 7]) (.seq (.seq (.region false
  [⟨some 14, .mv, [.t 7], none, []⟩, ⟨some 15, .len, [.t 14], none, []⟩, ⟨some 16, .mv, [.k (.d (.int .i64 0))], none, []⟩] [2, 7, 15, 16]) (.block 0 (.loop [] (.seq (.region false
  [⟨some 17, .bin .lss, [.t 16, .t 15], none, []⟩] [2, 7, 15, 16, 17]) (.seq (.cond (.t 17) .skip (.exit 0)) (.seq (.block 1 (.seq (.region false [⟨some 18, .mv, [.t 16], none,
  []⟩, ⟨some 8, .mv, [.t 18], none, []⟩] [2, 7, 8, 15, 16]) (.region true [⟨some 19, .mv, [.t 7], none, []⟩, ⟨some 20, .mv, [.t 8], none, []⟩, ⟨some 21, .ia 1, [.t 19, .t 20],
  none, [0, 1]⟩, ⟨some 22, .load 1 false, [.t 21], none, [0, 1, 2]⟩, ⟨some 23, .mv, [.t 2], none, []⟩, ⟨some 24, .mv, [.t 8], none, []⟩, ⟨some 25, .ia 1, [.t 23, .t 24], none, [4,
  5]⟩, ⟨some 26, .load 1 false, [.t 25], none, [4, 5, 6]⟩, ⟨some 27, .bin .xor, [.t 22, .t 26], none, [0, 1, 2, 3, 4, 5, 6, 7]⟩, ⟨some 28, .ia 1, [.t 19, .t 20], none, [0, 1, 2, 3,
  4, 5, 6, 7, 8]⟩, ⟨none, .store 1, [.t 28, .t 27], none, [0, 1, 2, 3, 4, 5, 6, 7, 8, 9]⟩] [2, 7, 15, 16]))) (.region false [⟨some 29, .bin .add, [.t 16, .k (.d (.int .i64 1))],
  none, []⟩, ⟨some 16, .mv, [.t 29], none, []⟩] [2, 7, 15, 16]))))))) (.seq (.region false [⟨some 30, .mv, [.t 7], none, []⟩, ⟨some 6, .mv, [.t 30], none, []⟩] [6]) .ret)))
def sealmixedRr : List RR := [.t 6]
theorem sealmixedC : compFn Try.prog 23 sealmixedH = some (sealmixedRc, sealmixedRr, 31) := by kernel_rfl
theorem sealmixedOK (a0 : BitVec 64) (a1 : BitVec 64) (a2 : List (BitVec 8)) (res : List (BitVec 8)) (h : sealmixed a0 a1 a2 = some res) : CallOK Try.prog 23 [.d (eU64 a0), .d (eU64 a1), .d ((eL 1 eU8) a2)] [] (.ref 0 res.length 0 res.length) [(0, .row true 1 (res.map eU8))] := by
  unfold sealmixed at h
  refine callOK sealmixedC fm rfl ?_
  simp only [initE, initM, nbor, List.map_cons, List.map_nil, Nat.reduceAdd]
  unfold sealmixedRc
  refine rwp_seq fun K1 hK1 => ?_
  refine rwp_region fun K2 hK2 => ?_
  refine st0 128 rfl (ok (mv (.nil 1))) ?_
  refine hK2 _ _ ?_
  simp only [thenK, blockK, keepE, updM, List.filter_cons, List.filter_nil, List.nil_append, List.cons_append, List.map_cons, List.map_nil, envE, Mem.get, Nat.reduceEqDiff, reduceIte, Option.isNone_none, Option.isNone_some, Bool.false_eq_true, List.length_cons, List.length_nil, Nat.reduceAdd, Nat.reduceMul]
  refine hK1 _ _ _ ?_
  refine rwp_seq fun K3 hK3 => ?_
  refine rwp_region fun K4 hK4 => ?_
  refine st0 192 rfl (ok (mv (.d (eU64 a0)))) ?_
  refine st0 256 rfl (ok (mv (.d (eU64 a1)))) ?_
  refine st0 320 rfl (ok (mv (.d ((eL 1 eU8) a2)))) ?_
  refine st0 384 rfl (ok (lenL _ _)) ?_
  obtain ⟨y5, h6, h⟩ := bind_inv h
  refine st1 448 rfl (mem' := [(384, .row true 1 (y5.map eU8))]) (call_ok (v := .ref 384 y5.length 0 y5.length) (u := [(384, .row true 1 (y5.map eU8))]) (ar_d (eU64 a0) (ar_d (eU64 a1) (ar_d (eI (a2.length : Int)) ar_nil))) rfl (sealStreamOwnOK a0 a1 (a2.length : Int) y5 h6) rfl) rfl ?_
  refine st0 512 rfl (ok (mv (.ref 384 y5.length 0 y5.length))) ?_
  refine hK4 _ _ ?_
  simp only [thenK, blockK, keepE, updM, List.filter_cons, List.filter_nil, List.nil_append, List.cons_append, List.map_cons, List.map_nil, envE, Mem.get, Nat.reduceEqDiff, reduceIte, Option.isNone_none, Option.isNone_some, Bool.false_eq_true, List.length_cons, List.length_nil, Nat.reduceAdd, Nat.reduceMul]
  refine hK3 _ _ _ ?_
  refine rwp_join ([], []) 1984 (fun env mem => ∃ (v7 : List (BitVec 8)), sealmixedJ1 v7 = some res ∧ env = [(7, .ref 384 v7.length 0 v7.length)] ∧ mem = [(384, .row true 1 (v7.map eU8))]) (fun _ _ hI => ?_) (fun K8 hK8 => ?_)
  · obtain ⟨v7, h, rfl, rfl⟩ := hI
    unfold sealmixedJ1 at h
    refine rwp_seq fun K9 hK9 => ?_
    refine rwp_region fun K10 hK10 => ?_
    refine st0 2048 rfl (ok (mv (.ref 384 v7.length 0 v7.length))) ?_
    refine st0 2112 rfl (ok (mv (.ref 384 v7.length 0 v7.length))) ?_
    refine hK10 _ _ ?_
    simp only [thenK, blockK, keepE, updM, List.filter_cons, List.filter_nil, List.nil_append, List.cons_append, List.map_cons, List.map_nil, envE, Mem.get, Nat.reduceEqDiff, reduceIte, Option.isNone_none, Option.isNone_some, Bool.false_eq_true, List.length_cons, List.length_nil, Nat.reduceAdd, Nat.reduceMul]
    refine hK9 _ _ _ ?_
    refine rwp_ret ?_
    obtain rfl := Option.some.inj h
    try simp only [thenK, blockK, reduceIte]
    exact Or.inl (end_ok trivial (rs_t (v := .ref 384 v7.length 0 v7.length) rfl rs_nil) (en_ref en_nil) ou_nil (by first | exact eok rfl rfl rfl rfl (And.intro (And.intro rfl rfl) trivial) | (refine eok ?_ ?_ ?_ ?_ ?_ <;> first | rfl | exact (And.intro (And.intro rfl rfl) trivial) | simp [retM, Mem.get, PV.renL, PV.ren, Blk.ren, comps, rhoR, rhoM, appN, PV.refsL, PV.refs, keys, nodupB, Blk.refs, allIn, Blk.bor])))
  · refine rwp_seq fun K11 hK11 => ?_
    refine rwp_region fun K12 hK12 => ?_
    refine st0 576 rfl (ok (mv (.ref 384 y5.length 0 y5.length))) ?_
    refine st0 640 rfl (ok (lenR _ _ _ _)) ?_
    refine st0 704 rfl (ok (mv (.d (eI (0 : Int))))) ?_
    refine hK12 _ _ ?_
    simp only [thenK, blockK, keepE, updM, List.filter_cons, List.filter_nil, List.nil_append, List.cons_append, List.map_cons, List.map_nil, envE, Mem.get, Nat.reduceEqDiff, reduceIte, Option.isNone_none, Option.isNone_some, Bool.false_eq_true, List.length_cons, List.length_nil, Nat.reduceAdd, Nat.reduceMul]
    refine hK11 _ _ _ ?_
    refine rwp_block fun K13 hK13 => ?_
    refine rwp_loop ([], []) 1856 (fun k env mem => ∃ (v14 : List (BitVec 8)) (v15 : Int), sealmixedL2 a2 y5 k v14 v15 = some res ∧ env = [(2, .d ((eL 1 eU8) a2)), (7, .ref 384 v14.length 0 v14.length), (15, .d (eI (y5.length : Int))), (16, .d (eI v15))] ∧ mem = [(384, .row true 1 (v14.map eU8))]) FUEL ⟨_, _, Settled.refl, _, _, ⟨_, _, h, rfl, rfl⟩, ⟨rfl, ⟨⟨rfl, rfl⟩, ⟨⟨rfl, rfl⟩, ⟨⟨rfl, rfl⟩, ⟨⟨rfl, rfl⟩, trivial⟩⟩⟩⟩, ⟨⟨rfl, rfl⟩, trivial⟩⟩, rfl⟩ (fun k2 env1 mem1 hI K16 hK16 => ?_)
    obtain ⟨v14, v15, h, rfl, rfl⟩ := hI
    cases k2 with
    | zero => simp [sealmixedL2] at h
    | succ k2 =>
      rw [sealmixedL2] at h
      refine rwp_seq fun K17 hK17 => ?_
      refine rwp_region fun K18 hK18 => ?_
      refine st0 1920 rfl (ok (lssI _ _)) ?_
      refine hK18 _ _ ?_
      simp only [thenK, blockK, keepE, updM, List.filter_cons, List.filter_nil, List.nil_append, List.cons_append, List.map_cons, List.map_nil, envE, Mem.get, Nat.reduceEqDiff, reduceIte, Option.isNone_none, Option.isNone_some, Bool.false_eq_true, List.length_cons, List.length_nil, Nat.reduceAdd, Nat.reduceMul]
      refine hK17 _ _ _ ?_
      refine rwp_seq fun K19 hK19 => ?_
      rcases Bool.eq_false_or_eq_true ((decide (v15 < (y5.length : Int)))) with h20 | h20
      · replace h := ite_t h h20
        refine rwp_t (isT h20) ?_
        refine rwp_skip ?_
        refine hK19 _ _ _ ?_
        refine rwp_seq fun K21 hK21 => ?_
        refine rwp_block fun K22 hK22 => ?_
        refine rwp_seq fun K23 hK23 => ?_
        refine rwp_region fun K24 hK24 => ?_
        refine st0 1984 rfl (ok (mv (.d (eI v15)))) ?_
        refine st0 2048 rfl (ok (mv (.d (eI v15)))) ?_
        refine hK24 _ _ ?_
        simp only [thenK, blockK, keepE, updM, List.filter_cons, List.filter_nil, List.nil_append, List.cons_append, List.map_cons, List.map_nil, envE, Mem.get, Nat.reduceEqDiff, reduceIte, Option.isNone_none, Option.isNone_some, Bool.false_eq_true, List.length_cons, List.length_nil, Nat.reduceAdd, Nat.reduceMul]
        refine hK23 _ _ _ ?_
        refine rwp_draw fun K25 hK25 => ?_
        refine dr0 2112 rfl (ok (mv (.ref 384 v14.length 0 v14.length))) (by kernel_rfl) ?_
        refine dr0 2176 rfl (ok (mv (.d (eI v15)))) (by kernel_rfl) ?_
        obtain ⟨h26, h⟩ := asq_inv h
        refine dr0 2240 rfl (ok (iaR (xs := v14) (e := eU8) rfl rfl h26)) (by kernel_rfl) ?_
        refine dr0 2304 rfl (ok (ld_r (e := eU8) (xs := v14) 0#8 rfl rfl (by have := h26; simp at this ⊢; omega) rfl)) (by kernel_rfl) ?_
        refine dr0 2368 rfl (ok (mv (.d ((eL 1 eU8) a2)))) (by kernel_rfl) ?_
        refine dr0 2432 rfl (ok (mv (.d (eI v15)))) (by kernel_rfl) ?_
        obtain ⟨h27, h⟩ := asq_inv h
        refine dr0 2496 rfl (ok (iaL (e := eU8) (xs := a2) 0#8 h27)) (by kernel_rfl) ?_
        refine dr0 2560 rfl (ok (ld_i (v := eU8 (a2.getD v15.toNat 0#8)) rfl rfl)) (by kernel_rfl) ?_
        obtain ⟨v28, h29, h⟩ := lett_inv h
        refine dr0e 2624 rfl (ok (xor8 _ _)) (congrArg (fun z => PV.d (eU8 z)) h29) (by kernel_rfl) ?_
        obtain ⟨h30, h⟩ := asq_inv h
        refine dr0 2688 rfl (ok (iaR (xs := v14) (e := eU8) rfl rfl h30)) (by kernel_rfl) ?_
        refine drn 2752 rfl (mem' := [(384, .row true 1 ((v14.set (0 + v15.toNat) v28).map eU8))]) (ok (sto_r (e := eU8) (xs := v14) (y := v28) rfl rfl rfl)) rfl (by kernel_rfl) ?_
        refine hK25 _ _ ?_
        simp only [thenK, blockK, keepE, updM, List.filter_cons, List.filter_nil, List.nil_append, List.cons_append, List.map_cons, List.map_nil, envE, Mem.get, Nat.reduceEqDiff, reduceIte, Option.isNone_none, Option.isNone_some, Bool.false_eq_true, List.length_cons, List.length_nil, Nat.reduceAdd, Nat.reduceMul]
        refine hK22 _ _ _ ?_
        refine hK21 _ _ _ ?_
        refine rwp_region fun K31 hK31 => ?_
        refine st0 2816 rfl (ok (addI _ (1 : Int))) ?_
        refine st0 2880 rfl (ok (mv (.d (eI (w64 (v15 + (1 : Int))))))) ?_
        refine hK31 _ _ ?_
        simp only [thenK, blockK, keepE, updM, List.filter_cons, List.filter_nil, List.nil_append, List.cons_append, List.map_cons, List.map_nil, envE, Mem.get, Nat.reduceEqDiff, reduceIte, Option.isNone_none, Option.isNone_some, Bool.false_eq_true, List.length_cons, List.length_nil, Nat.reduceAdd, Nat.reduceMul]
        exact hK16.out _ _ _ k2 (Nat.lt_succ_self k2) ⟨_, _, Settled.refl, _, _, ⟨_, _, h, rfl, rfl⟩, (by refine ⟨rfl, ⟨⟨?_, rfl⟩, ⟨⟨?_, rfl⟩, ⟨⟨?_, rfl⟩, ⟨⟨?_, rfl⟩, trivial⟩⟩⟩⟩, ⟨⟨?_, rfl⟩, trivial⟩⟩ <;> first | rfl | (exact refEq rfl (by simp) rfl (by simp)) | simp [envE, Mem.get, liftE, liftV, rhoOf, rhoE, rhoM, appN, PV.refs, PV.refsL, Blk.refs, PV.ren, PV.renL, Blk.ren]), rfl⟩
      · replace h := ite_f h h20
        refine rwp_f (isF h20) ?_
        refine rwp_exit ?_
        refine hK13 _ _ _ ?_
        exact hK8 _ _ _ ⟨_, _, Settled.refl, _, _, ⟨_, h, rfl, rfl⟩, ⟨rfl, ⟨⟨rfl, rfl⟩, trivial⟩, ⟨⟨rfl, rfl⟩, trivial⟩⟩, rfl⟩

/-- passkey/seal.tag -/
def sealtagH : Hints := ⟨[(0, [0, 1, 2, 3, 8]), (1, [0, 3, 8, 9]), (2, [8])], []⟩
def sealtagRc : RCode :=
  .seq (.region false [⟨some 8, .alloc [.d (.int .u8 0), .d (.int .u8 0), .d (.int .u8 0), .d (.int .u8 0), .d (.int .u8 0), .d (.int .u8 0), .d (.int .u8 0), .d (.int .u8 0)], [],
  none, []⟩] [0, 1, 2, 3, 8]) (.seq (.region false [⟨some 10, .mv, [.t 1], none, []⟩, ⟨some 11, .mv, [.t 2], none, []⟩, ⟨some 12, .len, [.t 11], none, []⟩, ⟨some 13, .cvt .u64, [.t
  12], none, []⟩, ⟨some 14, .bslice 1 false 2 [.d (.int .u64 0)] [0, 1], [.t 10, .t 13], none, []⟩, ⟨some 15, .call 19 true, [.t 14], none, []⟩, ⟨some 16, .mv, [.t 2], none, []⟩,
  ⟨some 17, .app 1 140737488355328, [.t 15, .t 16], none, []⟩, ⟨some 9, .mv, [.t 17], none, []⟩] [0, 3, 8, 9]) (.seq (.region false [⟨some 18, .mv, [.t 0], none, []⟩, ⟨some 19,
  .mv, [.t 9], none, []⟩, ⟨some 20, .mv, [.t 3], none, []⟩, ⟨some 21, .app 1 140737488355328, [.t 19, .t 20], none, []⟩, ⟨some 22, .call 20 false, [.t 18, .k (.d (.int .i64 6)), .t
  21], none, []⟩, ⟨some 23, .bslice 1 false 1 [.d (.int .u64 0)] [0], [.t 22], none, []⟩, ⟨some 24, .call 19 true, [.t 23], none, []⟩, ⟨some 25, .s2a 8, [.t 24], none, []⟩, ⟨some
  26, .load 8 true, [.t 25], none, []⟩, ⟨none, .store 8, [.t 8, .t 26], none, []⟩] [8]) .ret))
def sealtagRr : List RR := [.c 8 8 true]
theorem sealtagC : compFn Try.prog 24 sealtagH = some (sealtagRc, sealtagRr, 27) := by kernel_rfl
theorem sealtagOK (a0 : BitVec 64) (a1 : BitVec 64) (a2 : List (BitVec 8)) (a3 : List (BitVec 8)) (res : List (BitVec 8)) (h : sealtag a0 a1 a2 a3 = some res) : CallOK Try.prog 24 [.d (eU64 a0), .d (eU64 a1), .d ((eL 1 eU8) a2), .d ((eL 1 eU8) a3)] [] (.d ((eA eU8) res)) [] := by
  unfold sealtag at h
  refine callOK sealtagC fm rfl ?_
  simp only [initE, initM, nbor, List.map_cons, List.map_nil, Nat.reduceAdd]
  unfold sealtagRc
  refine rwp_seq fun K1 hK1 => ?_
  refine rwp_region fun K2 hK2 => ?_
  refine st1 128 rfl (mem' := [(64, .var .mine ((List.replicate 8 (0#8)).map fun x => .d (eU8 x)))]) (ok (alcA (e := eU8) (xs := (List.replicate 8 (0#8))) rfl)) rfl ?_
  refine hK2 _ _ ?_
  simp only [thenK, blockK, keepE, updM, List.filter_cons, List.filter_nil, List.nil_append, List.cons_append, List.map_cons, List.map_nil, envE, Mem.get, Nat.reduceEqDiff, reduceIte, Option.isNone_none, Option.isNone_some, Bool.false_eq_true, List.length_cons, List.length_nil, Nat.reduceAdd, Nat.reduceMul]
  refine hK1 _ _ _ ?_
  refine rwp_seq fun K3 hK3 => ?_
  refine rwp_region fun K4 hK4 => ?_
  refine st0 192 rfl (ok (mv (.d (eU64 a1)))) ?_
  refine st0 256 rfl (ok (mv (.d ((eL 1 eU8) a2)))) ?_
  refine st0 320 rfl (ok (lenL _ _)) ?_
  refine st0 384 rfl (ok (ofI64 _ (a2.length : Int))) ?_
  refine st1 448 rfl (mem' := [(384, .row true 1 (([a1, (BitVec.ofInt 64 (a2.length : Int))] : List (BitVec 64)).map eU64)), (64, .var .mine ((List.replicate 8 (0#8)).map fun x => .d (eU8 x)))]) (ok (bsl (e := eU64) (ys := ([a1, (BitVec.ofInt 64 (a2.length : Int))] : List (BitVec 64))) rfl rfl rfl)) rfl ?_
  obtain ⟨y5, h6, h⟩ := bind_inv h
  refine st1 512 rfl (mem' := [(448, .row true 1 (y5.map eU8)), (384, .row false 1 (([a1, (BitVec.ofInt 64 (a2.length : Int))] : List (BitVec 64)).map eU64)), (64, .var .mine ((List.replicate 8 (0#8)).map fun x => .d (eU8 x)))]) (call_ok (v := .ref 448 y5.length 0 y5.length) (u := [(448, .row true 1 (y5.map eU8)), (384, .row false 1 (([a1, (BitVec.ofInt 64 (a2.length : Int))] : List (BitVec 64)).map eU64))]) (ar_to rfl (to_1 rfl (ds_r (ys := ([a1, (BitVec.ofInt 64 (a2.length : Int))] : List (BitVec 64))) rfl rfl rfl ds_nil)) ar_nil) rfl (digestWordsOK ([a1, (BitVec.ofInt 64 (a2.length : Int))] : List (BitVec 64)) y5 h6) rfl) rfl ?_
  refine st0 576 rfl (ok (mv (.d ((eL 1 eU8) a2)))) ?_
  obtain ⟨h7, h⟩ := asq_inv h
  refine st1 640 rfl (mem' := [(448, .row true 1 ((y5 ++ a2).map eU8)), (384, .row false 1 (([a1, (BitVec.ofInt 64 (a2.length : Int))] : List (BitVec 64)).map eU64)), (64, .var .mine ((List.replicate 8 (0#8)).map fun x => .d (eU8 x)))]) (ok (appR (e := eU8) (xs := y5) (ys := a2) contL rfl rfl rfl h7)) rfl ?_
  refine st0 704 rfl (ok (mv (.ref 448 (((y5 ++ a2)).length) 0 (((y5 ++ a2)).length)))) ?_
  refine hK4 _ _ ?_
  simp only [thenK, blockK, keepE, updM, List.filter_cons, List.filter_nil, List.nil_append, List.cons_append, List.map_cons, List.map_nil, envE, Mem.get, Nat.reduceEqDiff, reduceIte, Option.isNone_none, Option.isNone_some, Bool.false_eq_true, List.length_cons, List.length_nil, Nat.reduceAdd, Nat.reduceMul]
  refine hK3 _ _ _ ?_
  refine rwp_seq fun K8 hK8 => ?_
  refine rwp_region fun K9 hK9 => ?_
  refine st0 768 rfl (ok (mv (.d (eU64 a0)))) ?_
  refine st0 832 rfl (ok (mv (.ref 448 (((y5 ++ a2)).length) 0 (((y5 ++ a2)).length)))) ?_
  refine st0 896 rfl (ok (mv (.d ((eL 1 eU8) a3)))) ?_
  obtain ⟨h10, h⟩ := asq_inv h
  refine st1 960 rfl (mem' := [(448, .row true 1 (((y5 ++ a2) ++ a3).map eU8)), (384, .row false 1 (([a1, (BitVec.ofInt 64 (a2.length : Int))] : List (BitVec 64)).map eU64)), (64, .var .mine ((List.replicate 8 (0#8)).map fun x => .d (eU8 x)))]) (ok (appR (e := eU8) (xs := (y5 ++ a2)) (ys := a3) contL rfl rfl rfl h10)) rfl ?_
  obtain ⟨y11, h12, h⟩ := bind_inv h
  refine st0 1024 rfl (call_ok (v := .d (eU64 y11)) (u := []) (ar_d (eU64 a0) (ar_d (eI (6 : Int)) (ar_to rfl (to_1 rfl (ds_r (ys := ((y5 ++ a2) ++ a3)) rfl rfl rfl ds_nil)) ar_nil))) rfl (digestMacOK a0 (6 : Int) ((y5 ++ a2) ++ a3) y11 h12) rfl) ?_
  refine st1 1088 rfl (mem' := [(1024, .row true 1 (([y11] : List (BitVec 64)).map eU64)), (448, .row true 1 (((y5 ++ a2) ++ a3).map eU8)), (384, .row false 1 (([a1, (BitVec.ofInt 64 (a2.length : Int))] : List (BitVec 64)).map eU64)), (64, .var .mine ((List.replicate 8 (0#8)).map fun x => .d (eU8 x)))]) (ok (bsl (e := eU64) (ys := ([y11] : List (BitVec 64))) rfl rfl rfl)) rfl ?_
  obtain ⟨y13, h14, h⟩ := bind_inv h
  refine st1 1152 rfl (mem' := [(1088, .row true 1 (y13.map eU8)), (1024, .row false 1 (([y11] : List (BitVec 64)).map eU64)), (448, .row true 1 (((y5 ++ a2) ++ a3).map eU8)), (384, .row false 1 (([a1, (BitVec.ofInt 64 (a2.length : Int))] : List (BitVec 64)).map eU64)), (64, .var .mine ((List.replicate 8 (0#8)).map fun x => .d (eU8 x)))]) (call_ok (v := .ref 1088 y13.length 0 y13.length) (u := [(1088, .row true 1 (y13.map eU8)), (1024, .row false 1 (([y11] : List (BitVec 64)).map eU64))]) (ar_to rfl (to_1 rfl (ds_r (ys := ([y11] : List (BitVec 64))) rfl rfl rfl ds_nil)) ar_nil) rfl (digestWordsOK ([y11] : List (BitVec 64)) y13 h14) rfl) rfl ?_
  obtain ⟨h15, h⟩ := asq_inv h
  refine st1 1216 rfl (mem' := [(1088, .row false 1 (y13.map eU8)), (1024, .row false 1 (([y11] : List (BitVec 64)).map eU64)), (448, .row true 1 (((y5 ++ a2) ++ a3).map eU8)), (384, .row false 1 (([a1, (BitVec.ofInt 64 (a2.length : Int))] : List (BitVec 64)).map eU64)), (64, .var .mine ((List.replicate 8 (0#8)).map fun x => .d (eU8 x)))]) (ok (s2aR (e := eU8) (xs := y13) (fun _ => rfl) (by decide) rfl rfl h15)) rfl ?_
  obtain ⟨h16, h⟩ := asq_inv h
  refine st0 1280 rfl (ok (ld_iA (e := eU8) (xs := (((y13.drop 0).take y13.length).take 8)) h16)) ?_
  obtain ⟨h17, h⟩ := asq_inv h
  refine stn 1344 rfl (mem' := [(64, .var .mine ((((y13.drop 0).take y13.length).take 8).map fun x => .d (eU8 x))), (1088, .row false 1 (y13.map eU8)), (1024, .row false 1 (([y11] : List (BitVec 64)).map eU64)), (448, .row true 1 (((y5 ++ a2) ++ a3).map eU8)), (384, .row false 1 (([a1, (BitVec.ofInt 64 (a2.length : Int))] : List (BitVec 64)).map eU64))]) (ok (stoA (e := eU8) (xs := (List.replicate 8 (0#8))) (ys := (((y13.drop 0).take y13.length).take 8)) rfl rfl h17)) rfl ?_
  refine hK9 _ _ ?_
  simp only [thenK, blockK, keepE, updM, List.filter_cons, List.filter_nil, List.nil_append, List.cons_append, List.map_cons, List.map_nil, envE, Mem.get, Nat.reduceEqDiff, reduceIte, Option.isNone_none, Option.isNone_some, Bool.false_eq_true, List.length_cons, List.length_nil, Nat.reduceAdd, Nat.reduceMul]
  refine hK8 _ _ _ ?_
  refine rwp_ret ?_
  obtain ⟨h18, h⟩ := asq_inv h
  obtain rfl := Option.some.inj h
  try simp only [thenK, blockK, reduceIte]
  exact Or.inl (end_ok trivial (rs_cA (e := eU8) (xs := (((y13.drop 0).take y13.length).take 8)) (id := 64) rfl rfl h18 rs_nil) (en_d (to_d _) en_nil) ou_nil (by first | exact eok rfl rfl rfl rfl trivial | (refine eok ?_ ?_ ?_ ?_ ?_ <;> first | rfl | exact trivial | simp [retM, Mem.get, PV.renL, PV.ren, Blk.ren, comps, rhoR, rhoM, appN, PV.refsL, PV.refs, keys, nodupB, Blk.refs, allIn, Blk.bor])))

/-- passkey/seal.Seal -/
def sealSealH : Hints := ⟨[(0, [0, 1, 2, 3]), (1, [0, 1, 2, 3, 19]), (2, [8, 9]), (3, [0, 1, 2, 10]), (4, [1, 10, 11]), (5, [8, 9])], []⟩
def sealSealRc : RCode :=
  .seq (.region false [⟨some 8, .mv, [.k (.nil 1)], none, []⟩, ⟨some 9, .mv, [.k (.d (.int .i64 0))], none, []⟩] [0, 1, 2, 3]) (.seq (.seq (.region false [⟨some 12, .mv, [.t 3],
  none, []⟩, ⟨some 13, .len, [.t 12], none, []⟩, ⟨some 14, .bin .gtr, [.t 13, .k (.d (.int .i64 1024))], none, []⟩, ⟨some 15, .mv, [.t 14], none, []⟩, ⟨some 16, .mv, [.t 2], some
  (15, false), []⟩, ⟨some 17, .len, [.t 16], some (15, false), []⟩, ⟨some 18, .bin .gtr, [.t 17, .k (.d (.int .i64 1024))], some (15, false), []⟩, ⟨some 19, .pick, [.t 15, .k (.d
  (.bool true)), .t 18], none, []⟩] [0, 1, 2, 3, 19]) (.cond (.t 19) (.seq (.region false [⟨some 8, .mv, [.k (.nil 1)], none, []⟩, ⟨some 9, .mv, [.k (.d (.int .i64 8))], none, []⟩]
  [8, 9]) .ret) .skip)) (.seq (.region false [⟨some 20, .mv, [.t 0], none, []⟩, ⟨some 21, .mv, [.t 1], none, []⟩, ⟨some 22, .mv, [.t 3], none, []⟩, ⟨some 23, .call 23 true, [.t 20,
  .t 21, .t 22], none, []⟩, ⟨some 10, .mv, [.t 23], none, []⟩] [0, 1, 2, 10]) (.seq (.region false [⟨some 24, .mv, [.t 0], none, []⟩, ⟨some 25, .mv, [.t 1], none, []⟩, ⟨some 26,
  .mv, [.t 2], none, []⟩, ⟨some 27, .mv, [.t 10], none, []⟩, ⟨some 28, .call 24 false, [.t 24, .t 25, .t 26, .t 27], none, []⟩, ⟨some 11, .alloc [.d (.int .u8 0), .d (.int .u8 0),
  .d (.int .u8 0), .d (.int .u8 0), .d (.int .u8 0), .d (.int .u8 0), .d (.int .u8 0), .d (.int .u8 0)], [], none, []⟩, ⟨none, .store 8, [.t 11, .t 28], none, []⟩] [1, 10, 11])
  (.seq (.region true [⟨some 29, .mv, [.t 1], none, []⟩, ⟨some 30, .bslice 1 false 1 [.d (.int .u64 0)] [0], [.t 29], none, [0]⟩, ⟨some 31, .call 19 true, [.t 30], none, [0, 1]⟩,
  ⟨some 32, .mv, [.t 10], none, []⟩, ⟨some 33, .app 1 140737488355328, [.t 31, .t 32], none, [0, 1, 2, 3]⟩, ⟨some 34, .aslice 8 false false, [.t 11], none, []⟩, ⟨some 35, .app 1
  140737488355328, [.t 33, .t 34], none, [0, 1, 2, 3, 4, 5]⟩, ⟨some 8, .mv, [.t 35], none, [0, 1, 2, 3, 4, 5, 6]⟩, ⟨some 9, .mv, [.k (.d (.int .i64 0))], none, [0, 1, 2, 3, 4, 5,
  6, 7]⟩] [8, 9]) .ret))))
def sealSealRr : List RR := [.t 8, .t 9]
theorem sealSealC : compFn Try.prog 13 sealSealH = some (sealSealRc, sealSealRr, 36) := by kernel_rfl
theorem sealSealOK (a0 : BitVec 64) (a1 : BitVec 64) (a2 : List (BitVec 8)) (a3 : List (BitVec 8)) (res : (List (BitVec 8)) × Int) (h : sealSeal a0 a1 a2 a3 = some res) : CallOK Try.prog 13 [.d (eU64 a0), .d (eU64 a1), .d ((eL 1 eU8) a2), .d ((eL 1 eU8) a3)] [] (.tup [.ref 0 res.1.length 0 res.1.length, .d (eI res.2)]) [(0, .row true 1 (res.1.map eU8))] := by
  unfold sealSeal at h
  refine callOK sealSealC fm rfl ?_
  simp only [initE, initM, nbor, List.map_cons, List.map_nil, Nat.reduceAdd]
  unfold sealSealRc
  refine rwp_seq fun K1 hK1 => ?_
  refine rwp_region fun K2 hK2 => ?_
  refine st0 128 rfl (ok (mv (.nil 1))) ?_
  refine st0 192 rfl (ok (mv (.d (eI (0 : Int))))) ?_
  refine hK2 _ _ ?_
  simp only [thenK, blockK, keepE, updM, List.filter_cons, List.filter_nil, List.nil_append, List.cons_append, List.map_cons, List.map_nil, envE, Mem.get, Nat.reduceEqDiff, reduceIte, Option.isNone_none, Option.isNone_some, Bool.false_eq_true, List.length_cons, List.length_nil, Nat.reduceAdd, Nat.reduceMul]
  refine hK1 _ _ _ ?_
  refine rwp_seq fun K3 hK3 => ?_
  refine rwp_join ([], []) 768 (fun env mem => ∃ (v4 : Bool), sealSealJ1 a0 a1 a2 a3 v4 = some res ∧ env = [(0, .d (eU64 a0)), (1, .d (eU64 a1)), (2, .d ((eL 1 eU8) a2)), (3, .d ((eL 1 eU8) a3)), (19, .d (eB v4))] ∧ mem = []) (fun _ _ hI => ?_) (fun K5 hK5 => ?_)
  · obtain ⟨v4, h, rfl, rfl⟩ := hI
    unfold sealSealJ1 at h
    rcases Bool.eq_false_or_eq_true (v4) with h6 | h6
    · replace h := ite_t h h6
      refine rwp_t (isT h6) ?_
      refine rwp_seq fun K7 hK7 => ?_
      refine rwp_region fun K8 hK8 => ?_
      refine st0 832 rfl (ok (mv (.nil 1))) ?_
      refine st0 896 rfl (ok (mv (.d (eI (8 : Int))))) ?_
      refine hK8 _ _ ?_
      simp only [thenK, blockK, keepE, updM, List.filter_cons, List.filter_nil, List.nil_append, List.cons_append, List.map_cons, List.map_nil, envE, Mem.get, Nat.reduceEqDiff, reduceIte, Option.isNone_none, Option.isNone_some, Bool.false_eq_true, List.length_cons, List.length_nil, Nat.reduceAdd, Nat.reduceMul]
      refine hK7 _ _ _ ?_
      refine rwp_ret ?_
      obtain rfl := Option.some.inj h
      try simp only [thenK, blockK, reduceIte]
      exact Or.inl (end_ok trivial (rs_t (v := .nil 1) rfl (rs_t (v := .d (eI (8 : Int))) rfl rs_nil)) (en_nilr (en_d (to_d _) en_nil)) ou_nil (by first | exact eok rfl rfl rfl rfl (And.intro (And.intro rfl rfl) trivial) | (refine eok ?_ ?_ ?_ ?_ ?_ <;> first | rfl | exact (And.intro (And.intro rfl rfl) trivial) | simp [retM, Mem.get, PV.renL, PV.ren, Blk.ren, comps, rhoR, rhoM, appN, PV.refsL, PV.refs, keys, nodupB, Blk.refs, allIn, Blk.bor])))
    · replace h := ite_f h h6
      refine rwp_f (isF h6) ?_
      refine rwp_skip ?_
      refine hK3 _ _ _ ?_
      refine rwp_seq fun K9 hK9 => ?_
      refine rwp_region fun K10 hK10 => ?_
      refine st0 832 rfl (ok (mv (.d (eU64 a0)))) ?_
      refine st0 896 rfl (ok (mv (.d (eU64 a1)))) ?_
      refine st0 960 rfl (ok (mv (.d ((eL 1 eU8) a3)))) ?_
      obtain ⟨y11, h12, h⟩ := bind_inv h
      refine st1 1024 rfl (mem' := [(960, .row true 1 (y11.map eU8))]) (call_ok (v := .ref 960 y11.length 0 y11.length) (u := [(960, .row true 1 (y11.map eU8))]) (ar_d (eU64 a0) (ar_d (eU64 a1) (ar_d ((eL 1 eU8) a3) ar_nil))) rfl (sealmixedOK a0 a1 a3 y11 h12) rfl) rfl ?_
      refine st0 1088 rfl (ok (mv (.ref 960 y11.length 0 y11.length))) ?_
      refine hK10 _ _ ?_
      simp only [thenK, blockK, keepE, updM, List.filter_cons, List.filter_nil, List.nil_append, List.cons_append, List.map_cons, List.map_nil, envE, Mem.get, Nat.reduceEqDiff, reduceIte, Option.isNone_none, Option.isNone_some, Bool.false_eq_true, List.length_cons, List.length_nil, Nat.reduceAdd, Nat.reduceMul]
      refine hK9 _ _ _ ?_
      refine rwp_seq fun K13 hK13 => ?_
      refine rwp_region fun K14 hK14 => ?_
      refine st0 1152 rfl (ok (mv (.d (eU64 a0)))) ?_
      refine st0 1216 rfl (ok (mv (.d (eU64 a1)))) ?_
      refine st0 1280 rfl (ok (mv (.d ((eL 1 eU8) a2)))) ?_
      refine st0 1344 rfl (ok (mv (.ref 960 y11.length 0 y11.length))) ?_
      obtain ⟨y15, h16, h⟩ := bind_inv h
      refine st0 1408 rfl (call_okF (ar_d (eU64 a0) (ar_d (eU64 a1) (ar_d ((eL 1 eU8) a2) (ar_to rfl (to_1 rfl (ds_r (ys := y11) rfl rfl rfl ds_nil)) ar_nil)))) (sealtagOK a0 a1 a2 y11 y15 h16) (flat_A (fun _ => rfl) _)) ?_
      refine st1 1472 rfl (mem' := [(1408, .var .mine ((List.replicate 8 (0#8)).map fun x => .d (eU8 x))), (960, .row true 1 (y11.map eU8))]) (ok (alcA (e := eU8) (xs := (List.replicate 8 (0#8))) rfl)) rfl ?_
      obtain ⟨h17, h⟩ := asq_inv h
      refine stn 1536 rfl (mem' := [(1408, .var .mine (y15.map fun x => .d (eU8 x))), (960, .row true 1 (y11.map eU8))]) (ok (stoA (e := eU8) (xs := (List.replicate 8 (0#8))) (ys := y15) rfl rfl h17)) rfl ?_
      refine hK14 _ _ ?_
      simp only [thenK, blockK, keepE, updM, List.filter_cons, List.filter_nil, List.nil_append, List.cons_append, List.map_cons, List.map_nil, envE, Mem.get, Nat.reduceEqDiff, reduceIte, Option.isNone_none, Option.isNone_some, Bool.false_eq_true, List.length_cons, List.length_nil, Nat.reduceAdd, Nat.reduceMul]
      refine hK13 _ _ _ ?_
      refine rwp_seq fun K18 hK18 => ?_
      refine rwp_draw fun K19 hK19 => ?_
      refine dr0 1600 rfl (ok (mv (.d (eU64 a1)))) (by kernel_rfl) ?_
      refine dr1 1664 rfl (mem' := [(1600, .row true 1 (([a1] : List (BitVec 64)).map eU64)), (1408, .var .mine (y15.map fun x => .d (eU8 x))), (960, .row true 1 (y11.map eU8))]) (ok (bsl (e := eU64) (ys := ([a1] : List (BitVec 64))) rfl rfl rfl)) rfl (by kernel_rfl) ?_
      obtain ⟨y20, h21, h⟩ := bind_inv h
      refine dr1 1728 rfl (mem' := [(1664, .row true 1 (y20.map eU8)), (1600, .row false 1 (([a1] : List (BitVec 64)).map eU64)), (1408, .var .mine (y15.map fun x => .d (eU8 x))), (960, .row true 1 (y11.map eU8))]) (call_ok (v := .ref 1664 y20.length 0 y20.length) (u := [(1664, .row true 1 (y20.map eU8)), (1600, .row false 1 (([a1] : List (BitVec 64)).map eU64))]) (ar_to rfl (to_1 rfl (ds_r (ys := ([a1] : List (BitVec 64))) rfl rfl rfl ds_nil)) ar_nil) rfl (digestWordsOK ([a1] : List (BitVec 64)) y20 h21) rfl) rfl (by kernel_rfl) ?_
      refine dr0 1792 rfl (ok (mv (.ref 960 y11.length 0 y11.length))) (by kernel_rfl) ?_
      obtain ⟨h22, h⟩ := asq_inv h
      refine dr1 1856 rfl (mem' := [(1664, .row true 1 ((y20 ++ y11).map eU8)), (1600, .row false 1 (([a1] : List (BitVec 64)).map eU64)), (1408, .var .mine (y15.map fun x => .d (eU8 x))), (960, .row true 1 (y11.map eU8))]) (ok (appR (e := eU8) (xs := y20) (ys := y11) (contR (xs := y11) rfl rfl rfl) rfl rfl rfl h22)) rfl (by kernel_rfl) ?_
      obtain ⟨h23, h⟩ := asq_inv h
      refine dr1 1920 rfl (mem' := [(1408, .var .ro (y15.map fun x => .d (eU8 x))), (1664, .row true 1 ((y20 ++ y11).map eU8)), (1600, .row false 1 (([a1] : List (BitVec 64)).map eU64)), (960, .row true 1 (y11.map eU8))]) (ok (aslA (e := eU8) (xs := y15) rfl rfl h23)) rfl (by kernel_rfl) ?_
      obtain ⟨h24, h⟩ := asq_inv h
      refine dr1 1984 rfl (mem' := [(1664, .row true 1 (((y20 ++ y11) ++ y15).map eU8)), (1408, .var .ro (y15.map fun x => .d (eU8 x))), (1600, .row false 1 (([a1] : List (BitVec 64)).map eU64)), (960, .row true 1 (y11.map eU8))]) (ok (appR (e := eU8) (xs := (y20 ++ y11)) (ys := y15) contL rfl rfl rfl h24)) rfl (by kernel_rfl) ?_
      refine dr0 2048 rfl (ok (mv (.ref 1664 ((((y20 ++ y11) ++ y15)).length) 0 ((((y20 ++ y11) ++ y15)).length)))) (by kernel_rfl) ?_
      refine dr0 2112 rfl (ok (mv (.d (eI (0 : Int))))) (by kernel_rfl) ?_
      refine hK19 _ _ ?_
      simp only [thenK, blockK, keepE, updM, List.filter_cons, List.filter_nil, List.nil_append, List.cons_append, List.map_cons, List.map_nil, envE, Mem.get, Nat.reduceEqDiff, reduceIte, Option.isNone_none, Option.isNone_some, Bool.false_eq_true, List.length_cons, List.length_nil, Nat.reduceAdd, Nat.reduceMul]
      refine hK18 _ _ _ ?_
      refine rwp_ret ?_
      obtain rfl := Option.some.inj h
      try simp only [thenK, blockK, reduceIte]
      exact Or.inl (end_ok trivial (rs_t (v := .ref 1664 ((((y20 ++ y11) ++ y15)).length) 0 ((((y20 ++ y11) ++ y15)).length)) rfl (rs_t (v := .d (eI (0 : Int))) rfl rs_nil)) (en_ref (en_d (to_d _) en_nil)) ou_nil (by first | exact eok rfl rfl rfl rfl (And.intro (And.intro rfl rfl) trivial) | (refine eok ?_ ?_ ?_ ?_ ?_ <;> first | rfl | exact (And.intro (And.intro rfl rfl) trivial) | simp [retM, Mem.get, PV.renL, PV.ren, Blk.ren, comps, rhoR, rhoM, appN, PV.refsL, PV.refs, keys, nodupB, Blk.refs, allIn, Blk.bor])))
  · refine rwp_region fun K25 hK25 => ?_
    refine st0 256 rfl (ok (mv (.d ((eL 1 eU8) a3)))) ?_
    refine st0 320 rfl (ok (lenL _ _)) ?_
    refine st0 384 rfl (ok (gtrI _ (1024 : Int))) ?_
    refine st0 448 rfl (ok (mv (.d (eB (decide ((1024 : Int) < (a3.length : Int))))))) ?_
    rcases Bool.eq_false_or_eq_true ((decide ((1024 : Int) < (a3.length : Int)))) with h26 | h26
    · replace h := ite_t h h26
      refine stGN 512 rfl rfl h26 ?_
      refine stGN 576 rfl rfl h26 ?_
      refine stGN 640 rfl rfl h26 ?_
      refine st0 704 rfl (ok (pick_t h26 (.d (eB true)) _)) ?_
      refine hK25 _ _ ?_
      simp only [thenK, blockK, keepE, updM, List.filter_cons, List.filter_nil, List.nil_append, List.cons_append, List.map_cons, List.map_nil, envE, Mem.get, Nat.reduceEqDiff, reduceIte, Option.isNone_none, Option.isNone_some, Bool.false_eq_true, List.length_cons, List.length_nil, Nat.reduceAdd, Nat.reduceMul]
      exact hK5 _ _ _ ⟨_, _, Settled.refl, _, _, ⟨_, h, rfl, rfl⟩, ⟨rfl, ⟨⟨rfl, rfl⟩, ⟨⟨rfl, rfl⟩, ⟨⟨rfl, rfl⟩, ⟨⟨rfl, rfl⟩, ⟨⟨rfl, rfl⟩, trivial⟩⟩⟩⟩⟩, trivial⟩, rfl⟩
    · replace h := ite_f h h26
      refine stG (isF h26) ?_
      refine st0 512 rfl (ok (mv (.d ((eL 1 eU8) a2)))) ?_
      refine stG (isF h26) ?_
      refine st0 576 rfl (ok (lenL _ _)) ?_
      refine stG (isF h26) ?_
      refine st0 640 rfl (ok (gtrI _ (1024 : Int))) ?_
      refine st0 704 rfl (ok (pick_f h26 _ (.d (eB (decide ((1024 : Int) < (a2.length : Int))))))) ?_
      refine hK25 _ _ ?_
      simp only [thenK, blockK, keepE, updM, List.filter_cons, List.filter_nil, List.nil_append, List.cons_append, List.map_cons, List.map_nil, envE, Mem.get, Nat.reduceEqDiff, reduceIte, Option.isNone_none, Option.isNone_some, Bool.false_eq_true, List.length_cons, List.length_nil, Nat.reduceAdd, Nat.reduceMul]
      exact hK5 _ _ _ ⟨_, _, Settled.refl, _, _, ⟨_, h, rfl, rfl⟩, ⟨rfl, ⟨⟨rfl, rfl⟩, ⟨⟨rfl, rfl⟩, ⟨⟨rfl, rfl⟩, ⟨⟨rfl, rfl⟩, ⟨⟨rfl, rfl⟩, trivial⟩⟩⟩⟩⟩, trivial⟩, rfl⟩

end Go.Proofs.Ty
