/- Each Go function comes to what its plain function says. PRINTED by a program of this session (ty.py). -/
import Derived.Test.YtkiffaadahpbkaaS5
set_option linter.unusedVariables false
set_option linter.unusedSimpArgs false
set_option maxHeartbeats 4000000
set_option maxRecDepth 10000
namespace Go.Proofs.Ty
open Go Go.RW Go.Proofs
/-- passkey/passkeyref3.Stream -/
def passkeyref3StreamH : Hints := ⟨[(0, [0, 1, 2]), (1, [0, 1, 2]), (2, [0, 1, 2, 7]), (3, [0, 1, 2, 7, 8]), (4, [0, 1, 2, 7, 8, 15]), (6, [0, 1, 2, 7, 8]), (5, [0, 1, 2, 7, 8]), (7, [6])], []⟩
def passkeyref3StreamRc : RCode :=
  .seq (.region false [⟨some 6, .mv, [.k (.nil 1)], none, []⟩] [0, 1, 2]) (.seq (.region false [⟨some 9, .mv, [.t 2], none, []⟩, ⟨some 10, .mx, [.t 9, .k (.d (.int .i64 0))], none,
  []⟩, ⟨some 11, .mn, [.t 10, .k (.d (.int .i64 1024))], none, []⟩, ⟨some 2, .mv, [.t 11], none, []⟩] [0, 1, 2]) (.seq (.region false [⟨some 7, .mv, [.k (.nil 1)], none, []⟩] [0,
  1, 2, 7]) (.seq (.seq (.region false [⟨some 8, .mv, [.k (.d (.int .i64 0))], none, []⟩] [0, 1, 2, 7, 8]) (.block 0 (.loop [] (.seq (.seq (.region false [⟨some 12, .mv, [.t 7],
  none, []⟩, ⟨some 13, .len, [.t 12], none, []⟩, ⟨some 14, .mv, [.t 2], none, []⟩, ⟨some 15, .bin .lss, [.t 13, .t 14], none, []⟩] [0, 1, 2, 7, 8, 15]) (.cond (.t 15) .skip (.exit
  0))) (.seq (.block 1 (.region false [⟨some 18, .mv, [.t 7], none, []⟩, ⟨some 19, .mv, [.t 0], none, []⟩, ⟨some 20, .mv, [.t 1], none, []⟩, ⟨some 21, .mv, [.t 8], none, []⟩, ⟨some
  22, .cvt .u64, [.t 21], none, []⟩, ⟨some 23, .bslice 1 false 2 [.d (.int .u64 0)] [0, 1], [.t 20, .t 22], none, []⟩, ⟨some 24, .call 31 true, [.t 23], none, []⟩, ⟨some 25, .call
  32 false, [.t 19, .k (.d (.int .i64 5)), .t 24], none, []⟩, ⟨some 26, .bslice 1 false 1 [.d (.int .u64 0)] [0], [.t 25], none, []⟩, ⟨some 27, .call 31 true, [.t 26], none, []⟩,
  ⟨some 28, .app 1 140737488355328, [.t 18, .t 27], none, []⟩, ⟨some 7, .mv, [.t 28], none, []⟩] [0, 1, 2, 7, 8])) (.region false [⟨some 16, .mv, [.t 8], none, []⟩, ⟨some 17, .bin
  .add, [.t 16, .k (.d (.int .i64 1))], none, []⟩, ⟨some 8, .mv, [.t 17], none, []⟩] [0, 1, 2, 7, 8])))))) (.seq (.region false [⟨some 29, .mv, [.t 7], none, []⟩, ⟨some 30, .mv,
  [.t 2], none, []⟩, ⟨some 31, .slice 1 false true false, [.t 29, .t 30], none, []⟩, ⟨some 6, .mv, [.t 31], none, []⟩] [6]) .ret))))
def passkeyref3StreamRr : List RR := [.t 6]
theorem passkeyref3StreamC : compFn Try.prog 26 passkeyref3StreamH = some (passkeyref3StreamRc, passkeyref3StreamRr, 32) := by kernel_rfl
theorem passkeyref3StreamOK (a0 : BitVec 64) (a1 : BitVec 64) (a2 : Int) (res : List (BitVec 8)) (h : passkeyref3Stream a0 a1 a2 = some res) : CallOK Try.prog 26 [.d (eU64 a0), .d (eU64 a1), .d (eI a2)] [] (.d ((eL 1 eU8) res)) [] := by
  unfold passkeyref3Stream at h
  refine callOK passkeyref3StreamC fm rfl ?_
  simp only [initE, initM, nbor, List.map_cons, List.map_nil, Nat.reduceAdd]
  unfold passkeyref3StreamRc
  refine rwp_seq fun K1 hK1 => ?_
  refine rwp_region fun K2 hK2 => ?_
  refine st0 128 rfl (ok (mv (.nil 1))) ?_
  refine hK2 _ _ ?_
  simp only [thenK, blockK, keepE, updM, List.filter_cons, List.filter_nil, List.nil_append, List.cons_append, List.map_cons, List.map_nil, envE, Mem.get, Nat.reduceEqDiff, reduceIte, Option.isNone_none, Option.isNone_some, Bool.false_eq_true, List.length_cons, List.length_nil, Nat.reduceAdd, Nat.reduceMul]
  refine hK1 _ _ _ ?_
  refine rwp_seq fun K3 hK3 => ?_
  refine rwp_region fun K4 hK4 => ?_
  refine st0 192 rfl (ok (mv (.d (eI a2)))) ?_
  refine st0 256 rfl (ok (maxI _ (0 : Int))) ?_
  obtain ⟨v5, h6, h⟩ := lett_inv h
  refine st0e 320 rfl (ok (minI _ (1024 : Int))) (congrArg (fun z => PV.d (eI z)) h6) ?_
  refine st0 384 rfl (ok (mv (.d (eI v5)))) ?_
  refine hK4 _ _ ?_
  simp only [thenK, blockK, keepE, updM, List.filter_cons, List.filter_nil, List.nil_append, List.cons_append, List.map_cons, List.map_nil, envE, Mem.get, Nat.reduceEqDiff, reduceIte, Option.isNone_none, Option.isNone_some, Bool.false_eq_true, List.length_cons, List.length_nil, Nat.reduceAdd, Nat.reduceMul]
  refine hK3 _ _ _ ?_
  refine rwp_seq fun K7 hK7 => ?_
  refine rwp_region fun K8 hK8 => ?_
  refine st0 448 rfl (ok (mv (.nil 1))) ?_
  refine hK8 _ _ ?_
  simp only [thenK, blockK, keepE, updM, List.filter_cons, List.filter_nil, List.nil_append, List.cons_append, List.map_cons, List.map_nil, envE, Mem.get, Nat.reduceEqDiff, reduceIte, Option.isNone_none, Option.isNone_some, Bool.false_eq_true, List.length_cons, List.length_nil, Nat.reduceAdd, Nat.reduceMul]
  refine hK7 _ _ _ ?_
  refine rwp_join ([], []) 2240 (fun env mem => ∃ (v9 : List (BitVec 8)), passkeyref3StreamJ1 v5 v9 = some res ∧ env = [(2, .d (eI v5)), (7, .ref 1857 v9.length 0 v9.length)] ∧ mem = [(1857, .row true 1 (v9.map eU8))]) (fun _ _ hI => ?_) (fun K10 hK10 => ?_)
  · obtain ⟨v9, h, rfl, rfl⟩ := hI
    unfold passkeyref3StreamJ1 at h
    refine rwp_seq fun K11 hK11 => ?_
    refine rwp_region fun K12 hK12 => ?_
    refine st0 2304 rfl (ok (mv (.ref 1857 v9.length 0 v9.length))) ?_
    refine st0 2368 rfl (ok (mv (.d (eI v5)))) ?_
    obtain ⟨h13, h⟩ := asq_inv h
    refine st0 2432 rfl (ok (slR_h (ys := v9.map eU8) rfl (by simp) h13)) ?_
    refine st0 2496 rfl (ok (mv (.ref 1857 v9.length (0 + 0) (v5.toNat - 0)))) ?_
    refine hK12 _ _ ?_
    simp only [thenK, blockK, keepE, updM, List.filter_cons, List.filter_nil, List.nil_append, List.cons_append, List.map_cons, List.map_nil, envE, Mem.get, Nat.reduceEqDiff, reduceIte, Option.isNone_none, Option.isNone_some, Bool.false_eq_true, List.length_cons, List.length_nil, Nat.reduceAdd, Nat.reduceMul]
    refine hK11 _ _ _ ?_
    refine rwp_ret ?_
    obtain rfl := Option.some.inj h
    try simp only [thenK, blockK, reduceIte]
    exact Or.inl (end_ok trivial (rs_t (v := .ref 1857 v9.length (0 + 0) (v5.toNat - 0)) rfl rs_nil) (en_d (to_1 rfl (ds_p (ys := v9) rfl rfl ds_nil)) en_nil) ou_nil (by first | exact eok rfl rfl rfl rfl trivial | (refine eok ?_ ?_ ?_ ?_ ?_ <;> first | rfl | exact trivial | simp [retM, Mem.get, PV.renL, PV.ren, Blk.ren, comps, rhoR, rhoM, appN, PV.refsL, PV.refs, keys, nodupB, Blk.refs, allIn, Blk.bor])))
  · refine rwp_seq fun K14 hK14 => ?_
    refine rwp_region fun K15 hK15 => ?_
    refine st0 512 rfl (ok (mv (.d (eI (0 : Int))))) ?_
    refine hK15 _ _ ?_
    simp only [thenK, blockK, keepE, updM, List.filter_cons, List.filter_nil, List.nil_append, List.cons_append, List.map_cons, List.map_nil, envE, Mem.get, Nat.reduceEqDiff, reduceIte, Option.isNone_none, Option.isNone_some, Bool.false_eq_true, List.length_cons, List.length_nil, Nat.reduceAdd, Nat.reduceMul]
    refine hK14 _ _ _ ?_
    refine rwp_block fun K16 hK16 => ?_
    refine rwp_loop ([(7, 1857)], []) 1920 (fun k env mem => ∃ (v17 : List (BitVec 8)) (v18 : Int), passkeyref3StreamL2 a0 a1 v5 k v17 v18 = some res ∧ env = [(0, .d (eU64 a0)), (1, .d (eU64 a1)), (2, .d (eI v5)), (7, .ref 1857 v17.length 0 v17.length), (8, .d (eI v18))] ∧ mem = [(1857, .row true 1 (v17.map eU8))]) FUEL ⟨_, _, Settled.refl, _, _, ⟨_, _, h, rfl, rfl⟩, ⟨rfl, ⟨⟨rfl, rfl⟩, ⟨⟨rfl, rfl⟩, ⟨⟨rfl, rfl⟩, ⟨⟨rfl, rfl⟩, ⟨⟨rfl, rfl⟩, trivial⟩⟩⟩⟩⟩, ⟨⟨rfl, rfl⟩, trivial⟩⟩, rfl⟩ (fun k2 env1 mem1 hI K19 hK19 => ?_)
    obtain ⟨v17, v18, h, rfl, rfl⟩ := hI
    cases k2 with
    | zero => simp [passkeyref3StreamL2] at h
    | succ k2 =>
      rw [passkeyref3StreamL2] at h
      refine rwp_seq fun K20 hK20 => ?_
      refine rwp_seq fun K21 hK21 => ?_
      refine rwp_region fun K22 hK22 => ?_
      refine st0 1984 rfl (ok (mv (.ref 1857 v17.length 0 v17.length))) ?_
      refine st0 2048 rfl (ok (lenR _ _ _ _)) ?_
      refine st0 2112 rfl (ok (mv (.d (eI v5)))) ?_
      refine st0 2176 rfl (ok (lssI _ _)) ?_
      refine hK22 _ _ ?_
      simp only [thenK, blockK, keepE, updM, List.filter_cons, List.filter_nil, List.nil_append, List.cons_append, List.map_cons, List.map_nil, envE, Mem.get, Nat.reduceEqDiff, reduceIte, Option.isNone_none, Option.isNone_some, Bool.false_eq_true, List.length_cons, List.length_nil, Nat.reduceAdd, Nat.reduceMul]
      refine hK21 _ _ _ ?_
      rcases Bool.eq_false_or_eq_true ((decide ((v17.length : Int) < v5))) with h23 | h23
      · replace h := ite_t h h23
        refine rwp_t (isT h23) ?_
        refine rwp_skip ?_
        refine hK20 _ _ _ ?_
        refine rwp_seq fun K24 hK24 => ?_
        refine rwp_block fun K25 hK25 => ?_
        refine rwp_region fun K26 hK26 => ?_
        refine st0 2240 rfl (ok (mv (.ref 1857 v17.length 0 v17.length))) ?_
        refine st0 2304 rfl (ok (mv (.d (eU64 a0)))) ?_
        refine st0 2368 rfl (ok (mv (.d (eU64 a1)))) ?_
        refine st0 2432 rfl (ok (mv (.d (eI v18)))) ?_
        refine st0 2496 rfl (ok (ofI64 _ v18)) ?_
        refine st1 2560 rfl (mem' := [(2496, .row true 1 (([a1, (BitVec.ofInt 64 v18)] : List (BitVec 64)).map eU64)), (1857, .row true 1 (v17.map eU8))]) (ok (bsl (e := eU64) (ys := ([a1, (BitVec.ofInt 64 v18)] : List (BitVec 64))) rfl rfl rfl)) rfl ?_
        obtain ⟨y27, h28, h⟩ := bind_inv h
        refine st1 2624 rfl (mem' := [(2560, .row true 1 (y27.map eU8)), (2496, .row false 1 (([a1, (BitVec.ofInt 64 v18)] : List (BitVec 64)).map eU64)), (1857, .row true 1 (v17.map eU8))]) (call_ok (v := .ref 2560 y27.length 0 y27.length) (u := [(2560, .row true 1 (y27.map eU8)), (2496, .row false 1 (([a1, (BitVec.ofInt 64 v18)] : List (BitVec 64)).map eU64))]) (ar_to rfl (to_1 rfl (ds_r (ys := ([a1, (BitVec.ofInt 64 v18)] : List (BitVec 64))) rfl rfl rfl ds_nil)) ar_nil) rfl (passkeyref1WordsOK ([a1, (BitVec.ofInt 64 v18)] : List (BitVec 64)) y27 h28) rfl) rfl ?_
        obtain ⟨y29, h30, h⟩ := bind_inv h
        refine st0 2688 rfl (call_ok (v := .d (eU64 y29)) (u := []) (ar_d (eU64 a0) (ar_d (eI (5 : Int)) (ar_to rfl (to_1 rfl (ds_r (ys := y27) rfl rfl rfl ds_nil)) ar_nil))) rfl (passkeyref1MacOK a0 (5 : Int) y27 y29 h30) rfl) ?_
        refine st1 2752 rfl (mem' := [(2688, .row true 1 (([y29] : List (BitVec 64)).map eU64)), (2560, .row true 1 (y27.map eU8)), (2496, .row false 1 (([a1, (BitVec.ofInt 64 v18)] : List (BitVec 64)).map eU64)), (1857, .row true 1 (v17.map eU8))]) (ok (bsl (e := eU64) (ys := ([y29] : List (BitVec 64))) rfl rfl rfl)) rfl ?_
        obtain ⟨y31, h32, h⟩ := bind_inv h
        refine st1 2816 rfl (mem' := [(2752, .row true 1 (y31.map eU8)), (2688, .row false 1 (([y29] : List (BitVec 64)).map eU64)), (2560, .row true 1 (y27.map eU8)), (2496, .row false 1 (([a1, (BitVec.ofInt 64 v18)] : List (BitVec 64)).map eU64)), (1857, .row true 1 (v17.map eU8))]) (call_ok (v := .ref 2752 y31.length 0 y31.length) (u := [(2752, .row true 1 (y31.map eU8)), (2688, .row false 1 (([y29] : List (BitVec 64)).map eU64))]) (ar_to rfl (to_1 rfl (ds_r (ys := ([y29] : List (BitVec 64))) rfl rfl rfl ds_nil)) ar_nil) rfl (passkeyref1WordsOK ([y29] : List (BitVec 64)) y31 h32) rfl) rfl ?_
        obtain ⟨h33, h⟩ := asq_inv h
        refine st1 2880 rfl (mem' := [(1857, .row true 1 ((v17 ++ y31).map eU8)), (2752, .row true 1 (y31.map eU8)), (2688, .row false 1 (([y29] : List (BitVec 64)).map eU64)), (2560, .row true 1 (y27.map eU8)), (2496, .row false 1 (([a1, (BitVec.ofInt 64 v18)] : List (BitVec 64)).map eU64))]) (ok (appR (e := eU8) (xs := v17) (ys := y31) (contR (xs := y31) rfl rfl rfl) rfl rfl rfl h33)) rfl ?_
        refine st0 2944 rfl (ok (mv (.ref 1857 (((v17 ++ y31)).length) 0 (((v17 ++ y31)).length)))) ?_
        refine hK26 _ _ ?_
        simp only [thenK, blockK, keepE, updM, List.filter_cons, List.filter_nil, List.nil_append, List.cons_append, List.map_cons, List.map_nil, envE, Mem.get, Nat.reduceEqDiff, reduceIte, Option.isNone_none, Option.isNone_some, Bool.false_eq_true, List.length_cons, List.length_nil, Nat.reduceAdd, Nat.reduceMul]
        refine hK25 _ _ _ ?_
        refine hK24 _ _ _ ?_
        refine rwp_region fun K34 hK34 => ?_
        refine st0 3008 rfl (ok (mv (.d (eI v18)))) ?_
        refine st0 3072 rfl (ok (addI _ (1 : Int))) ?_
        refine st0 3136 rfl (ok (mv (.d (eI (w64 (v18 + (1 : Int))))))) ?_
        refine hK34 _ _ ?_
        simp only [thenK, blockK, keepE, updM, List.filter_cons, List.filter_nil, List.nil_append, List.cons_append, List.map_cons, List.map_nil, envE, Mem.get, Nat.reduceEqDiff, reduceIte, Option.isNone_none, Option.isNone_some, Bool.false_eq_true, List.length_cons, List.length_nil, Nat.reduceAdd, Nat.reduceMul]
        exact hK19.out _ _ _ k2 (Nat.lt_succ_self k2) ⟨_, _, Settled.refl, _, _, ⟨_, _, h, rfl, rfl⟩, ⟨rfl, ⟨⟨rfl, rfl⟩, ⟨⟨rfl, rfl⟩, ⟨⟨rfl, rfl⟩, ⟨⟨rfl, rfl⟩, ⟨⟨rfl, rfl⟩, trivial⟩⟩⟩⟩⟩, ⟨⟨rfl, rfl⟩, trivial⟩⟩, rfl⟩
      · replace h := ite_f h h23
        refine rwp_f (isF h23) ?_
        refine rwp_exit ?_
        refine hK16 _ _ _ ?_
        exact hK10 _ _ _ ⟨_, _, Settled.refl, _, _, ⟨_, h, rfl, rfl⟩, ⟨rfl, ⟨⟨rfl, rfl⟩, ⟨⟨rfl, rfl⟩, trivial⟩⟩, ⟨⟨rfl, rfl⟩, trivial⟩⟩, rfl⟩

/-- passkey/passkeycast.Bytes -/
def passkeycastBytesH : Hints := ⟨[(0, [0, 1]), (1, [4])], []⟩
def passkeycastBytesRc : RCode :=
  .seq (.region false [⟨some 4, .mv, [.k (.nil 1)], none, []⟩] [0, 1]) (.seq (.region false [⟨some 5, .mv, [.t 0], none, []⟩, ⟨some 6, .cvt .u64, [.t 5], none, []⟩, ⟨some 7, .bin
  .add, [.t 6, .k (.d (.int .u64 1))], none, []⟩, ⟨some 8, .mv, [.t 1], none, []⟩, ⟨some 9, .mn, [.t 8, .k (.d (.int .i64 1024))], none, []⟩, ⟨some 10, .mx, [.t 9, .k (.d (.int
  .i64 0))], none, []⟩, ⟨some 11, .call 26 true, [.t 7, .k (.d (.int .u64 7)), .t 10], none, []⟩, ⟨some 4, .mv, [.t 11], none, []⟩] [4]) .ret)
def passkeycastBytesRr : List RR := [.t 4]
theorem passkeycastBytesC : compFn Try.prog 15 passkeycastBytesH = some (passkeycastBytesRc, passkeycastBytesRr, 12) := by kernel_rfl
theorem passkeycastBytesOK (a0 : Int) (a1 : Int) (res : List (BitVec 8)) (h : passkeycastBytes a0 a1 = some res) : CallOK Try.prog 15 [.d (eI a0), .d (eI a1)] [] (.d ((eL 1 eU8) res)) [] := by
  unfold passkeycastBytes at h
  refine callOK passkeycastBytesC fm rfl ?_
  simp only [initE, initM, nbor, List.map_cons, List.map_nil, Nat.reduceAdd]
  unfold passkeycastBytesRc
  refine rwp_seq fun K1 hK1 => ?_
  refine rwp_region fun K2 hK2 => ?_
  refine st0 128 rfl (ok (mv (.nil 1))) ?_
  refine hK2 _ _ ?_
  simp only [thenK, blockK, keepE, updM, List.filter_cons, List.filter_nil, List.nil_append, List.cons_append, List.map_cons, List.map_nil, envE, Mem.get, Nat.reduceEqDiff, reduceIte, Option.isNone_none, Option.isNone_some, Bool.false_eq_true, List.length_cons, List.length_nil, Nat.reduceAdd, Nat.reduceMul]
  refine hK1 _ _ _ ?_
  refine rwp_seq fun K3 hK3 => ?_
  refine rwp_region fun K4 hK4 => ?_
  refine st0 192 rfl (ok (mv (.d (eI a0)))) ?_
  refine st0 256 rfl (ok (ofI64 _ a0)) ?_
  refine st0 320 rfl (ok (add64 _ (1#64))) ?_
  refine st0 384 rfl (ok (mv (.d (eI a1)))) ?_
  refine st0 448 rfl (ok (minI _ (1024 : Int))) ?_
  obtain ⟨v5, h6, h⟩ := lett_inv h
  refine st0e 512 rfl (ok (maxI _ (0 : Int))) (congrArg (fun z => PV.d (eI z)) h6) ?_
  obtain ⟨y7, h8, h⟩ := bind_inv h
  refine st0 576 rfl (call_ok (v := .d ((eL 1 eU8) y7)) (u := []) (ar_d (eU64 ((BitVec.ofInt 64 a0) + (1#64))) (ar_d (eU64 (7#64)) (ar_d (eI v5) ar_nil))) rfl (passkeyref3StreamOK ((BitVec.ofInt 64 a0) + (1#64)) (7#64) v5 y7 h8) rfl) ?_
  refine st0 640 rfl (ok (mv (.d ((eL 1 eU8) y7)))) ?_
  refine hK4 _ _ ?_
  simp only [thenK, blockK, keepE, updM, List.filter_cons, List.filter_nil, List.nil_append, List.cons_append, List.map_cons, List.map_nil, envE, Mem.get, Nat.reduceEqDiff, reduceIte, Option.isNone_none, Option.isNone_some, Bool.false_eq_true, List.length_cons, List.length_nil, Nat.reduceAdd, Nat.reduceMul]
  refine hK3 _ _ _ ?_
  refine rwp_ret ?_
  obtain rfl := Option.some.inj h
  try simp only [thenK, blockK, reduceIte]
  exact Or.inl (end_ok trivial (rs_t (v := .d ((eL 1 eU8) y7)) rfl rs_nil) (en_d (to_d _) en_nil) ou_nil (by first | exact eok rfl rfl rfl rfl trivial | (refine eok ?_ ?_ ?_ ?_ ?_ <;> first | rfl | exact trivial | simp [retM, Mem.get, PV.renL, PV.ren, Blk.ren, comps, rhoR, rhoM, appN, PV.refsL, PV.refs, keys, nodupB, Blk.refs, allIn, Blk.bor])))

/-- passkey/passkeyref37.Split -/
def passkeyref37SplitH : Hints := ⟨[(0, [0, 1, 2, 3]), (1, [0, 1, 2, 3, 17]), (2, [8, 9]), (3, [0, 1, 2, 3, 21]), (4, [8, 9]), (5, [0, 1, 2, 3, 33]), (6, [8, 9]), (7, [0, 1, 2, 3, 10]), (8, [0, 1, 2, 3, 10, 11]), (9, [0, 1, 2, 3, 10, 11, 44]), (11, [0, 1, 2, 3, 10, 11, 12]), (12, [0, 1, 2, 3, 10, 11, 12, 13]), (13, [0, 1, 2, 3, 10, 11, 12, 13, 50]), (15, [0, 1, 2, 3, 10, 11, 12, 13, 14, 15]), (16, [0, 1, 2, 3, 10, 11, 12, 13, 14, 15, 16]), (17, [0, 1, 2, 3, 10, 11, 12, 13, 14, 15, 16, 59]), (19, [0, 1, 2, 3, 10, 11, 12, 13, 14, 15, 16]), (20, [0, 1, 2, 3, 10, 11, 12, 13, 14, 15, 16]), (18, [0, 1, 2, 3, 10, 11, 12, 13, 14, 15, 16]), (21, [0, 1, 2, 3, 10, 11, 12, 13]), (14, [0, 1, 2, 3, 10, 11, 12, 13]), (22, [0, 1, 2, 3, 10, 11]), (10, [0, 1, 2, 3, 10, 11]), (23, [8, 9])], []⟩
def passkeyref37SplitRc : RCode :=
  .seq (.region false [⟨some 8, .mv, [.k (.nil 2)], none, []⟩, ⟨some 9, .mv, [.k (.d (.int .i64 0))], none, []⟩] [0, 1, 2, 3]) (.seq (.block 0 (.seq (.region false [⟨some 18, .mv,
  [.t 0], none, []⟩, ⟨some 19, .len, [.t 18], none, []⟩, ⟨some 20, .bin .gtr, [.t 19, .k (.d (.int .i64 64))], none, []⟩, ⟨some 17, .mv, [.t 20], none, []⟩] [0, 1, 2, 3, 17])
  (.cond (.t 17) (.seq (.region false [⟨some 8, .mv, [.k (.nil 2)], none, []⟩, ⟨some 9, .mv, [.k (.d (.int .i64 8))], none, []⟩] [8, 9]) .ret) (.seq (.region false [⟨some 22, .mv,
  [.t 2], none, []⟩, ⟨some 23, .bin .lss, [.t 22, .k (.d (.int .i64 1))], none, []⟩, ⟨some 24, .mv, [.t 23], none, []⟩, ⟨some 25, .mv, [.t 3], some (24, false), []⟩, ⟨some 26, .mv,
  [.t 2], some (24, false), []⟩, ⟨some 27, .bin .lss, [.t 25, .t 26], some (24, false), []⟩, ⟨some 28, .pick, [.t 24, .k (.d (.bool true)), .t 27], none, []⟩, ⟨some 29, .mv, [.t
  28], none, []⟩, ⟨some 30, .mv, [.t 3], some (29, false), []⟩, ⟨some 31, .bin .gtr, [.t 30, .k (.d (.int .i64 255))], some (29, false), []⟩, ⟨some 32, .pick, [.t 29, .k (.d (.bool
  true)), .t 31], none, []⟩, ⟨some 21, .mv, [.t 32], none, []⟩] [0, 1, 2, 3, 21]) (.cond (.t 21) (.seq (.region false [⟨some 8, .mv, [.k (.nil 2)], none, []⟩, ⟨some 9, .mv, [.k (.d
  (.int .i64 9))], none, []⟩] [8, 9]) .ret) (.seq (.region false [⟨some 34, .mv, [.t 1], none, []⟩, ⟨some 35, .len, [.t 34], none, []⟩, ⟨some 36, .mv, [.t 2], none, []⟩, ⟨some 37,
  .bin .sub, [.t 36, .k (.d (.int .i64 1))], none, []⟩, ⟨some 38, .mv, [.t 0], none, []⟩, ⟨some 39, .len, [.t 38], none, []⟩, ⟨some 40, .bin .mul, [.t 37, .t 39], none, []⟩, ⟨some
  41, .bin .lss, [.t 35, .t 40], none, []⟩, ⟨some 33, .mv, [.t 41], none, []⟩] [0, 1, 2, 3, 33]) (.cond (.t 33) (.seq (.region false [⟨some 8, .mv, [.k (.nil 2)], none, []⟩, ⟨some
  9, .mv, [.k (.d (.int .i64 1))], none, []⟩] [8, 9]) .ret) .skip))))))) (.seq (.region false [⟨some 10, .mv, [.k (.nil 2)], none, []⟩] [0, 1, 2, 3, 10]) (.seq (.seq (.region false
  [⟨some 11, .mv, [.k (.d (.int .i64 1))], none, []⟩] [0, 1, 2, 3, 10, 11]) (.block 1 (.loop [] (.seq (.seq (.region false [⟨some 42, .mv, [.t 11], none, []⟩, ⟨some 43, .mv, [.t
  3], none, []⟩, ⟨some 44, .bin .leq, [.t 42, .t 43], none, []⟩] [0, 1, 2, 3, 10, 11, 44]) (.cond (.t 44) .skip (.exit 1))) (.seq (.block 2 (.seq (.region false [⟨some 12, .mv, [.k
  (.nil 1)], none, []⟩] [0, 1, 2, 3, 10, 11, 12]) (.seq (.seq (.region false [⟨some 13, .mv, [.k (.d (.int .i64 0))], none, []⟩] [0, 1, 2, 3, 10, 11, 12, 13]) (.block 3 (.loop []
  (.seq (.seq (.region false [⟨some 47, .mv, [.t 13], none, []⟩, ⟨some 48, .mv, [.t 0], none, []⟩, ⟨some 49, .len, [.t 48], none, []⟩, ⟨some 50, .bin .lss, [.t 47, .t 49], none,
  []⟩] [0, 1, 2, 3, 10, 11, 12, 13, 50]) (.cond (.t 50) .skip (.exit 3))) (.seq (.block 4 (.seq (.region false [⟨some 53, .mv, [.t 0], none, []⟩, ⟨some 54, .mv, [.t 13], none, []⟩,
  ⟨some 55, .ia 1, [.t 53, .t 54], none, []⟩, ⟨some 56, .load 1 false, [.t 55], none, []⟩, ⟨some 14, .mv, [.t 56], none, []⟩, ⟨some 15, .mv, [.k (.d (.int .u8 1))], none, []⟩] [0,
  1, 2, 3, 10, 11, 12, 13, 14, 15]) (.seq (.seq (.region false [⟨some 16, .mv, [.k (.d (.int .i64 1))], none, []⟩] [0, 1, 2, 3, 10, 11, 12, 13, 14, 15, 16]) (.block 5 (.loop []
  (.seq (.seq (.region false [⟨some 57, .mv, [.t 16], none, []⟩, ⟨some 58, .mv, [.t 2], none, []⟩, ⟨some 59, .bin .lss, [.t 57, .t 58], none, []⟩] [0, 1, 2, 3, 10, 11, 12, 13, 14,
  15, 16, 59]) (.cond (.t 59) .skip (.exit 5))) (.seq (.block 6 (.seq (.region false [⟨some 62, .mv, [.t 15], none, []⟩, ⟨some 63, .mv, [.t 11], none, []⟩, ⟨some 64, .cvt .u8, [.t
  63], none, []⟩, ⟨some 65, .call 10 false, [.t 62, .t 64], none, []⟩, ⟨some 15, .mv, [.t 65], none, []⟩] [0, 1, 2, 3, 10, 11, 12, 13, 14, 15, 16]) (.region false [⟨some 66, .mv,
  [.t 14], none, []⟩, ⟨some 67, .mv, [.t 1], none, []⟩, ⟨some 68, .mv, [.t 16], none, []⟩, ⟨some 69, .bin .sub, [.t 68, .k (.d (.int .i64 1))], none, []⟩, ⟨some 70, .mv, [.t 0],
  none, []⟩, ⟨some 71, .len, [.t 70], none, []⟩, ⟨some 72, .bin .mul, [.t 69, .t 71], none, []⟩, ⟨some 73, .mv, [.t 13], none, []⟩, ⟨some 74, .bin .add, [.t 72, .t 73], none, []⟩,
  ⟨some 75, .ia 1, [.t 67, .t 74], none, []⟩, ⟨some 76, .load 1 false, [.t 75], none, []⟩, ⟨some 77, .mv, [.t 15], none, []⟩, ⟨some 78, .call 10 false, [.t 76, .t 77], none, []⟩,
  ⟨some 79, .bin .xor, [.t 66, .t 78], none, []⟩, ⟨some 14, .mv, [.t 79], none, []⟩] [0, 1, 2, 3, 10, 11, 12, 13, 14, 15, 16]))) (.region false [⟨some 60, .mv, [.t 16], none, []⟩,
  ⟨some 61, .bin .add, [.t 60, .k (.d (.int .i64 1))], none, []⟩, ⟨some 16, .mv, [.t 61], none, []⟩] [0, 1, 2, 3, 10, 11, 12, 13, 14, 15, 16])))))) (.region false [⟨some 80, .mv,
  [.t 12], none, []⟩, ⟨some 81, .mv, [.t 14], none, []⟩, ⟨some 82, .bslice 1 false 1 [.d (.int .u8 0)] [0], [.t 81], none, []⟩, ⟨some 83, .app 1 140737488355328, [.t 80, .t 82],
  none, []⟩, ⟨some 12, .mv, [.t 83], none, []⟩] [0, 1, 2, 3, 10, 11, 12, 13])))) (.region false [⟨some 51, .mv, [.t 13], none, []⟩, ⟨some 52, .bin .add, [.t 51, .k (.d (.int .i64
  1))], none, []⟩, ⟨some 13, .mv, [.t 52], none, []⟩] [0, 1, 2, 3, 10, 11, 12, 13])))))) (.region false [⟨some 84, .mv, [.t 10], none, []⟩, ⟨some 85, .mv, [.t 11], none, []⟩, ⟨some
  86, .mv, [.t 12], none, []⟩, ⟨some 87, .build [.d (.int .i64 0), .nil 1] [(0, 1), (1, 1)], [.t 85, .t 86], none, []⟩, ⟨some 88, .bslice 2 true 1 [.d (.int .i64 0), .nil 1] [0],
  [.t 87], none, []⟩, ⟨some 89, .app 2 4398046511104, [.t 84, .t 88], none, []⟩, ⟨some 10, .mv, [.t 89], none, []⟩] [0, 1, 2, 3, 10, 11])))) (.region false [⟨some 45, .mv, [.t 11],
  none, []⟩, ⟨some 46, .bin .add, [.t 45, .k (.d (.int .i64 1))], none, []⟩, ⟨some 11, .mv, [.t 46], none, []⟩] [0, 1, 2, 3, 10, 11])))))) (.seq (.region false [⟨some 90, .mv, [.t
  10], none, []⟩, ⟨some 8, .mv, [.t 90], none, []⟩, ⟨some 9, .mv, [.k (.d (.int .i64 0))], none, []⟩] [8, 9]) .ret))))
def passkeyref37SplitRr : List RR := [.t 8, .t 9]
theorem passkeyref37SplitC : compFn Try.prog 17 passkeyref37SplitH = some (passkeyref37SplitRc, passkeyref37SplitRr, 91) := by kernel_rfl
theorem passkeyref37SplitOK (a0 : List (BitVec 8)) (a1 : List (BitVec 8)) (a2 : Int) (a3 : Int) (res : (List (TApiShare)) × Int) (h : passkeyref37Split a0 a1 a2 a3 = some res) : CallOK Try.prog 17 [.d ((eL 1 eU8) a0), .d ((eL 1 eU8) a1), .d (eI a2), .d (eI a3)] [] (.tup [.ref 0 res.1.length 0 res.1.length, .d (eI res.2)]) [(0, .row true 2 (res.1.map eTApiShare))] := by
  unfold passkeyref37Split at h
  refine callOK passkeyref37SplitC fm rfl ?_
  simp only [initE, initM, nbor, List.map_cons, List.map_nil, Nat.reduceAdd]
  unfold passkeyref37SplitRc
  refine rwp_seq fun K1 hK1 => ?_
  refine rwp_region fun K2 hK2 => ?_
  refine st0 128 rfl (ok (mv (.nil 2))) ?_
  refine st0 192 rfl (ok (mv (.d (eI (0 : Int))))) ?_
  refine hK2 _ _ ?_
  simp only [thenK, blockK, keepE, updM, List.filter_cons, List.filter_nil, List.nil_append, List.cons_append, List.map_cons, List.map_nil, envE, Mem.get, Nat.reduceEqDiff, reduceIte, Option.isNone_none, Option.isNone_some, Bool.false_eq_true, List.length_cons, List.length_nil, Nat.reduceAdd, Nat.reduceMul]
  refine hK1 _ _ _ ?_
  refine rwp_seq fun K3 hK3 => ?_
  refine rwp_block fun K4 hK4 => ?_
  refine rwp_seq fun K5 hK5 => ?_
  refine rwp_region fun K6 hK6 => ?_
  refine st0 256 rfl (ok (mv (.d ((eL 1 eU8) a0)))) ?_
  refine st0 320 rfl (ok (lenL _ _)) ?_
  refine st0 384 rfl (ok (gtrI _ (64 : Int))) ?_
  refine st0 448 rfl (ok (mv (.d (eB (decide ((64 : Int) < (a0.length : Int))))))) ?_
  refine hK6 _ _ ?_
  simp only [thenK, blockK, keepE, updM, List.filter_cons, List.filter_nil, List.nil_append, List.cons_append, List.map_cons, List.map_nil, envE, Mem.get, Nat.reduceEqDiff, reduceIte, Option.isNone_none, Option.isNone_some, Bool.false_eq_true, List.length_cons, List.length_nil, Nat.reduceAdd, Nat.reduceMul]
  refine hK5 _ _ _ ?_
  rcases Bool.eq_false_or_eq_true ((decide ((64 : Int) < (a0.length : Int)))) with h7 | h7
  · replace h := ite_t h h7
    refine rwp_t (isT h7) ?_
    refine rwp_seq fun K8 hK8 => ?_
    refine rwp_region fun K9 hK9 => ?_
    refine st0 512 rfl (ok (mv (.nil 2))) ?_
    refine st0 576 rfl (ok (mv (.d (eI (8 : Int))))) ?_
    refine hK9 _ _ ?_
    simp only [thenK, blockK, keepE, updM, List.filter_cons, List.filter_nil, List.nil_append, List.cons_append, List.map_cons, List.map_nil, envE, Mem.get, Nat.reduceEqDiff, reduceIte, Option.isNone_none, Option.isNone_some, Bool.false_eq_true, List.length_cons, List.length_nil, Nat.reduceAdd, Nat.reduceMul]
    refine hK8 _ _ _ ?_
    refine rwp_ret ?_
    obtain rfl := Option.some.inj h
    try simp only [thenK, blockK, reduceIte]
    exact Or.inl (end_ok trivial (rs_t (v := .nil 2) rfl (rs_t (v := .d (eI (8 : Int))) rfl rs_nil)) (en_nilr (en_d (to_d _) en_nil)) ou_nil (by first | exact eok rfl rfl rfl rfl (And.intro (And.intro rfl rfl) trivial) | (refine eok ?_ ?_ ?_ ?_ ?_ <;> first | rfl | exact (And.intro (And.intro rfl rfl) trivial) | simp [retM, Mem.get, PV.renL, PV.ren, Blk.ren, comps, rhoR, rhoM, appN, PV.refsL, PV.refs, keys, nodupB, Blk.refs, allIn, Blk.bor])))
  · replace h := ite_f h h7
    refine rwp_f (isF h7) ?_
    refine rwp_join ([], []) 1280 (fun env mem => ∃ (v10 : Bool), passkeyref37SplitJ1 a0 a1 a2 a3 v10 = some res ∧ env = [(0, .d ((eL 1 eU8) a0)), (1, .d ((eL 1 eU8) a1)), (2, .d (eI a2)), (3, .d (eI a3)), (21, .d (eB v10))] ∧ mem = []) (fun _ _ hI => ?_) (fun K11 hK11 => ?_)
    · obtain ⟨v10, h, rfl, rfl⟩ := hI
      unfold passkeyref37SplitJ1 at h
      rcases Bool.eq_false_or_eq_true (v10) with h12 | h12
      · replace h := ite_t h h12
        refine rwp_t (isT h12) ?_
        refine rwp_seq fun K13 hK13 => ?_
        refine rwp_region fun K14 hK14 => ?_
        refine st0 1344 rfl (ok (mv (.nil 2))) ?_
        refine st0 1408 rfl (ok (mv (.d (eI (9 : Int))))) ?_
        refine hK14 _ _ ?_
        simp only [thenK, blockK, keepE, updM, List.filter_cons, List.filter_nil, List.nil_append, List.cons_append, List.map_cons, List.map_nil, envE, Mem.get, Nat.reduceEqDiff, reduceIte, Option.isNone_none, Option.isNone_some, Bool.false_eq_true, List.length_cons, List.length_nil, Nat.reduceAdd, Nat.reduceMul]
        refine hK13 _ _ _ ?_
        refine rwp_ret ?_
        obtain rfl := Option.some.inj h
        try simp only [thenK, blockK, reduceIte]
        exact Or.inl (end_ok trivial (rs_t (v := .nil 2) rfl (rs_t (v := .d (eI (9 : Int))) rfl rs_nil)) (en_nilr (en_d (to_d _) en_nil)) ou_nil (by first | exact eok rfl rfl rfl rfl (And.intro (And.intro rfl rfl) trivial) | (refine eok ?_ ?_ ?_ ?_ ?_ <;> first | rfl | exact (And.intro (And.intro rfl rfl) trivial) | simp [retM, Mem.get, PV.renL, PV.ren, Blk.ren, comps, rhoR, rhoM, appN, PV.refsL, PV.refs, keys, nodupB, Blk.refs, allIn, Blk.bor])))
      · replace h := ite_f h h12
        refine rwp_f (isF h12) ?_
        refine rwp_seq fun K15 hK15 => ?_
        refine rwp_region fun K16 hK16 => ?_
        refine st0 1344 rfl (ok (mv (.d ((eL 1 eU8) a1)))) ?_
        refine st0 1408 rfl (ok (lenL _ _)) ?_
        refine st0 1472 rfl (ok (mv (.d (eI a2)))) ?_
        refine st0 1536 rfl (ok (subI _ (1 : Int))) ?_
        refine st0 1600 rfl (ok (mv (.d ((eL 1 eU8) a0)))) ?_
        refine st0 1664 rfl (ok (lenL _ _)) ?_
        refine st0 1728 rfl (ok (mulI _ _)) ?_
        refine st0 1792 rfl (ok (lssI _ _)) ?_
        refine st0 1856 rfl (ok (mv (.d (eB (decide ((a1.length : Int) < (w64 ((w64 (a2 - (1 : Int))) * (a0.length : Int))))))))) ?_
        refine hK16 _ _ ?_
        simp only [thenK, blockK, keepE, updM, List.filter_cons, List.filter_nil, List.nil_append, List.cons_append, List.map_cons, List.map_nil, envE, Mem.get, Nat.reduceEqDiff, reduceIte, Option.isNone_none, Option.isNone_some, Bool.false_eq_true, List.length_cons, List.length_nil, Nat.reduceAdd, Nat.reduceMul]
        refine hK15 _ _ _ ?_
        rcases Bool.eq_false_or_eq_true ((decide ((a1.length : Int) < (w64 ((w64 (a2 - (1 : Int))) * (a0.length : Int)))))) with h17 | h17
        · replace h := ite_t h h17
          refine rwp_t (isT h17) ?_
          refine rwp_seq fun K18 hK18 => ?_
          refine rwp_region fun K19 hK19 => ?_
          refine st0 1920 rfl (ok (mv (.nil 2))) ?_
          refine st0 1984 rfl (ok (mv (.d (eI (1 : Int))))) ?_
          refine hK19 _ _ ?_
          simp only [thenK, blockK, keepE, updM, List.filter_cons, List.filter_nil, List.nil_append, List.cons_append, List.map_cons, List.map_nil, envE, Mem.get, Nat.reduceEqDiff, reduceIte, Option.isNone_none, Option.isNone_some, Bool.false_eq_true, List.length_cons, List.length_nil, Nat.reduceAdd, Nat.reduceMul]
          refine hK18 _ _ _ ?_
          refine rwp_ret ?_
          obtain rfl := Option.some.inj h
          try simp only [thenK, blockK, reduceIte]
          exact Or.inl (end_ok trivial (rs_t (v := .nil 2) rfl (rs_t (v := .d (eI (1 : Int))) rfl rs_nil)) (en_nilr (en_d (to_d _) en_nil)) ou_nil (by first | exact eok rfl rfl rfl rfl (And.intro (And.intro rfl rfl) trivial) | (refine eok ?_ ?_ ?_ ?_ ?_ <;> first | rfl | exact (And.intro (And.intro rfl rfl) trivial) | simp [retM, Mem.get, PV.renL, PV.ren, Blk.ren, comps, rhoR, rhoM, appN, PV.refsL, PV.refs, keys, nodupB, Blk.refs, allIn, Blk.bor])))
        · replace h := ite_f h h17
          refine rwp_f (isF h17) ?_
          refine rwp_skip ?_
          refine hK4 _ _ _ ?_
          refine hK3 _ _ _ ?_
          refine rwp_seq fun K20 hK20 => ?_
          refine rwp_region fun K21 hK21 => ?_
          refine st0 1920 rfl (ok (mv (.nil 2))) ?_
          refine hK21 _ _ ?_
          simp only [thenK, blockK, keepE, updM, List.filter_cons, List.filter_nil, List.nil_append, List.cons_append, List.map_cons, List.map_nil, envE, Mem.get, Nat.reduceEqDiff, reduceIte, Option.isNone_none, Option.isNone_some, Bool.false_eq_true, List.length_cons, List.length_nil, Nat.reduceAdd, Nat.reduceMul]
          refine hK20 _ _ _ ?_
          refine rwp_join ([], []) 7296 (fun env mem => ∃ (v22 : List (TApiShare)), passkeyref37SplitJ2 v22 = some res ∧ env = [(10, .ref 6977 v22.length 0 v22.length)] ∧ mem = [(6977, .row true 2 (v22.map eTApiShare))]) (fun _ _ hI => ?_) (fun K23 hK23 => ?_)
          · obtain ⟨v22, h, rfl, rfl⟩ := hI
            unfold passkeyref37SplitJ2 at h
            refine rwp_seq fun K24 hK24 => ?_
            refine rwp_region fun K25 hK25 => ?_
            refine st0 7360 rfl (ok (mv (.ref 6977 v22.length 0 v22.length))) ?_
            refine st0 7424 rfl (ok (mv (.ref 6977 v22.length 0 v22.length))) ?_
            refine st0 7488 rfl (ok (mv (.d (eI (0 : Int))))) ?_
            refine hK25 _ _ ?_
            simp only [thenK, blockK, keepE, updM, List.filter_cons, List.filter_nil, List.nil_append, List.cons_append, List.map_cons, List.map_nil, envE, Mem.get, Nat.reduceEqDiff, reduceIte, Option.isNone_none, Option.isNone_some, Bool.false_eq_true, List.length_cons, List.length_nil, Nat.reduceAdd, Nat.reduceMul]
            refine hK24 _ _ _ ?_
            refine rwp_ret ?_
            obtain rfl := Option.some.inj h
            try simp only [thenK, blockK, reduceIte]
            exact Or.inl (end_ok trivial (rs_t (v := .ref 6977 v22.length 0 v22.length) rfl (rs_t (v := .d (eI (0 : Int))) rfl rs_nil)) (en_ref (en_d (to_d _) en_nil)) ou_nil (by first | exact eok rfl rfl rfl rfl (And.intro (And.intro rfl rfl) trivial) | (refine eok ?_ ?_ ?_ ?_ ?_ <;> first | rfl | exact (And.intro (And.intro rfl rfl) trivial) | simp [retM, Mem.get, PV.renL, PV.ren, Blk.ren, comps, rhoR, rhoM, appN, PV.refsL, PV.refs, keys, nodupB, Blk.refs, allIn, Blk.bor])))
          · refine rwp_seq fun K26 hK26 => ?_
            refine rwp_region fun K27 hK27 => ?_
            refine st0 1984 rfl (ok (mv (.d (eI (1 : Int))))) ?_
            refine hK27 _ _ ?_
            simp only [thenK, blockK, keepE, updM, List.filter_cons, List.filter_nil, List.nil_append, List.cons_append, List.map_cons, List.map_nil, envE, Mem.get, Nat.reduceEqDiff, reduceIte, Option.isNone_none, Option.isNone_some, Bool.false_eq_true, List.length_cons, List.length_nil, Nat.reduceAdd, Nat.reduceMul]
            refine hK26 _ _ _ ?_
            refine rwp_block fun K28 hK28 => ?_
            refine rwp_loop ([(10, 6977)], []) 7040 (fun k env mem => ∃ (v29 : List (TApiShare)) (v30 : Int), passkeyref37SplitL3 a0 a1 a2 a3 k v29 v30 = some res ∧ env = [(0, .d ((eL 1 eU8) a0)), (1, .d ((eL 1 eU8) a1)), (2, .d (eI a2)), (3, .d (eI a3)), (10, .ref 6977 v29.length 0 v29.length), (11, .d (eI v30))] ∧ mem = [(6977, .row true 2 (v29.map eTApiShare))]) FUEL ⟨_, _, Settled.refl, _, _, ⟨_, _, h, rfl, rfl⟩, ⟨rfl, ⟨⟨rfl, rfl⟩, ⟨⟨rfl, rfl⟩, ⟨⟨rfl, rfl⟩, ⟨⟨rfl, rfl⟩, ⟨⟨rfl, rfl⟩, ⟨⟨rfl, rfl⟩, trivial⟩⟩⟩⟩⟩⟩, ⟨⟨rfl, rfl⟩, trivial⟩⟩, rfl⟩ (fun k3 env1 mem1 hI K31 hK31 => ?_)
            obtain ⟨v29, v30, h, rfl, rfl⟩ := hI
            cases k3 with
            | zero => simp [passkeyref37SplitL3] at h
            | succ k3 =>
              rw [passkeyref37SplitL3] at h
              refine rwp_seq fun K32 hK32 => ?_
              refine rwp_seq fun K33 hK33 => ?_
              refine rwp_region fun K34 hK34 => ?_
              refine st0 7104 rfl (ok (mv (.d (eI v30)))) ?_
              refine st0 7168 rfl (ok (mv (.d (eI a3)))) ?_
              refine st0 7232 rfl (ok (leqI _ _)) ?_
              refine hK34 _ _ ?_
              simp only [thenK, blockK, keepE, updM, List.filter_cons, List.filter_nil, List.nil_append, List.cons_append, List.map_cons, List.map_nil, envE, Mem.get, Nat.reduceEqDiff, reduceIte, Option.isNone_none, Option.isNone_some, Bool.false_eq_true, List.length_cons, List.length_nil, Nat.reduceAdd, Nat.reduceMul]
              refine hK33 _ _ _ ?_
              rcases Bool.eq_false_or_eq_true ((decide (v30 ≤ a3))) with h35 | h35
              · replace h := ite_t h h35
                refine rwp_t (isT h35) ?_
                refine rwp_skip ?_
                refine hK32 _ _ _ ?_
                refine rwp_join ([], []) 11712 (fun env mem => ∃ (v36 : List (TApiShare)), passkeyref37SplitJ4 (passkeyref37SplitL3 a0 a1 a2 a3 k3) v30 v36 = some res ∧ env = [(0, .d ((eL 1 eU8) a0)), (1, .d ((eL 1 eU8) a1)), (2, .d (eI a2)), (3, .d (eI a3)), (10, .ref 6977 v36.length 0 v36.length), (11, .d (eI v30))] ∧ mem = [(6977, .row true 2 (v36.map eTApiShare))]) (fun _ _ hI => ?_) (fun K37 hK37 => ?_)
                · obtain ⟨v36, h, rfl, rfl⟩ := hI
                  unfold passkeyref37SplitJ4 at h
                  refine rwp_region fun K38 hK38 => ?_
                  refine st0 11776 rfl (ok (mv (.d (eI v30)))) ?_
                  refine st0 11840 rfl (ok (addI _ (1 : Int))) ?_
                  refine st0 11904 rfl (ok (mv (.d (eI (w64 (v30 + (1 : Int))))))) ?_
                  refine hK38 _ _ ?_
                  simp only [thenK, blockK, keepE, updM, List.filter_cons, List.filter_nil, List.nil_append, List.cons_append, List.map_cons, List.map_nil, envE, Mem.get, Nat.reduceEqDiff, reduceIte, Option.isNone_none, Option.isNone_some, Bool.false_eq_true, List.length_cons, List.length_nil, Nat.reduceAdd, Nat.reduceMul]
                  exact hK31.out _ _ _ k3 (Nat.lt_succ_self k3) ⟨_, _, Settled.refl, _, _, ⟨_, _, h, rfl, rfl⟩, ⟨rfl, ⟨⟨rfl, rfl⟩, ⟨⟨rfl, rfl⟩, ⟨⟨rfl, rfl⟩, ⟨⟨rfl, rfl⟩, ⟨⟨rfl, rfl⟩, ⟨⟨rfl, rfl⟩, trivial⟩⟩⟩⟩⟩⟩, ⟨⟨rfl, rfl⟩, trivial⟩⟩, rfl⟩
                · refine rwp_block fun K39 hK39 => ?_
                  refine rwp_seq fun K40 hK40 => ?_
                  refine rwp_region fun K41 hK41 => ?_
                  refine st0 7296 rfl (ok (mv (.nil 1))) ?_
                  refine hK41 _ _ ?_
                  simp only [thenK, blockK, keepE, updM, List.filter_cons, List.filter_nil, List.nil_append, List.cons_append, List.map_cons, List.map_nil, envE, Mem.get, Nat.reduceEqDiff, reduceIte, Option.isNone_none, Option.isNone_some, Bool.false_eq_true, List.length_cons, List.length_nil, Nat.reduceAdd, Nat.reduceMul]
                  refine hK40 _ _ _ ?_
                  refine rwp_join ([], []) 11200 (fun env mem => ∃ (v42 : List (BitVec 8)), passkeyref37SplitJ5 (passkeyref37SplitL3 a0 a1 a2 a3 k3) v29 v30 v42 = some res ∧ env = [(0, .d ((eL 1 eU8) a0)), (1, .d ((eL 1 eU8) a1)), (2, .d (eI a2)), (3, .d (eI a3)), (10, .ref 6977 v29.length 0 v29.length), (11, .d (eI v30)), (12, .ref 10817 v42.length 0 v42.length)] ∧ mem = [(6977, .row true 2 (v29.map eTApiShare)), (10817, .row true 1 (v42.map eU8))]) (fun _ _ hI => ?_) (fun K43 hK43 => ?_)
                  · obtain ⟨v42, h, rfl, rfl⟩ := hI
                    unfold passkeyref37SplitJ5 at h
                    refine rwp_region fun K44 hK44 => ?_
                    refine st0 11264 rfl (ok (mv (.ref 6977 v29.length 0 v29.length))) ?_
                    refine st0 11328 rfl (ok (mv (.d (eI v30)))) ?_
                    refine st0 11392 rfl (ok (mv (.ref 10817 v42.length 0 v42.length))) ?_
                    refine st0 11456 rfl (ok (bld (v := .agg [.d (eI v30), .ref 10817 v42.length 0 v42.length]) rfl rfl)) ?_
                    refine st1 11520 rfl (mem' := [(11456, .row true 2 (([(TApiShare.mk v30 v42)] : List (TApiShare)).map eTApiShare)), (10817, .row false 1 (v42.map eU8)), (6977, .row true 2 (v29.map eTApiShare))]) (ok (bslF (e := eTApiShare) (ys := ([(TApiShare.mk v30 v42)] : List (TApiShare))) rfl (fe_cons (to_agg (ds_d _ (ds_r (ys := v42) rfl rfl rfl ds_nil)) (x := eTApiShare (TApiShare.mk v30 v42)) rfl) rfl fe_nil) rfl)) rfl ?_
                    obtain ⟨h45, h⟩ := asq_inv h
                    refine st1 11584 rfl (mem' := [(6977, .row true 2 ((v29 ++ ([(TApiShare.mk v30 v42)] : List (TApiShare))).map eTApiShare)), (11456, .row true 2 (([(TApiShare.mk v30 v42)] : List (TApiShare)).map eTApiShare)), (10817, .row false 1 (v42.map eU8))]) (ok (appR (e := eTApiShare) (xs := v29) (ys := ([(TApiShare.mk v30 v42)] : List (TApiShare))) (contR (xs := ([(TApiShare.mk v30 v42)] : List (TApiShare))) rfl rfl rfl) rfl rfl rfl h45)) rfl ?_
                    refine st0 11648 rfl (ok (mv (.ref 6977 (((v29 ++ ([(TApiShare.mk v30 v42)] : List (TApiShare)))).length) 0 (((v29 ++ ([(TApiShare.mk v30 v42)] : List (TApiShare)))).length)))) ?_
                    refine hK44 _ _ ?_
                    simp only [thenK, blockK, keepE, updM, List.filter_cons, List.filter_nil, List.nil_append, List.cons_append, List.map_cons, List.map_nil, envE, Mem.get, Nat.reduceEqDiff, reduceIte, Option.isNone_none, Option.isNone_some, Bool.false_eq_true, List.length_cons, List.length_nil, Nat.reduceAdd, Nat.reduceMul]
                    refine hK39 _ _ _ ?_
                    exact hK37 _ _ _ ⟨_, _, Settled.refl, _, _, ⟨_, h, rfl, rfl⟩, ⟨rfl, ⟨⟨rfl, rfl⟩, ⟨⟨rfl, rfl⟩, ⟨⟨rfl, rfl⟩, ⟨⟨rfl, rfl⟩, ⟨⟨rfl, rfl⟩, ⟨⟨rfl, rfl⟩, trivial⟩⟩⟩⟩⟩⟩, ⟨⟨rfl, rfl⟩, trivial⟩⟩, rfl⟩
                  · refine rwp_seq fun K46 hK46 => ?_
                    refine rwp_region fun K47 hK47 => ?_
                    refine st0 7360 rfl (ok (mv (.d (eI (0 : Int))))) ?_
                    refine hK47 _ _ ?_
                    simp only [thenK, blockK, keepE, updM, List.filter_cons, List.filter_nil, List.nil_append, List.cons_append, List.map_cons, List.map_nil, envE, Mem.get, Nat.reduceEqDiff, reduceIte, Option.isNone_none, Option.isNone_some, Bool.false_eq_true, List.length_cons, List.length_nil, Nat.reduceAdd, Nat.reduceMul]
                    refine hK46 _ _ _ ?_
                    refine rwp_block fun K48 hK48 => ?_
                    refine rwp_loop ([(12, 10817)], []) 10880 (fun k env mem => ∃ (v49 : List (BitVec 8)) (v50 : Int), passkeyref37SplitL6 (passkeyref37SplitL3 a0 a1 a2 a3 k3) a0 a1 a2 v29 v30 k v49 v50 = some res ∧ env = [(0, .d ((eL 1 eU8) a0)), (1, .d ((eL 1 eU8) a1)), (2, .d (eI a2)), (3, .d (eI a3)), (10, .ref 6977 v29.length 0 v29.length), (11, .d (eI v30)), (12, .ref 10817 v49.length 0 v49.length), (13, .d (eI v50))] ∧ mem = [(6977, .row true 2 (v29.map eTApiShare)), (10817, .row true 1 (v49.map eU8))]) FUEL ⟨_, _, Settled.refl, _, _, ⟨_, _, h, rfl, rfl⟩, ⟨rfl, ⟨⟨rfl, rfl⟩, ⟨⟨rfl, rfl⟩, ⟨⟨rfl, rfl⟩, ⟨⟨rfl, rfl⟩, ⟨⟨rfl, rfl⟩, ⟨⟨rfl, rfl⟩, ⟨⟨rfl, rfl⟩, ⟨⟨rfl, rfl⟩, trivial⟩⟩⟩⟩⟩⟩⟩⟩, ⟨⟨rfl, rfl⟩, ⟨⟨rfl, rfl⟩, trivial⟩⟩⟩, rfl⟩ (fun k6 env1 mem1 hI K51 hK51 => ?_)
                    obtain ⟨v49, v50, h, rfl, rfl⟩ := hI
                    cases k6 with
                    | zero => simp [passkeyref37SplitL6] at h
                    | succ k6 =>
                      rw [passkeyref37SplitL6] at h
                      refine rwp_seq fun K52 hK52 => ?_
                      refine rwp_seq fun K53 hK53 => ?_
                      refine rwp_region fun K54 hK54 => ?_
                      refine st0 10944 rfl (ok (mv (.d (eI v50)))) ?_
                      refine st0 11008 rfl (ok (mv (.d ((eL 1 eU8) a0)))) ?_
                      refine st0 11072 rfl (ok (lenL _ _)) ?_
                      refine st0 11136 rfl (ok (lssI _ _)) ?_
                      refine hK54 _ _ ?_
                      simp only [thenK, blockK, keepE, updM, List.filter_cons, List.filter_nil, List.nil_append, List.cons_append, List.map_cons, List.map_nil, envE, Mem.get, Nat.reduceEqDiff, reduceIte, Option.isNone_none, Option.isNone_some, Bool.false_eq_true, List.length_cons, List.length_nil, Nat.reduceAdd, Nat.reduceMul]
                      refine hK53 _ _ _ ?_
                      rcases Bool.eq_false_or_eq_true ((decide (v50 < (a0.length : Int)))) with h55 | h55
                      · replace h := ite_t h h55
                        refine rwp_t (isT h55) ?_
                        refine rwp_skip ?_
                        refine hK52 _ _ _ ?_
                        refine rwp_join ([], []) 14016 (fun env mem => ∃ (v56 : List (BitVec 8)), passkeyref37SplitJ7 (passkeyref37SplitL6 (passkeyref37SplitL3 a0 a1 a2 a3 k3) a0 a1 a2 v29 v30 k6) v50 v56 = some res ∧ env = [(0, .d ((eL 1 eU8) a0)), (1, .d ((eL 1 eU8) a1)), (2, .d (eI a2)), (3, .d (eI a3)), (10, .ref 6977 v29.length 0 v29.length), (11, .d (eI v30)), (12, .ref 10817 v56.length 0 v56.length), (13, .d (eI v50))] ∧ mem = [(6977, .row true 2 (v29.map eTApiShare)), (10817, .row true 1 (v56.map eU8))]) (fun _ _ hI => ?_) (fun K57 hK57 => ?_)
                        · obtain ⟨v56, h, rfl, rfl⟩ := hI
                          unfold passkeyref37SplitJ7 at h
                          refine rwp_region fun K58 hK58 => ?_
                          refine st0 14080 rfl (ok (mv (.d (eI v50)))) ?_
                          refine st0 14144 rfl (ok (addI _ (1 : Int))) ?_
                          refine st0 14208 rfl (ok (mv (.d (eI (w64 (v50 + (1 : Int))))))) ?_
                          refine hK58 _ _ ?_
                          simp only [thenK, blockK, keepE, updM, List.filter_cons, List.filter_nil, List.nil_append, List.cons_append, List.map_cons, List.map_nil, envE, Mem.get, Nat.reduceEqDiff, reduceIte, Option.isNone_none, Option.isNone_some, Bool.false_eq_true, List.length_cons, List.length_nil, Nat.reduceAdd, Nat.reduceMul]
                          exact hK51.out _ _ _ k6 (Nat.lt_succ_self k6) ⟨_, _, Settled.refl, _, _, ⟨_, _, h, rfl, rfl⟩, ⟨rfl, ⟨⟨rfl, rfl⟩, ⟨⟨rfl, rfl⟩, ⟨⟨rfl, rfl⟩, ⟨⟨rfl, rfl⟩, ⟨⟨rfl, rfl⟩, ⟨⟨rfl, rfl⟩, ⟨⟨rfl, rfl⟩, ⟨⟨rfl, rfl⟩, trivial⟩⟩⟩⟩⟩⟩⟩⟩, ⟨⟨rfl, rfl⟩, ⟨⟨rfl, rfl⟩, trivial⟩⟩⟩, rfl⟩
                        · refine rwp_block fun K59 hK59 => ?_
                          refine rwp_seq fun K60 hK60 => ?_
                          refine rwp_region fun K61 hK61 => ?_
                          refine st0 11200 rfl (ok (mv (.d ((eL 1 eU8) a0)))) ?_
                          refine st0 11264 rfl (ok (mv (.d (eI v50)))) ?_
                          obtain ⟨h62, h⟩ := asq_inv h
                          refine st0 11328 rfl (ok (iaL (e := eU8) (xs := a0) 0#8 h62)) ?_
                          refine st0 11392 rfl (ok (ld_i (v := eU8 (a0.getD v50.toNat 0#8)) rfl rfl)) ?_
                          refine st0 11456 rfl (ok (mv (.d (eU8 (a0.getD v50.toNat 0#8))))) ?_
                          refine st0 11520 rfl (ok (mv (.d (eU8 (1#8))))) ?_
                          refine hK61 _ _ ?_
                          simp only [thenK, blockK, keepE, updM, List.filter_cons, List.filter_nil, List.nil_append, List.cons_append, List.map_cons, List.map_nil, envE, Mem.get, Nat.reduceEqDiff, reduceIte, Option.isNone_none, Option.isNone_some, Bool.false_eq_true, List.length_cons, List.length_nil, Nat.reduceAdd, Nat.reduceMul]
                          refine hK60 _ _ _ ?_
                          refine rwp_join ([], []) 13632 (fun env mem => ∃ (v63 : BitVec 8), passkeyref37SplitJ8 (passkeyref37SplitL6 (passkeyref37SplitL3 a0 a1 a2 a3 k3) a0 a1 a2 v29 v30 k6) v49 v50 v63 = some res ∧ env = [(0, .d ((eL 1 eU8) a0)), (1, .d ((eL 1 eU8) a1)), (2, .d (eI a2)), (3, .d (eI a3)), (10, .ref 6977 v29.length 0 v29.length), (11, .d (eI v30)), (12, .ref 10817 v49.length 0 v49.length), (13, .d (eI v50)), (14, .d (eU8 v63))] ∧ mem = [(6977, .row true 2 (v29.map eTApiShare)), (10817, .row true 1 (v49.map eU8))]) (fun _ _ hI => ?_) (fun K64 hK64 => ?_)
                          · obtain ⟨v63, h, rfl, rfl⟩ := hI
                            unfold passkeyref37SplitJ8 at h
                            refine rwp_region fun K65 hK65 => ?_
                            refine st0 13696 rfl (ok (mv (.ref 10817 v49.length 0 v49.length))) ?_
                            refine st0 13760 rfl (ok (mv (.d (eU8 v63)))) ?_
                            refine st1 13824 rfl (mem' := [(13760, .row true 1 (([v63] : List (BitVec 8)).map eU8)), (6977, .row true 2 (v29.map eTApiShare)), (10817, .row true 1 (v49.map eU8))]) (ok (bsl (e := eU8) (ys := ([v63] : List (BitVec 8))) rfl rfl rfl)) rfl ?_
                            obtain ⟨h66, h⟩ := asq_inv h
                            refine st1 13888 rfl (mem' := [(10817, .row true 1 ((v49 ++ ([v63] : List (BitVec 8))).map eU8)), (13760, .row true 1 (([v63] : List (BitVec 8)).map eU8)), (6977, .row true 2 (v29.map eTApiShare))]) (ok (appR (e := eU8) (xs := v49) (ys := ([v63] : List (BitVec 8))) (contR (xs := ([v63] : List (BitVec 8))) rfl rfl rfl) rfl rfl rfl h66)) rfl ?_
                            refine st0 13952 rfl (ok (mv (.ref 10817 (((v49 ++ ([v63] : List (BitVec 8)))).length) 0 (((v49 ++ ([v63] : List (BitVec 8)))).length)))) ?_
                            refine hK65 _ _ ?_
                            simp only [thenK, blockK, keepE, updM, List.filter_cons, List.filter_nil, List.nil_append, List.cons_append, List.map_cons, List.map_nil, envE, Mem.get, Nat.reduceEqDiff, reduceIte, Option.isNone_none, Option.isNone_some, Bool.false_eq_true, List.length_cons, List.length_nil, Nat.reduceAdd, Nat.reduceMul]
                            refine hK59 _ _ _ ?_
                            exact hK57 _ _ _ ⟨_, _, Settled.refl, _, _, ⟨_, h, rfl, rfl⟩, ⟨rfl, ⟨⟨rfl, rfl⟩, ⟨⟨rfl, rfl⟩, ⟨⟨rfl, rfl⟩, ⟨⟨rfl, rfl⟩, ⟨⟨rfl, rfl⟩, ⟨⟨rfl, rfl⟩, ⟨⟨rfl, rfl⟩, ⟨⟨rfl, rfl⟩, trivial⟩⟩⟩⟩⟩⟩⟩⟩, ⟨⟨rfl, rfl⟩, ⟨⟨rfl, rfl⟩, trivial⟩⟩⟩, rfl⟩
                          · refine rwp_seq fun K67 hK67 => ?_
                            refine rwp_region fun K68 hK68 => ?_
                            refine st0 11584 rfl (ok (mv (.d (eI (1 : Int))))) ?_
                            refine hK68 _ _ ?_
                            simp only [thenK, blockK, keepE, updM, List.filter_cons, List.filter_nil, List.nil_append, List.cons_append, List.map_cons, List.map_nil, envE, Mem.get, Nat.reduceEqDiff, reduceIte, Option.isNone_none, Option.isNone_some, Bool.false_eq_true, List.length_cons, List.length_nil, Nat.reduceAdd, Nat.reduceMul]
                            refine hK67 _ _ _ ?_
                            refine rwp_block fun K69 hK69 => ?_
                            refine rwp_loop ([], []) 13376 (fun k env mem => ∃ (v70 : BitVec 8) (v71 : BitVec 8) (v72 : Int), passkeyref37SplitL9 (passkeyref37SplitL6 (passkeyref37SplitL3 a0 a1 a2 a3 k3) a0 a1 a2 v29 v30 k6) a0 a1 a2 v30 v49 v50 k v70 v71 v72 = some res ∧ env = [(0, .d ((eL 1 eU8) a0)), (1, .d ((eL 1 eU8) a1)), (2, .d (eI a2)), (3, .d (eI a3)), (10, .ref 6977 v29.length 0 v29.length), (11, .d (eI v30)), (12, .ref 10817 v49.length 0 v49.length), (13, .d (eI v50)), (14, .d (eU8 v70)), (15, .d (eU8 v71)), (16, .d (eI v72))] ∧ mem = [(6977, .row true 2 (v29.map eTApiShare)), (10817, .row true 1 (v49.map eU8))]) FUEL ⟨_, _, Settled.refl, _, _, ⟨_, _, _, h, rfl, rfl⟩, ⟨rfl, ⟨⟨rfl, rfl⟩, ⟨⟨rfl, rfl⟩, ⟨⟨rfl, rfl⟩, ⟨⟨rfl, rfl⟩, ⟨⟨rfl, rfl⟩, ⟨⟨rfl, rfl⟩, ⟨⟨rfl, rfl⟩, ⟨⟨rfl, rfl⟩, ⟨⟨rfl, rfl⟩, ⟨⟨rfl, rfl⟩, ⟨⟨rfl, rfl⟩, trivial⟩⟩⟩⟩⟩⟩⟩⟩⟩⟩⟩, ⟨⟨rfl, rfl⟩, ⟨⟨rfl, rfl⟩, trivial⟩⟩⟩, rfl⟩ (fun k9 env1 mem1 hI K73 hK73 => ?_)
                            obtain ⟨v70, v71, v72, h, rfl, rfl⟩ := hI
                            cases k9 with
                            | zero => simp [passkeyref37SplitL9] at h
                            | succ k9 =>
                              rw [passkeyref37SplitL9] at h
                              refine rwp_seq fun K74 hK74 => ?_
                              refine rwp_seq fun K75 hK75 => ?_
                              refine rwp_region fun K76 hK76 => ?_
                              refine st0 13440 rfl (ok (mv (.d (eI v72)))) ?_
                              refine st0 13504 rfl (ok (mv (.d (eI a2)))) ?_
                              refine st0 13568 rfl (ok (lssI _ _)) ?_
                              refine hK76 _ _ ?_
                              simp only [thenK, blockK, keepE, updM, List.filter_cons, List.filter_nil, List.nil_append, List.cons_append, List.map_cons, List.map_nil, envE, Mem.get, Nat.reduceEqDiff, reduceIte, Option.isNone_none, Option.isNone_some, Bool.false_eq_true, List.length_cons, List.length_nil, Nat.reduceAdd, Nat.reduceMul]
                              refine hK75 _ _ _ ?_
                              rcases Bool.eq_false_or_eq_true ((decide (v72 < a2))) with h77 | h77
                              · replace h := ite_t h h77
                                refine rwp_t (isT h77) ?_
                                refine rwp_skip ?_
                                refine hK74 _ _ _ ?_
                                refine rwp_seq fun K78 hK78 => ?_
                                refine rwp_block fun K79 hK79 => ?_
                                refine rwp_seq fun K80 hK80 => ?_
                                refine rwp_region fun K81 hK81 => ?_
                                refine st0 13632 rfl (ok (mv (.d (eU8 v71)))) ?_
                                refine st0 13696 rfl (ok (mv (.d (eI v30)))) ?_
                                refine st0 13760 rfl (ok (ofI8 _ v30)) ?_
                                obtain ⟨y82, h83, h⟩ := bind_inv h
                                refine st0 13824 rfl (call_ok (v := .d (eU8 y82)) (u := []) (ar_d (eU8 v71) (ar_d (eU8 (BitVec.ofInt 8 v30)) ar_nil)) rfl (passkeyref37MulOK v71 (BitVec.ofInt 8 v30) y82 h83) rfl) ?_
                                refine st0 13888 rfl (ok (mv (.d (eU8 y82)))) ?_
                                refine hK81 _ _ ?_
                                simp only [thenK, blockK, keepE, updM, List.filter_cons, List.filter_nil, List.nil_append, List.cons_append, List.map_cons, List.map_nil, envE, Mem.get, Nat.reduceEqDiff, reduceIte, Option.isNone_none, Option.isNone_some, Bool.false_eq_true, List.length_cons, List.length_nil, Nat.reduceAdd, Nat.reduceMul]
                                refine hK80 _ _ _ ?_
                                refine rwp_region fun K84 hK84 => ?_
                                refine st0 13952 rfl (ok (mv (.d (eU8 v70)))) ?_
                                refine st0 14016 rfl (ok (mv (.d ((eL 1 eU8) a1)))) ?_
                                refine st0 14080 rfl (ok (mv (.d (eI v72)))) ?_
                                refine st0 14144 rfl (ok (subI _ (1 : Int))) ?_
                                refine st0 14208 rfl (ok (mv (.d ((eL 1 eU8) a0)))) ?_
                                refine st0 14272 rfl (ok (lenL _ _)) ?_
                                refine st0 14336 rfl (ok (mulI _ _)) ?_
                                refine st0 14400 rfl (ok (mv (.d (eI v50)))) ?_
                                obtain ⟨v85, h86, h⟩ := lett_inv h
                                refine st0e 14464 rfl (ok (addI _ _)) (congrArg (fun z => PV.d (eI z)) h86) ?_
                                obtain ⟨h87, h⟩ := asq_inv h
                                refine st0 14528 rfl (ok (iaL (e := eU8) (xs := a1) 0#8 h87)) ?_
                                refine st0 14592 rfl (ok (ld_i (v := eU8 (a1.getD v85.toNat 0#8)) rfl rfl)) ?_
                                refine st0 14656 rfl (ok (mv (.d (eU8 y82)))) ?_
                                obtain ⟨y88, h89, h⟩ := bind_inv h
                                refine st0 14720 rfl (call_ok (v := .d (eU8 y88)) (u := []) (ar_d (eU8 (a1.getD v85.toNat 0#8)) (ar_d (eU8 y82) ar_nil)) rfl (passkeyref37MulOK (a1.getD v85.toNat 0#8) y82 y88 h89) rfl) ?_
                                refine st0 14784 rfl (ok (xor8 _ _)) ?_
                                refine st0 14848 rfl (ok (mv (.d (eU8 (v70 ^^^ y88))))) ?_
                                refine hK84 _ _ ?_
                                simp only [thenK, blockK, keepE, updM, List.filter_cons, List.filter_nil, List.nil_append, List.cons_append, List.map_cons, List.map_nil, envE, Mem.get, Nat.reduceEqDiff, reduceIte, Option.isNone_none, Option.isNone_some, Bool.false_eq_true, List.length_cons, List.length_nil, Nat.reduceAdd, Nat.reduceMul]
                                refine hK79 _ _ _ ?_
                                refine hK78 _ _ _ ?_
                                refine rwp_region fun K90 hK90 => ?_
                                refine st0 14912 rfl (ok (mv (.d (eI v72)))) ?_
                                refine st0 14976 rfl (ok (addI _ (1 : Int))) ?_
                                refine st0 15040 rfl (ok (mv (.d (eI (w64 (v72 + (1 : Int))))))) ?_
                                refine hK90 _ _ ?_
                                simp only [thenK, blockK, keepE, updM, List.filter_cons, List.filter_nil, List.nil_append, List.cons_append, List.map_cons, List.map_nil, envE, Mem.get, Nat.reduceEqDiff, reduceIte, Option.isNone_none, Option.isNone_some, Bool.false_eq_true, List.length_cons, List.length_nil, Nat.reduceAdd, Nat.reduceMul]
                                exact hK73.out _ _ _ k9 (Nat.lt_succ_self k9) ⟨_, _, Settled.refl, _, _, ⟨_, _, _, h, rfl, rfl⟩, ⟨rfl, ⟨⟨rfl, rfl⟩, ⟨⟨rfl, rfl⟩, ⟨⟨rfl, rfl⟩, ⟨⟨rfl, rfl⟩, ⟨⟨rfl, rfl⟩, ⟨⟨rfl, rfl⟩, ⟨⟨rfl, rfl⟩, ⟨⟨rfl, rfl⟩, ⟨⟨rfl, rfl⟩, ⟨⟨rfl, rfl⟩, ⟨⟨rfl, rfl⟩, trivial⟩⟩⟩⟩⟩⟩⟩⟩⟩⟩⟩, ⟨⟨rfl, rfl⟩, ⟨⟨rfl, rfl⟩, trivial⟩⟩⟩, rfl⟩
                              · replace h := ite_f h h77
                                refine rwp_f (isF h77) ?_
                                refine rwp_exit ?_
                                refine hK69 _ _ _ ?_
                                exact hK64 _ _ _ ⟨_, _, Settled.refl, _, _, ⟨_, h, rfl, rfl⟩, ⟨rfl, ⟨⟨rfl, rfl⟩, ⟨⟨rfl, rfl⟩, ⟨⟨rfl, rfl⟩, ⟨⟨rfl, rfl⟩, ⟨⟨rfl, rfl⟩, ⟨⟨rfl, rfl⟩, ⟨⟨rfl, rfl⟩, ⟨⟨rfl, rfl⟩, ⟨⟨rfl, rfl⟩, trivial⟩⟩⟩⟩⟩⟩⟩⟩⟩, ⟨⟨rfl, rfl⟩, ⟨⟨rfl, rfl⟩, trivial⟩⟩⟩, rfl⟩
                      · replace h := ite_f h h55
                        refine rwp_f (isF h55) ?_
                        refine rwp_exit ?_
                        refine hK48 _ _ _ ?_
                        exact hK43 _ _ _ ⟨_, _, Settled.refl, _, _, ⟨_, h, rfl, rfl⟩, ⟨rfl, ⟨⟨rfl, rfl⟩, ⟨⟨rfl, rfl⟩, ⟨⟨rfl, rfl⟩, ⟨⟨rfl, rfl⟩, ⟨⟨rfl, rfl⟩, ⟨⟨rfl, rfl⟩, ⟨⟨rfl, rfl⟩, trivial⟩⟩⟩⟩⟩⟩⟩, ⟨⟨rfl, rfl⟩, ⟨⟨rfl, rfl⟩, trivial⟩⟩⟩, rfl⟩
              · replace h := ite_f h h35
                refine rwp_f (isF h35) ?_
                refine rwp_exit ?_
                refine hK28 _ _ _ ?_
                exact hK23 _ _ _ ⟨_, _, Settled.refl, _, _, ⟨_, h, rfl, rfl⟩, ⟨rfl, ⟨⟨rfl, rfl⟩, trivial⟩, ⟨⟨rfl, rfl⟩, trivial⟩⟩, rfl⟩
    · refine rwp_region fun K91 hK91 => ?_
      refine st0 512 rfl (ok (mv (.d (eI a2)))) ?_
      refine st0 576 rfl (ok (lssI _ (1 : Int))) ?_
      refine st0 640 rfl (ok (mv (.d (eB (decide (a2 < (1 : Int))))))) ?_
      rcases Bool.eq_false_or_eq_true ((decide (a2 < (1 : Int)))) with h92 | h92
      · replace h := ite_t h h92
        refine stGN 704 rfl rfl h92 ?_
        refine stGN 768 rfl rfl h92 ?_
        refine stGN 832 rfl rfl h92 ?_
        refine st0 896 rfl (ok (pick_t h92 (.d (eB true)) _)) ?_
        refine st0 960 rfl (ok (mv (.d (eB true)))) ?_
        refine stGN 1024 rfl rfl rfl ?_
        refine stGN 1088 rfl rfl rfl ?_
        refine st0 1152 rfl (ok (pick_t rfl (.d (eB true)) _)) ?_
        refine st0 1216 rfl (ok (mv (.d (eB true)))) ?_
        refine hK91 _ _ ?_
        simp only [thenK, blockK, keepE, updM, List.filter_cons, List.filter_nil, List.nil_append, List.cons_append, List.map_cons, List.map_nil, envE, Mem.get, Nat.reduceEqDiff, reduceIte, Option.isNone_none, Option.isNone_some, Bool.false_eq_true, List.length_cons, List.length_nil, Nat.reduceAdd, Nat.reduceMul]
        exact hK11 _ _ _ ⟨_, _, Settled.refl, _, _, ⟨_, h, rfl, rfl⟩, ⟨rfl, ⟨⟨rfl, rfl⟩, ⟨⟨rfl, rfl⟩, ⟨⟨rfl, rfl⟩, ⟨⟨rfl, rfl⟩, ⟨⟨rfl, rfl⟩, trivial⟩⟩⟩⟩⟩, trivial⟩, rfl⟩
      · replace h := ite_f h h92
        refine stG (isF h92) ?_
        refine st0 704 rfl (ok (mv (.d (eI a3)))) ?_
        refine stG (isF h92) ?_
        refine st0 768 rfl (ok (mv (.d (eI a2)))) ?_
        refine stG (isF h92) ?_
        refine st0 832 rfl (ok (lssI _ _)) ?_
        refine st0 896 rfl (ok (pick_f h92 _ (.d (eB (decide (a3 < a2)))))) ?_
        refine st0 960 rfl (ok (mv (.d (eB (decide (a3 < a2)))))) ?_
        rcases Bool.eq_false_or_eq_true ((decide (a3 < a2))) with h93 | h93
        · replace h := ite_t h h93
          refine stGN 1024 rfl rfl h93 ?_
          refine stGN 1088 rfl rfl h93 ?_
          refine st0 1152 rfl (ok (pick_t h93 (.d (eB true)) _)) ?_
          refine st0 1216 rfl (ok (mv (.d (eB true)))) ?_
          refine hK91 _ _ ?_
          simp only [thenK, blockK, keepE, updM, List.filter_cons, List.filter_nil, List.nil_append, List.cons_append, List.map_cons, List.map_nil, envE, Mem.get, Nat.reduceEqDiff, reduceIte, Option.isNone_none, Option.isNone_some, Bool.false_eq_true, List.length_cons, List.length_nil, Nat.reduceAdd, Nat.reduceMul]
          exact hK11 _ _ _ ⟨_, _, Settled.refl, _, _, ⟨_, h, rfl, rfl⟩, ⟨rfl, ⟨⟨rfl, rfl⟩, ⟨⟨rfl, rfl⟩, ⟨⟨rfl, rfl⟩, ⟨⟨rfl, rfl⟩, ⟨⟨rfl, rfl⟩, trivial⟩⟩⟩⟩⟩, trivial⟩, rfl⟩
        · replace h := ite_f h h93
          refine stG (isF h93) ?_
          refine st0 1024 rfl (ok (mv (.d (eI a3)))) ?_
          refine stG (isF h93) ?_
          refine st0 1088 rfl (ok (gtrI _ (255 : Int))) ?_
          refine st0 1152 rfl (ok (pick_f h93 _ (.d (eB (decide ((255 : Int) < a3)))))) ?_
          refine st0 1216 rfl (ok (mv (.d (eB (decide ((255 : Int) < a3)))))) ?_
          refine hK91 _ _ ?_
          simp only [thenK, blockK, keepE, updM, List.filter_cons, List.filter_nil, List.nil_append, List.cons_append, List.map_cons, List.map_nil, envE, Mem.get, Nat.reduceEqDiff, reduceIte, Option.isNone_none, Option.isNone_some, Bool.false_eq_true, List.length_cons, List.length_nil, Nat.reduceAdd, Nat.reduceMul]
          exact hK11 _ _ _ ⟨_, _, Settled.refl, _, _, ⟨_, h, rfl, rfl⟩, ⟨rfl, ⟨⟨rfl, rfl⟩, ⟨⟨rfl, rfl⟩, ⟨⟨rfl, rfl⟩, ⟨⟨rfl, rfl⟩, ⟨⟨rfl, rfl⟩, trivial⟩⟩⟩⟩⟩, trivial⟩, rfl⟩

end Go.Proofs.Ty
