/- Each Go function comes to what its plain function says. PRINTED by a program of this session (ty.py). -/
import Derived.Test.YtfhdcabplkhdcaaDoorS8
set_option linter.unusedVariables false
set_option linter.unusedSimpArgs false
set_option maxHeartbeats 4000000
set_option maxRecDepth 10000
namespace Go.Proofs.Ty
open Go Go.RW Go.Proofs
open Go.RW renaming thenK → n0, blockK → n1, keepE → n2, updM → n3, envE → n4
open Go.RW.Mem renaming get → n5
open List renaming filter_cons → n6, filter_nil → n7, nil_append → n8, cons_append → n9, map_cons → n10, map_nil → n11, length_cons → n12, length_nil → n13
open Option renaming isNone_none → n14, isNone_some → n15
open Bool renaming false_eq_true → n16
open Nat renaming reduceEqDiff → n17, reduceAdd → n18, reduceMul → n19
/-- passkey/passkeyref10.Issue -/
def passkeyref10IssueH : Hints := ⟨[(0, [1, 2, 3, 4, 5, 10]), (1, [1, 2, 3, 4, 5, 10, 25]), (2, [10, 11]), (3, [1, 2, 3, 4, 5, 10, 29]), (4, [10, 11]), (5, [5, 10]), (6, [10, 11])], []⟩
def passkeyref10IssueRc : RCode :=
  .seq (.region false [⟨some 5, .box, [.t 0], none, []⟩, ⟨some 10, .alloc [.d (.int .u64 0), .d (.bool false), .d (.int .u64 0), .d (.int .i64 0), .d (.str ⟨#[]⟩), .d (.int .i64 0)],
  [], none, []⟩, ⟨some 11, .mv, [.k (.d (.int .i64 0))], none, []⟩] [1, 2, 3, 4, 5, 10]) (.seq (.seq (.region false [⟨some 12, .mv, [.t 2], none, []⟩, ⟨some 13, .bin .lss, [.t 12,
  .k (.d (.int .i64 1))], none, []⟩, ⟨some 14, .mv, [.t 13], none, []⟩, ⟨some 15, .mv, [.t 2], some (14, false), []⟩, ⟨some 16, .bin .gtr, [.t 15, .k (.d (.int .i64 7))], some (14,
  false), []⟩, ⟨some 17, .pick, [.t 14, .k (.d (.bool true)), .t 16], none, []⟩, ⟨some 18, .mv, [.t 17], none, []⟩, ⟨some 19, .mv, [.t 4], some (18, false), []⟩, ⟨some 20, .bin
  .lss, [.t 19, .k (.d (.int .i64 0))], some (18, false), []⟩, ⟨some 21, .pick, [.t 18, .k (.d (.bool true)), .t 20], none, []⟩, ⟨some 22, .mv, [.t 21], none, []⟩, ⟨some 23, .mv,
  [.t 4], some (22, false), []⟩, ⟨some 24, .bin .gtr, [.t 23, .k (.d (.int .i64 1099511627776))], some (22, false), []⟩, ⟨some 25, .pick, [.t 22, .k (.d (.bool true)), .t 24],
  none, []⟩] [1, 2, 3, 4, 5, 10, 25]) (.cond (.t 25) (.seq (.region false [⟨some 26, .build [.d (.int .u64 0), .d (.bool false), .d (.int .u64 0), .d (.int .i64 0), .d (.str
  ⟨#[]⟩), .d (.int .i64 0)] [], [], none, []⟩, ⟨none, .store 6, [.t 10, .t 26], none, []⟩, ⟨some 11, .mv, [.k (.d (.int .i64 9))], none, []⟩] [10, 11]) .ret) .skip)) (.seq (.seq
  (.region false [⟨some 27, .mv, [.t 3], none, []⟩, ⟨some 28, .lens, [.t 27], none, []⟩, ⟨some 29, .bin .gtr, [.t 28, .k (.d (.int .i64 64))], none, []⟩] [1, 2, 3, 4, 5, 10, 29])
  (.cond (.t 29) (.seq (.region false [⟨some 30, .build [.d (.int .u64 0), .d (.bool false), .d (.int .u64 0), .d (.int .i64 0), .d (.str ⟨#[]⟩), .d (.int .i64 0)] [], [], none,
  []⟩, ⟨none, .store 6, [.t 10, .t 30], none, []⟩, ⟨some 11, .mv, [.k (.d (.int .i64 8))], none, []⟩] [10, 11]) .ret) .skip)) (.seq (.region false [⟨some 31, .mv, [.t 1], none,
  []⟩, ⟨some 32, .mv, [.t 2], none, []⟩, ⟨some 33, .mv, [.t 3], none, []⟩, ⟨some 34, .mv, [.t 4], none, []⟩, ⟨some 35, .fa 1, [.t 5], none, []⟩, ⟨none, .store 1, [.t 35, .k (.d
  (.bool true))], none, []⟩, ⟨some 36, .fa 2, [.t 5], none, []⟩, ⟨none, .store 1, [.t 36, .t 31], none, []⟩, ⟨some 37, .fa 3, [.t 5], none, []⟩, ⟨none, .store 1, [.t 37, .t 32],
  none, []⟩, ⟨some 38, .fa 4, [.t 5], none, []⟩, ⟨none, .store 1, [.t 38, .t 33], none, []⟩, ⟨some 39, .fa 5, [.t 5], none, []⟩, ⟨none, .store 1, [.t 39, .t 34], none, []⟩] [5,
  10]) (.seq (.region false [⟨some 40, .load 6 true, [.t 5], none, []⟩, ⟨none, .store 6, [.t 10, .t 40], none, []⟩, ⟨some 11, .mv, [.k (.d (.int .i64 0))], none, []⟩] [10, 11])
  .ret))))
def passkeyref10IssueRr : List RR := [.c 10 6 true, .t 11]
theorem passkeyref10IssueC : compFn Tryd.prog 16 passkeyref10IssueH = some (passkeyref10IssueRc, passkeyref10IssueRr, 41) := by kernel_rfl
theorem passkeyref10IssueOK (a0 : TApiToken) (a1 : BitVec 64) (a2 : Int) (a3 : List (BitVec 8)) (a4 : Int) (res : TApiToken × Int) (h : passkeyref10Issue a0 a1 a2 a3 a4 = some res) : CallOK Tryd.prog 16 [.d (eTApiToken a0), .d (eU64 a1), .d (eI a2), .d (eS a3), .d (eI a4)] [] (.tup [.d (eTApiToken res.1), .d (eI res.2)]) [] := by
  unfold passkeyref10Issue at h
  refine callOK passkeyref10IssueC fm rfl ?_
  simp only [initE, initM, nbor, List.map_cons, List.map_nil, Nat.reduceAdd]
  unfold passkeyref10IssueRc
  refine rwp_seq fun K1 hK1 => ?_
  refine rwp_region fun K2 hK2 => ?_
  refine st1 128 rfl (mem' := [(64, .var .mine [.d (eU64 a0.Secret), .d (eB a0.Active), .d (eU64 a0.Value), .d (eI a0.Permissions), .d (eS a0.RP), .d (eI a0.Since)])]) (ok (bx (ps := [.d (eU64 a0.Secret), .d (eB a0.Active), .d (eU64 a0.Value), .d (eI a0.Permissions), .d (eS a0.RP), .d (eI a0.Since)]) rfl rfl)) rfl ?_
  refine st1 192 rfl (mem' := [(128, .var .mine [.d (eU64 (0#64)), .d (eB false), .d (eU64 (0#64)), .d (eI (0 : Int)), .d (eS ([] : List (BitVec 8))), .d (eI (0 : Int))]), (64, .var .mine [.d (eU64 a0.Secret), .d (eB a0.Active), .d (eU64 a0.Value), .d (eI a0.Permissions), .d (eS a0.RP), .d (eI a0.Since)])]) (ok (alc (zs := [.d (eU64 (0#64)), .d (eB false), .d (eU64 (0#64)), .d (eI (0 : Int)), .d (eS ([] : List (BitVec 8))), .d (eI (0 : Int))]))) rfl ?_
  refine st0 256 rfl (ok (mv (.d (eI (0 : Int))))) ?_
  refine hK2 _ _ ?_
  simp only [n0, n1, n2, n3, n4, n5, n6, n7, n8, n9, n10, n11, n12, n13, n14, n15, n16, n17, n18, n19, reduceIte]
  refine hK1 _ _ _ ?_
  refine rwp_seq fun K3 hK3 => ?_
  refine rwp_join ([], []) 1216 (fun env mem => ∃ (v4 : Bool), passkeyref10IssueJ1 a0 a1 a2 a3 a4 v4 = some res ∧ env = [(1, .d (eU64 a1)), (2, .d (eI a2)), (3, .d (eS a3)), (4, .d (eI a4)), (5, .ptr 64 0), (10, .ptr 128 0), (25, .d (eB v4))] ∧ mem = [(64, .var .mine [.d (eU64 a0.Secret), .d (eB a0.Active), .d (eU64 a0.Value), .d (eI a0.Permissions), .d (eS a0.RP), .d (eI a0.Since)]), (128, .var .mine [.d (eU64 (0#64)), .d (eB false), .d (eU64 (0#64)), .d (eI (0 : Int)), .d (eS ([] : List (BitVec 8))), .d (eI (0 : Int))])]) (fun _ _ hI => ?_) (fun K5 hK5 => ?_)
  · obtain ⟨v4, h, rfl, rfl⟩ := hI
    unfold passkeyref10IssueJ1 at h
    rcases Bool.eq_false_or_eq_true (v4) with h6 | h6
    · replace h := ite_t h h6
      refine rwp_t (isT h6) ?_
      refine rwp_seq fun K7 hK7 => ?_
      refine rwp_region fun K8 hK8 => ?_
      refine st0 1280 rfl (ok (bld (v := .d (.agg [eU64 (0#64), eB false, eU64 (0#64), eI (0 : Int), eS ([] : List (BitVec 8)), eI (0 : Int)])) rfl rfl)) ?_
      refine stn 1344 rfl (mem' := [(128, .var .mine [.d (eU64 (0#64)), .d (eB false), .d (eU64 (0#64)), .d (eI (0 : Int)), .d (eS ([] : List (BitVec 8))), .d (eI (0 : Int))]), (64, .var .mine [.d (eU64 a0.Secret), .d (eB a0.Active), .d (eU64 a0.Value), .d (eI a0.Permissions), .d (eS a0.RP), .d (eI a0.Since)])]) (ok (sto_v (ps' := [.d (eU64 (0#64)), .d (eB false), .d (eU64 (0#64)), .d (eI (0 : Int)), .d (eS ([] : List (BitVec 8))), .d (eI (0 : Int))]) rfl rfl rfl rfl)) rfl ?_
      refine st0 1408 rfl (ok (mv (.d (eI (9 : Int))))) ?_
      refine hK8 _ _ ?_
      simp only [n0, n1, n2, n3, n4, n5, n6, n7, n8, n9, n10, n11, n12, n13, n14, n15, n16, n17, n18, n19, reduceIte]
      refine hK7 _ _ _ ?_
      refine rwp_ret ?_
      obtain rfl := Option.some.inj h
      try simp only [thenK, blockK, reduceIte]
      exact Or.inl (end_ok trivial (rs_c (id := 128) (off := 0) (v := .d (.agg [eU64 (0#64), eB false, eU64 (0#64), eI (0 : Int), eS ([] : List (BitVec 8)), eI (0 : Int)])) rfl rfl rfl rfl (rs_t (v := .d (eI (9 : Int))) rfl rs_nil)) (en_d (to_d _) (en_d (to_d _) en_nil)) ou_nil (by first | exact eok rfl rfl rfl rfl trivial | (refine eok ?_ ?_ ?_ ?_ ?_ <;> first | rfl | exact trivial | simp [retM, Mem.get, PV.renL, PV.ren, Blk.ren, comps, rhoR, rhoM, appN, PV.refsL, PV.refs, keys, nodupB, Blk.refs, allIn, Blk.bor])))
    · replace h := ite_f h h6
      refine rwp_f (isF h6) ?_
      refine rwp_skip ?_
      refine hK3 _ _ _ ?_
      refine rwp_seq fun K9 hK9 => ?_
      refine rwp_seq fun K10 hK10 => ?_
      refine rwp_region fun K11 hK11 => ?_
      refine st0 1280 rfl (ok (mv (.d (eS a3)))) ?_
      refine st0 1344 rfl (ok (lenS _)) ?_
      refine st0 1408 rfl (ok (gtrI _ (64 : Int))) ?_
      refine hK11 _ _ ?_
      simp only [n0, n1, n2, n3, n4, n5, n6, n7, n8, n9, n10, n11, n12, n13, n14, n15, n16, n17, n18, n19, reduceIte]
      refine hK10 _ _ _ ?_
      rcases Bool.eq_false_or_eq_true ((decide ((64 : Int) < (a3.length : Int)))) with h12 | h12
      · replace h := ite_t h h12
        refine rwp_t (isT h12) ?_
        refine rwp_seq fun K13 hK13 => ?_
        refine rwp_region fun K14 hK14 => ?_
        refine st0 1472 rfl (ok (bld (v := .d (.agg [eU64 (0#64), eB false, eU64 (0#64), eI (0 : Int), eS ([] : List (BitVec 8)), eI (0 : Int)])) rfl rfl)) ?_
        refine stn 1536 rfl (mem' := [(128, .var .mine [.d (eU64 (0#64)), .d (eB false), .d (eU64 (0#64)), .d (eI (0 : Int)), .d (eS ([] : List (BitVec 8))), .d (eI (0 : Int))]), (64, .var .mine [.d (eU64 a0.Secret), .d (eB a0.Active), .d (eU64 a0.Value), .d (eI a0.Permissions), .d (eS a0.RP), .d (eI a0.Since)])]) (ok (sto_v (ps' := [.d (eU64 (0#64)), .d (eB false), .d (eU64 (0#64)), .d (eI (0 : Int)), .d (eS ([] : List (BitVec 8))), .d (eI (0 : Int))]) rfl rfl rfl rfl)) rfl ?_
        refine st0 1600 rfl (ok (mv (.d (eI (8 : Int))))) ?_
        refine hK14 _ _ ?_
        simp only [n0, n1, n2, n3, n4, n5, n6, n7, n8, n9, n10, n11, n12, n13, n14, n15, n16, n17, n18, n19, reduceIte]
        refine hK13 _ _ _ ?_
        refine rwp_ret ?_
        obtain rfl := Option.some.inj h
        try simp only [thenK, blockK, reduceIte]
        exact Or.inl (end_ok trivial (rs_c (id := 128) (off := 0) (v := .d (.agg [eU64 (0#64), eB false, eU64 (0#64), eI (0 : Int), eS ([] : List (BitVec 8)), eI (0 : Int)])) rfl rfl rfl rfl (rs_t (v := .d (eI (8 : Int))) rfl rs_nil)) (en_d (to_d _) (en_d (to_d _) en_nil)) ou_nil (by first | exact eok rfl rfl rfl rfl trivial | (refine eok ?_ ?_ ?_ ?_ ?_ <;> first | rfl | exact trivial | simp [retM, Mem.get, PV.renL, PV.ren, Blk.ren, comps, rhoR, rhoM, appN, PV.refsL, PV.refs, keys, nodupB, Blk.refs, allIn, Blk.bor])))
      · replace h := ite_f h h12
        refine rwp_f (isF h12) ?_
        refine rwp_skip ?_
        refine hK9 _ _ _ ?_
        refine rwp_seq fun K15 hK15 => ?_
        refine rwp_region fun K16 hK16 => ?_
        refine st0 1472 rfl (ok (mv (.d (eU64 a1)))) ?_
        refine st0 1536 rfl (ok (mv (.d (eI a2)))) ?_
        refine st0 1600 rfl (ok (mv (.d (eS a3)))) ?_
        refine st0 1664 rfl (ok (mv (.d (eI a4)))) ?_
        refine st0 1728 rfl (ok (fa_k 1 rfl)) ?_
        refine stn 1792 rfl (mem' := [(64, .var .mine [.d (eU64 a0.Secret), .d (eB true), .d (eU64 a0.Value), .d (eI a0.Permissions), .d (eS a0.RP), .d (eI a0.Since)]), (128, .var .mine [.d (eU64 (0#64)), .d (eB false), .d (eU64 (0#64)), .d (eI (0 : Int)), .d (eS ([] : List (BitVec 8))), .d (eI (0 : Int))])]) (ok (sto_v (y := .d (eB true)) (ps' := [.d (eU64 a0.Secret), .d (eB true), .d (eU64 a0.Value), .d (eI a0.Permissions), .d (eS a0.RP), .d (eI a0.Since)]) rfl rfl rfl rfl)) rfl ?_
        refine st0 1856 rfl (ok (fa_k 2 rfl)) ?_
        refine stn 1920 rfl (mem' := [(64, .var .mine [.d (eU64 a0.Secret), .d (eB true), .d (eU64 a1), .d (eI a0.Permissions), .d (eS a0.RP), .d (eI a0.Since)]), (128, .var .mine [.d (eU64 (0#64)), .d (eB false), .d (eU64 (0#64)), .d (eI (0 : Int)), .d (eS ([] : List (BitVec 8))), .d (eI (0 : Int))])]) (ok (sto_v (ps' := [.d (eU64 a0.Secret), .d (eB true), .d (eU64 a1), .d (eI a0.Permissions), .d (eS a0.RP), .d (eI a0.Since)]) rfl rfl rfl rfl)) rfl ?_
        refine st0 1984 rfl (ok (fa_k 3 rfl)) ?_
        refine stn 2048 rfl (mem' := [(64, .var .mine [.d (eU64 a0.Secret), .d (eB true), .d (eU64 a1), .d (eI a2), .d (eS a0.RP), .d (eI a0.Since)]), (128, .var .mine [.d (eU64 (0#64)), .d (eB false), .d (eU64 (0#64)), .d (eI (0 : Int)), .d (eS ([] : List (BitVec 8))), .d (eI (0 : Int))])]) (ok (sto_v (ps' := [.d (eU64 a0.Secret), .d (eB true), .d (eU64 a1), .d (eI a2), .d (eS a0.RP), .d (eI a0.Since)]) rfl rfl rfl rfl)) rfl ?_
        refine st0 2112 rfl (ok (fa_k 4 rfl)) ?_
        refine stn 2176 rfl (mem' := [(64, .var .mine [.d (eU64 a0.Secret), .d (eB true), .d (eU64 a1), .d (eI a2), .d (eS a3), .d (eI a0.Since)]), (128, .var .mine [.d (eU64 (0#64)), .d (eB false), .d (eU64 (0#64)), .d (eI (0 : Int)), .d (eS ([] : List (BitVec 8))), .d (eI (0 : Int))])]) (ok (sto_v (ps' := [.d (eU64 a0.Secret), .d (eB true), .d (eU64 a1), .d (eI a2), .d (eS a3), .d (eI a0.Since)]) rfl rfl rfl rfl)) rfl ?_
        refine st0 2240 rfl (ok (fa_k 5 rfl)) ?_
        refine stn 2304 rfl (mem' := [(64, .var .mine [.d (eU64 a0.Secret), .d (eB true), .d (eU64 a1), .d (eI a2), .d (eS a3), .d (eI a4)]), (128, .var .mine [.d (eU64 (0#64)), .d (eB false), .d (eU64 (0#64)), .d (eI (0 : Int)), .d (eS ([] : List (BitVec 8))), .d (eI (0 : Int))])]) (ok (sto_v (ps' := [.d (eU64 a0.Secret), .d (eB true), .d (eU64 a1), .d (eI a2), .d (eS a3), .d (eI a4)]) rfl rfl rfl rfl)) rfl ?_
        refine hK16 _ _ ?_
        simp only [n0, n1, n2, n3, n4, n5, n6, n7, n8, n9, n10, n11, n12, n13, n14, n15, n16, n17, n18, n19, reduceIte]
        refine hK15 _ _ _ ?_
        refine rwp_seq fun K17 hK17 => ?_
        refine rwp_region fun K18 hK18 => ?_
        refine st0 2368 rfl (ok (ld_v (v := .d (.agg [eU64 a0.Secret, eB true, eU64 a1, eI a2, eS a3, eI a4])) rfl rfl rfl)) ?_
        refine stn 2432 rfl (mem' := [(128, .var .mine [.d (eU64 a0.Secret), .d (eB true), .d (eU64 a1), .d (eI a2), .d (eS a3), .d (eI a4)]), (64, .var .mine [.d (eU64 a0.Secret), .d (eB true), .d (eU64 a1), .d (eI a2), .d (eS a3), .d (eI a4)])]) (ok (sto_v (ps' := [.d (eU64 a0.Secret), .d (eB true), .d (eU64 a1), .d (eI a2), .d (eS a3), .d (eI a4)]) rfl rfl rfl rfl)) rfl ?_
        refine st0 2496 rfl (ok (mv (.d (eI (0 : Int))))) ?_
        refine hK18 _ _ ?_
        simp only [n0, n1, n2, n3, n4, n5, n6, n7, n8, n9, n10, n11, n12, n13, n14, n15, n16, n17, n18, n19, reduceIte]
        refine hK17 _ _ _ ?_
        refine rwp_ret ?_
        obtain rfl := Option.some.inj h
        try simp only [thenK, blockK, reduceIte]
        exact Or.inl (end_ok trivial (rs_c (id := 128) (off := 0) (v := .d (.agg [eU64 a0.Secret, eB true, eU64 a1, eI a2, eS a3, eI a4])) rfl rfl rfl rfl (rs_t (v := .d (eI (0 : Int))) rfl rs_nil)) (en_d (to_d _) (en_d (to_d _) en_nil)) ou_nil (by first | exact eok rfl rfl rfl rfl trivial | (refine eok ?_ ?_ ?_ ?_ ?_ <;> first | rfl | exact trivial | simp [retM, Mem.get, PV.renL, PV.ren, Blk.ren, comps, rhoR, rhoM, appN, PV.refsL, PV.refs, keys, nodupB, Blk.refs, allIn, Blk.bor])))
  · refine rwp_region fun K19 hK19 => ?_
    refine st0 320 rfl (ok (mv (.d (eI a2)))) ?_
    refine st0 384 rfl (ok (lssI _ (1 : Int))) ?_
    refine st0 448 rfl (ok (mv (.d (eB (decide (a2 < (1 : Int))))))) ?_
    rcases Bool.eq_false_or_eq_true ((decide (a2 < (1 : Int)))) with h20 | h20
    · replace h := ite_t h h20
      refine stGN 512 rfl rfl h20 ?_
      refine stGN 576 rfl rfl h20 ?_
      refine st0 640 rfl (ok (pick_t h20 (.d (eB true)) _)) ?_
      refine st0 704 rfl (ok (mv (.d (eB true)))) ?_
      refine stGN 768 rfl rfl rfl ?_
      refine stGN 832 rfl rfl rfl ?_
      refine st0 896 rfl (ok (pick_t rfl (.d (eB true)) _)) ?_
      refine st0 960 rfl (ok (mv (.d (eB true)))) ?_
      refine stGN 1024 rfl rfl rfl ?_
      refine stGN 1088 rfl rfl rfl ?_
      refine st0 1152 rfl (ok (pick_t rfl (.d (eB true)) _)) ?_
      refine hK19 _ _ ?_
      simp only [n0, n1, n2, n3, n4, n5, n6, n7, n8, n9, n10, n11, n12, n13, n14, n15, n16, n17, n18, n19, reduceIte]
      exact hK5 _ _ _ ⟨_, _, Settled.refl, _, _, ⟨_, h, rfl, rfl⟩, ⟨rfl, ⟨⟨rfl, rfl⟩, ⟨⟨rfl, rfl⟩, ⟨⟨rfl, rfl⟩, ⟨⟨rfl, rfl⟩, ⟨⟨rfl, rfl⟩, ⟨⟨rfl, rfl⟩, ⟨⟨rfl, rfl⟩, trivial⟩⟩⟩⟩⟩⟩⟩, ⟨⟨rfl, rfl⟩, ⟨⟨rfl, rfl⟩, trivial⟩⟩⟩, rfl⟩
    · replace h := ite_f h h20
      refine stG (isF h20) ?_
      refine st0 512 rfl (ok (mv (.d (eI a2)))) ?_
      refine stG (isF h20) ?_
      refine st0 576 rfl (ok (gtrI _ (7 : Int))) ?_
      refine st0 640 rfl (ok (pick_f h20 _ (.d (eB (decide ((7 : Int) < a2)))))) ?_
      refine st0 704 rfl (ok (mv (.d (eB (decide ((7 : Int) < a2)))))) ?_
      rcases Bool.eq_false_or_eq_true ((decide ((7 : Int) < a2))) with h21 | h21
      · replace h := ite_t h h21
        refine stGN 768 rfl rfl h21 ?_
        refine stGN 832 rfl rfl h21 ?_
        refine st0 896 rfl (ok (pick_t h21 (.d (eB true)) _)) ?_
        refine st0 960 rfl (ok (mv (.d (eB true)))) ?_
        refine stGN 1024 rfl rfl rfl ?_
        refine stGN 1088 rfl rfl rfl ?_
        refine st0 1152 rfl (ok (pick_t rfl (.d (eB true)) _)) ?_
        refine hK19 _ _ ?_
        simp only [n0, n1, n2, n3, n4, n5, n6, n7, n8, n9, n10, n11, n12, n13, n14, n15, n16, n17, n18, n19, reduceIte]
        exact hK5 _ _ _ ⟨_, _, Settled.refl, _, _, ⟨_, h, rfl, rfl⟩, ⟨rfl, ⟨⟨rfl, rfl⟩, ⟨⟨rfl, rfl⟩, ⟨⟨rfl, rfl⟩, ⟨⟨rfl, rfl⟩, ⟨⟨rfl, rfl⟩, ⟨⟨rfl, rfl⟩, ⟨⟨rfl, rfl⟩, trivial⟩⟩⟩⟩⟩⟩⟩, ⟨⟨rfl, rfl⟩, ⟨⟨rfl, rfl⟩, trivial⟩⟩⟩, rfl⟩
      · replace h := ite_f h h21
        refine stG (isF h21) ?_
        refine st0 768 rfl (ok (mv (.d (eI a4)))) ?_
        refine stG (isF h21) ?_
        refine st0 832 rfl (ok (lssI _ (0 : Int))) ?_
        refine st0 896 rfl (ok (pick_f h21 _ (.d (eB (decide (a4 < (0 : Int))))))) ?_
        refine st0 960 rfl (ok (mv (.d (eB (decide (a4 < (0 : Int))))))) ?_
        rcases Bool.eq_false_or_eq_true ((decide (a4 < (0 : Int)))) with h22 | h22
        · replace h := ite_t h h22
          refine stGN 1024 rfl rfl h22 ?_
          refine stGN 1088 rfl rfl h22 ?_
          refine st0 1152 rfl (ok (pick_t h22 (.d (eB true)) _)) ?_
          refine hK19 _ _ ?_
          simp only [n0, n1, n2, n3, n4, n5, n6, n7, n8, n9, n10, n11, n12, n13, n14, n15, n16, n17, n18, n19, reduceIte]
          exact hK5 _ _ _ ⟨_, _, Settled.refl, _, _, ⟨_, h, rfl, rfl⟩, ⟨rfl, ⟨⟨rfl, rfl⟩, ⟨⟨rfl, rfl⟩, ⟨⟨rfl, rfl⟩, ⟨⟨rfl, rfl⟩, ⟨⟨rfl, rfl⟩, ⟨⟨rfl, rfl⟩, ⟨⟨rfl, rfl⟩, trivial⟩⟩⟩⟩⟩⟩⟩, ⟨⟨rfl, rfl⟩, ⟨⟨rfl, rfl⟩, trivial⟩⟩⟩, rfl⟩
        · replace h := ite_f h h22
          refine stG (isF h22) ?_
          refine st0 1024 rfl (ok (mv (.d (eI a4)))) ?_
          refine stG (isF h22) ?_
          refine st0 1088 rfl (ok (gtrI _ (1099511627776 : Int))) ?_
          refine st0 1152 rfl (ok (pick_f h22 _ (.d (eB (decide ((1099511627776 : Int) < a4)))))) ?_
          refine hK19 _ _ ?_
          simp only [n0, n1, n2, n3, n4, n5, n6, n7, n8, n9, n10, n11, n12, n13, n14, n15, n16, n17, n18, n19, reduceIte]
          exact hK5 _ _ _ ⟨_, _, Settled.refl, _, _, ⟨_, h, rfl, rfl⟩, ⟨rfl, ⟨⟨rfl, rfl⟩, ⟨⟨rfl, rfl⟩, ⟨⟨rfl, rfl⟩, ⟨⟨rfl, rfl⟩, ⟨⟨rfl, rfl⟩, ⟨⟨rfl, rfl⟩, ⟨⟨rfl, rfl⟩, trivial⟩⟩⟩⟩⟩⟩⟩, ⟨⟨rfl, rfl⟩, ⟨⟨rfl, rfl⟩, trivial⟩⟩⟩, rfl⟩

/-- passkey/passkeyref10.StartToken -/
def passkeyref10StartTokenH : Hints := ⟨[(0, [0, 2]), (1, [2])], []⟩
def passkeyref10StartTokenRc : RCode :=
  .seq (.region false [⟨some 2, .alloc [.d (.int .u64 0), .d (.bool false), .d (.int .u64 0), .d (.int .i64 0), .d (.str ⟨#[]⟩), .d (.int .i64 0)], [], none, []⟩] [0, 2]) (.seq
  (.region false [⟨some 3, .mv, [.t 0], none, []⟩, ⟨some 4, .build [.d (.int .u64 0), .d (.bool false), .d (.int .u64 0), .d (.int .i64 0), .d (.str ⟨#[]⟩), .d (.int .i64 0)] [(0,
  1)], [.t 3], none, []⟩, ⟨none, .store 6, [.t 2, .t 4], none, []⟩] [2]) .ret)
def passkeyref10StartTokenRr : List RR := [.c 2 6 true]
theorem passkeyref10StartTokenC : compFn Tryd.prog 18 passkeyref10StartTokenH = some (passkeyref10StartTokenRc, passkeyref10StartTokenRr, 5) := by kernel_rfl
theorem passkeyref10StartTokenOK (a0 : BitVec 64) (res : TApiToken) (h : passkeyref10StartToken a0 = some res) : CallOK Tryd.prog 18 [.d (eU64 a0)] [] (.d (eTApiToken res)) [] := by
  unfold passkeyref10StartToken at h
  refine callOK passkeyref10StartTokenC fm rfl ?_
  simp only [initE, initM, nbor, List.map_cons, List.map_nil, Nat.reduceAdd]
  unfold passkeyref10StartTokenRc
  refine rwp_seq fun K1 hK1 => ?_
  refine rwp_region fun K2 hK2 => ?_
  refine st1 128 rfl (mem' := [(64, .var .mine [.d (eU64 (0#64)), .d (eB false), .d (eU64 (0#64)), .d (eI (0 : Int)), .d (eS ([] : List (BitVec 8))), .d (eI (0 : Int))])]) (ok (alc (zs := [.d (eU64 (0#64)), .d (eB false), .d (eU64 (0#64)), .d (eI (0 : Int)), .d (eS ([] : List (BitVec 8))), .d (eI (0 : Int))]))) rfl ?_
  refine hK2 _ _ ?_
  simp only [n0, n1, n2, n3, n4, n5, n6, n7, n8, n9, n10, n11, n12, n13, n14, n15, n16, n17, n18, n19, reduceIte]
  refine hK1 _ _ _ ?_
  refine rwp_seq fun K3 hK3 => ?_
  refine rwp_region fun K4 hK4 => ?_
  refine st0 192 rfl (ok (mv (.d (eU64 a0)))) ?_
  refine st0 256 rfl (ok (bld (v := .d (.agg [eU64 a0, eB false, eU64 (0#64), eI (0 : Int), eS ([] : List (BitVec 8)), eI (0 : Int)])) rfl rfl)) ?_
  refine stn 320 rfl (mem' := [(64, .var .mine [.d (eU64 a0), .d (eB false), .d (eU64 (0#64)), .d (eI (0 : Int)), .d (eS ([] : List (BitVec 8))), .d (eI (0 : Int))])]) (ok (sto_v (ps' := [.d (eU64 a0), .d (eB false), .d (eU64 (0#64)), .d (eI (0 : Int)), .d (eS ([] : List (BitVec 8))), .d (eI (0 : Int))]) rfl rfl rfl rfl)) rfl ?_
  refine hK4 _ _ ?_
  simp only [n0, n1, n2, n3, n4, n5, n6, n7, n8, n9, n10, n11, n12, n13, n14, n15, n16, n17, n18, n19, reduceIte]
  refine hK3 _ _ _ ?_
  refine rwp_ret ?_
  obtain rfl := Option.some.inj h
  try simp only [thenK, blockK, reduceIte]
  exact Or.inl (end_ok trivial (rs_c (id := 64) (off := 0) (v := .d (.agg [eU64 a0, eB false, eU64 (0#64), eI (0 : Int), eS ([] : List (BitVec 8)), eI (0 : Int)])) rfl rfl rfl rfl rs_nil) (en_d (to_d _) en_nil) ou_nil (by first | exact eok rfl rfl rfl rfl trivial | (refine eok ?_ ?_ ?_ ?_ ?_ <;> first | rfl | exact trivial | simp [retM, Mem.get, PV.renL, PV.ren, Blk.ren, comps, rhoR, rhoM, appN, PV.refsL, PV.refs, keys, nodupB, Blk.refs, allIn, Blk.bor])))

/-- passkey/passkeylaw12.TokenIssues -/
def passkeylaw12TokenIssuesH : Hints := ⟨[(0, [0, 1, 2, 3, 4]), (1, [0, 1, 2, 3, 4, 22]), (2, [10]), (3, [1, 2, 3, 4, 11]), (4, [1, 2, 3, 4, 11, 12, 13]), (5, [1, 2, 3, 4, 11, 12, 13, 14, 15]), (6, [1, 2, 3, 4, 11, 12, 13, 14, 15, 16, 17]), (7, [1, 12, 13, 14, 15, 16, 17, 18, 19]), (8, [10])], []⟩
def passkeylaw12TokenIssuesRc : RCode :=
  .seq (.region false [⟨some 10, .mv, [.k (.d (.bool false))], none, []⟩] [0, 1, 2, 3, 4]) (.seq (.seq (.region false [⟨some 20, .mv, [.t 3], none, []⟩, ⟨some 21, .lens, [.t 20],
  none, []⟩, ⟨some 22, .bin .gtr, [.t 21, .k (.d (.int .i64 100))], none, []⟩] [0, 1, 2, 3, 4, 22]) (.cond (.t 22) (.seq (.region false [⟨some 23, .call 9 false, [], none, []⟩,
  ⟨some 10, .mv, [.t 23], none, []⟩] [10]) .ret) .skip)) (.seq (.region false [⟨some 24, .mv, [.t 0], none, []⟩, ⟨some 25, .call 14 false, [.t 24], none, []⟩, ⟨some 11, .alloc [.d
  (.int .u64 0), .d (.bool false), .d (.int .u64 0), .d (.int .i64 0), .d (.str ⟨#[]⟩), .d (.int .i64 0)], [], none, []⟩, ⟨none, .store 6, [.t 11, .t 25], none, []⟩] [1, 2, 3, 4,
  11]) (.seq (.region false [⟨some 27, .load 6 true, [.t 11], none, []⟩, ⟨some 28, .mv, [.t 1], none, []⟩, ⟨some 29, .mv, [.t 2], none, []⟩, ⟨some 30, .mv, [.t 3], none, []⟩, ⟨some
  31, .mv, [.t 4], none, []⟩, ⟨some 32, .call 15 false, [.t 27, .t 28, .t 29, .t 30, .t 31], none, []⟩, ⟨some 26, .mv, [.t 32], none, []⟩, ⟨some 33, .ext 0, [.t 26], none, []⟩,
  ⟨some 34, .ext 1, [.t 26], none, []⟩, ⟨some 12, .alloc [.d (.int .u64 0), .d (.bool false), .d (.int .u64 0), .d (.int .i64 0), .d (.str ⟨#[]⟩), .d (.int .i64 0)], [], none, []⟩,
  ⟨none, .store 6, [.t 12, .t 33], none, []⟩, ⟨some 13, .mv, [.t 34], none, []⟩] [1, 2, 3, 4, 11, 12, 13]) (.seq (.region false [⟨some 36, .load 6 true, [.t 11], none, []⟩, ⟨some
  37, .mv, [.t 1], none, []⟩, ⟨some 38, .mv, [.t 2], none, []⟩, ⟨some 39, .mv, [.t 3], none, []⟩, ⟨some 40, .mv, [.t 4], none, []⟩, ⟨some 41, .call 16 false, [.t 36, .t 37, .t 38,
  .t 39, .t 40], none, []⟩, ⟨some 35, .mv, [.t 41], none, []⟩, ⟨some 42, .ext 0, [.t 35], none, []⟩, ⟨some 43, .ext 1, [.t 35], none, []⟩, ⟨some 14, .alloc [.d (.int .u64 0), .d
  (.bool false), .d (.int .u64 0), .d (.int .i64 0), .d (.str ⟨#[]⟩), .d (.int .i64 0)], [], none, []⟩, ⟨none, .store 6, [.t 14, .t 42], none, []⟩, ⟨some 15, .mv, [.t 43], none,
  []⟩] [1, 2, 3, 4, 11, 12, 13, 14, 15]) (.seq (.region false [⟨some 45, .load 6 true, [.t 11], none, []⟩, ⟨some 46, .mv, [.t 1], none, []⟩, ⟨some 47, .mv, [.t 2], none, []⟩, ⟨some
  48, .bin .and, [.t 47, .k (.d (.int .i64 15))], none, []⟩, ⟨some 49, .bin .sub, [.t 48, .k (.d (.int .i64 2))], none, []⟩, ⟨some 50, .mv, [.t 3], none, []⟩, ⟨some 51, .mv, [.t
  4], none, []⟩, ⟨some 52, .bin .and, [.t 51, .k (.d (.int .i64 65535))], none, []⟩, ⟨some 53, .call 15 false, [.t 45, .t 46, .t 49, .t 50, .t 52], none, []⟩, ⟨some 44, .mv, [.t
  53], none, []⟩, ⟨some 54, .ext 0, [.t 44], none, []⟩, ⟨some 55, .ext 1, [.t 44], none, []⟩, ⟨some 16, .alloc [.d (.int .u64 0), .d (.bool false), .d (.int .u64 0), .d (.int .i64
  0), .d (.str ⟨#[]⟩), .d (.int .i64 0)], [], none, []⟩, ⟨none, .store 6, [.t 16, .t 54], none, []⟩, ⟨some 17, .mv, [.t 55], none, []⟩] [1, 2, 3, 4, 11, 12, 13, 14, 15, 16, 17])
  (.seq (.region false [⟨some 57, .load 6 true, [.t 11], none, []⟩, ⟨some 58, .mv, [.t 1], none, []⟩, ⟨some 59, .mv, [.t 2], none, []⟩, ⟨some 60, .bin .and, [.t 59, .k (.d (.int
  .i64 15))], none, []⟩, ⟨some 61, .bin .sub, [.t 60, .k (.d (.int .i64 2))], none, []⟩, ⟨some 62, .mv, [.t 3], none, []⟩, ⟨some 63, .mv, [.t 4], none, []⟩, ⟨some 64, .bin .and,
  [.t 63, .k (.d (.int .i64 65535))], none, []⟩, ⟨some 65, .call 16 false, [.t 57, .t 58, .t 61, .t 62, .t 64], none, []⟩, ⟨some 56, .mv, [.t 65], none, []⟩, ⟨some 66, .ext 0, [.t
  56], none, []⟩, ⟨some 67, .ext 1, [.t 56], none, []⟩, ⟨some 18, .alloc [.d (.int .u64 0), .d (.bool false), .d (.int .u64 0), .d (.int .i64 0), .d (.str ⟨#[]⟩), .d (.int .i64
  0)], [], none, []⟩, ⟨none, .store 6, [.t 18, .t 66], none, []⟩, ⟨some 19, .mv, [.t 67], none, []⟩] [1, 12, 13, 14, 15, 16, 17, 18, 19]) (.seq (.region false [⟨some 68, .load 6
  true, [.t 12], none, []⟩, ⟨some 69, .load 6 true, [.t 14], none, []⟩, ⟨some 70, .eqa false [1, 0, 1, 1, 2, 1], [.t 68, .t 69], none, []⟩, ⟨some 71, .mv, [.t 70], none, []⟩, ⟨some
  72, .mv, [.t 13], some (71, true), []⟩, ⟨some 73, .mv, [.t 15], some (71, true), []⟩, ⟨some 74, .bin .eql, [.t 72, .t 73], some (71, true), []⟩, ⟨some 75, .pick, [.t 71, .t 74,
  .k (.d (.bool false))], none, []⟩, ⟨some 76, .mv, [.t 75], none, []⟩, ⟨some 77, .load 6 true, [.t 16], some (76, true), []⟩, ⟨some 78, .load 6 true, [.t 18], some (76, true),
  []⟩, ⟨some 79, .eqa false [1, 0, 1, 1, 2, 1], [.t 77, .t 78], some (76, true), []⟩, ⟨some 80, .pick, [.t 76, .t 79, .k (.d (.bool false))], none, []⟩, ⟨some 81, .mv, [.t 80],
  none, []⟩, ⟨some 82, .mv, [.t 17], some (81, true), []⟩, ⟨some 83, .mv, [.t 19], some (81, true), []⟩, ⟨some 84, .bin .eql, [.t 82, .t 83], some (81, true), []⟩, ⟨some 85, .pick,
  [.t 81, .t 84, .k (.d (.bool false))], none, []⟩, ⟨some 86, .mv, [.t 85], none, []⟩, ⟨some 87, .mv, [.t 1], some (86, true), []⟩, ⟨some 88, .call 17 false, [.t 87], some (86,
  true), []⟩, ⟨some 89, .mv, [.t 1], some (86, true), []⟩, ⟨some 90, .call 18 false, [.t 89], some (86, true), []⟩, ⟨some 91, .eqa false [1, 0, 1, 1, 2, 1], [.t 88, .t 90], some
  (86, true), []⟩, ⟨some 92, .pick, [.t 86, .t 91, .k (.d (.bool false))], none, []⟩, ⟨some 93, .mv, [.t 92], none, []⟩, ⟨some 94, .call 9 false, [], some (93, true), []⟩, ⟨some
  95, .pick, [.t 93, .t 94, .k (.d (.bool false))], none, []⟩, ⟨some 10, .mv, [.t 95], none, []⟩] [10]) .ret)))))))
def passkeylaw12TokenIssuesRr : List RR := [.t 10]
theorem passkeylaw12TokenIssuesC : compFn Tryd.prog 4 passkeylaw12TokenIssuesH = some (passkeylaw12TokenIssuesRc, passkeylaw12TokenIssuesRr, 96) := by kernel_rfl
theorem passkeylaw12TokenIssuesOK (a0 : Int) (a1 : BitVec 64) (a2 : Int) (a3 : List (BitVec 8)) (a4 : Int) (res : Bool) (h : passkeylaw12TokenIssues a0 a1 a2 a3 a4 = some res) : CallOK Tryd.prog 4 [.d (eI a0), .d (eU64 a1), .d (eI a2), .d (eS a3), .d (eI a4)] [] (.d (eB res)) [] := by
  unfold passkeylaw12TokenIssues at h
  refine callOK passkeylaw12TokenIssuesC fm rfl ?_
  simp only [initE, initM, nbor, List.map_cons, List.map_nil, Nat.reduceAdd]
  unfold passkeylaw12TokenIssuesRc
  refine rwp_seq fun K1 hK1 => ?_
  refine rwp_region fun K2 hK2 => ?_
  refine st0 128 rfl (ok (mv (.d (eB false)))) ?_
  refine hK2 _ _ ?_
  simp only [n0, n1, n2, n3, n4, n5, n6, n7, n8, n9, n10, n11, n12, n13, n14, n15, n16, n17, n18, n19, reduceIte]
  refine hK1 _ _ _ ?_
  refine rwp_seq fun K3 hK3 => ?_
  refine rwp_seq fun K4 hK4 => ?_
  refine rwp_region fun K5 hK5 => ?_
  refine st0 192 rfl (ok (mv (.d (eS a3)))) ?_
  refine st0 256 rfl (ok (lenS _)) ?_
  refine st0 320 rfl (ok (gtrI _ (100 : Int))) ?_
  refine hK5 _ _ ?_
  simp only [n0, n1, n2, n3, n4, n5, n6, n7, n8, n9, n10, n11, n12, n13, n14, n15, n16, n17, n18, n19, reduceIte]
  refine hK4 _ _ _ ?_
  rcases Bool.eq_false_or_eq_true ((decide ((100 : Int) < (a3.length : Int)))) with h6 | h6
  · replace h := ite_t h h6
    refine rwp_t (isT h6) ?_
    refine rwp_seq fun K7 hK7 => ?_
    refine rwp_region fun K8 hK8 => ?_
    obtain ⟨y9, h10, h⟩ := bind_inv h
    refine st0 384 rfl (call_ok (v := .d (eB y9)) (u := []) ar_nil rfl (passkeylaw12awakeOK  y9 h10) rfl) ?_
    refine st0 448 rfl (ok (mv (.d (eB y9)))) ?_
    refine hK8 _ _ ?_
    simp only [n0, n1, n2, n3, n4, n5, n6, n7, n8, n9, n10, n11, n12, n13, n14, n15, n16, n17, n18, n19, reduceIte]
    refine hK7 _ _ _ ?_
    refine rwp_ret ?_
    obtain rfl := Option.some.inj h
    try simp only [thenK, blockK, reduceIte]
    exact Or.inl (end_ok trivial (rs_t (v := .d (eB y9)) rfl rs_nil) (en_d (to_d _) en_nil) ou_nil (by first | exact eok rfl rfl rfl rfl trivial | (refine eok ?_ ?_ ?_ ?_ ?_ <;> first | rfl | exact trivial | simp [retM, Mem.get, PV.renL, PV.ren, Blk.ren, comps, rhoR, rhoM, appN, PV.refsL, PV.refs, keys, nodupB, Blk.refs, allIn, Blk.bor])))
  · replace h := ite_f h h6
    refine rwp_f (isF h6) ?_
    refine rwp_skip ?_
    refine hK3 _ _ _ ?_
    refine rwp_seq fun K11 hK11 => ?_
    refine rwp_region fun K12 hK12 => ?_
    refine st0 384 rfl (ok (mv (.d (eI a0)))) ?_
    obtain ⟨y13, h14, h⟩ := bind_inv h
    refine st0 448 rfl (call_ok (v := .d (eTApiToken y13)) (u := []) (ar_d (eI a0) ar_nil) rfl (passkeylaw12madeOK a0 y13 h14) rfl) ?_
    refine st1 512 rfl (mem' := [(448, .var .mine [.d (eU64 (0#64)), .d (eB false), .d (eU64 (0#64)), .d (eI (0 : Int)), .d (eS ([] : List (BitVec 8))), .d (eI (0 : Int))])]) (ok (alc (zs := [.d (eU64 (0#64)), .d (eB false), .d (eU64 (0#64)), .d (eI (0 : Int)), .d (eS ([] : List (BitVec 8))), .d (eI (0 : Int))]))) rfl ?_
    refine stn 576 rfl (mem' := [(448, .var .mine [.d (eU64 y13.Secret), .d (eB y13.Active), .d (eU64 y13.Value), .d (eI y13.Permissions), .d (eS y13.RP), .d (eI y13.Since)])]) (ok (sto_v (ps' := [.d (eU64 y13.Secret), .d (eB y13.Active), .d (eU64 y13.Value), .d (eI y13.Permissions), .d (eS y13.RP), .d (eI y13.Since)]) rfl rfl rfl rfl)) rfl ?_
    refine hK12 _ _ ?_
    simp only [n0, n1, n2, n3, n4, n5, n6, n7, n8, n9, n10, n11, n12, n13, n14, n15, n16, n17, n18, n19, reduceIte]
    refine hK11 _ _ _ ?_
    refine rwp_seq fun K15 hK15 => ?_
    refine rwp_region fun K16 hK16 => ?_
    refine st0 640 rfl (ok (ld_v (v := .d (.agg [eU64 y13.Secret, eB y13.Active, eU64 y13.Value, eI y13.Permissions, eS y13.RP, eI y13.Since])) rfl rfl rfl)) ?_
    refine st0 704 rfl (ok (mv (.d (eU64 a1)))) ?_
    refine st0 768 rfl (ok (mv (.d (eI a2)))) ?_
    refine st0 832 rfl (ok (mv (.d (eS a3)))) ?_
    refine st0 896 rfl (ok (mv (.d (eI a4)))) ?_
    obtain ⟨y17, h18, h⟩ := bind_inv h
    refine st0 960 rfl (call_ok (v := .tup [.d (eTApiToken y17.1), .d (eI y17.2)]) (u := []) (ar_d (eTApiToken (TApiToken.mk y13.Secret y13.Active y13.Value y13.Permissions y13.RP y13.Since)) (ar_d (eU64 a1) (ar_d (eI a2) (ar_d (eS a3) (ar_d (eI a4) ar_nil))))) rfl (tokenIssueOK (TApiToken.mk y13.Secret y13.Active y13.Value y13.Permissions y13.RP y13.Since) a1 a2 a3 a4 y17 h18) rfl) ?_
    refine st0 1024 rfl (ok (mv (.tup [.d (eTApiToken y17.1), .d (eI y17.2)]))) ?_
    refine st0 1088 rfl (ok (extr (v := .d (eTApiToken y17.1)) rfl rfl)) ?_
    refine st0 1152 rfl (ok (extr (v := .d (eI y17.2)) rfl rfl)) ?_
    refine st1 1216 rfl (mem' := [(1152, .var .mine [.d (eU64 (0#64)), .d (eB false), .d (eU64 (0#64)), .d (eI (0 : Int)), .d (eS ([] : List (BitVec 8))), .d (eI (0 : Int))]), (448, .var .mine [.d (eU64 y13.Secret), .d (eB y13.Active), .d (eU64 y13.Value), .d (eI y13.Permissions), .d (eS y13.RP), .d (eI y13.Since)])]) (ok (alc (zs := [.d (eU64 (0#64)), .d (eB false), .d (eU64 (0#64)), .d (eI (0 : Int)), .d (eS ([] : List (BitVec 8))), .d (eI (0 : Int))]))) rfl ?_
    refine stn 1280 rfl (mem' := [(1152, .var .mine [.d (eU64 y17.1.Secret), .d (eB y17.1.Active), .d (eU64 y17.1.Value), .d (eI y17.1.Permissions), .d (eS y17.1.RP), .d (eI y17.1.Since)]), (448, .var .mine [.d (eU64 y13.Secret), .d (eB y13.Active), .d (eU64 y13.Value), .d (eI y13.Permissions), .d (eS y13.RP), .d (eI y13.Since)])]) (ok (sto_v (ps' := [.d (eU64 y17.1.Secret), .d (eB y17.1.Active), .d (eU64 y17.1.Value), .d (eI y17.1.Permissions), .d (eS y17.1.RP), .d (eI y17.1.Since)]) rfl rfl rfl rfl)) rfl ?_
    refine st0 1344 rfl (ok (mv (.d (eI y17.2)))) ?_
    refine hK16 _ _ ?_
    simp only [n0, n1, n2, n3, n4, n5, n6, n7, n8, n9, n10, n11, n12, n13, n14, n15, n16, n17, n18, n19, reduceIte]
    refine hK15 _ _ _ ?_
    refine rwp_seq fun K19 hK19 => ?_
    refine rwp_region fun K20 hK20 => ?_
    refine st0 1408 rfl (ok (ld_v (v := .d (.agg [eU64 y13.Secret, eB y13.Active, eU64 y13.Value, eI y13.Permissions, eS y13.RP, eI y13.Since])) rfl rfl rfl)) ?_
    refine st0 1472 rfl (ok (mv (.d (eU64 a1)))) ?_
    refine st0 1536 rfl (ok (mv (.d (eI a2)))) ?_
    refine st0 1600 rfl (ok (mv (.d (eS a3)))) ?_
    refine st0 1664 rfl (ok (mv (.d (eI a4)))) ?_
    obtain ⟨y21, h22, h⟩ := bind_inv h
    refine st0 1728 rfl (call_ok (v := .tup [.d (eTApiToken y21.1), .d (eI y21.2)]) (u := []) (ar_d (eTApiToken (TApiToken.mk y13.Secret y13.Active y13.Value y13.Permissions y13.RP y13.Since)) (ar_d (eU64 a1) (ar_d (eI a2) (ar_d (eS a3) (ar_d (eI a4) ar_nil))))) rfl (passkeyref10IssueOK (TApiToken.mk y13.Secret y13.Active y13.Value y13.Permissions y13.RP y13.Since) a1 a2 a3 a4 y21 h22) rfl) ?_
    refine st0 1792 rfl (ok (mv (.tup [.d (eTApiToken y21.1), .d (eI y21.2)]))) ?_
    refine st0 1856 rfl (ok (extr (v := .d (eTApiToken y21.1)) rfl rfl)) ?_
    refine st0 1920 rfl (ok (extr (v := .d (eI y21.2)) rfl rfl)) ?_
    refine st1 1984 rfl (mem' := [(1920, .var .mine [.d (eU64 (0#64)), .d (eB false), .d (eU64 (0#64)), .d (eI (0 : Int)), .d (eS ([] : List (BitVec 8))), .d (eI (0 : Int))]), (1152, .var .mine [.d (eU64 y17.1.Secret), .d (eB y17.1.Active), .d (eU64 y17.1.Value), .d (eI y17.1.Permissions), .d (eS y17.1.RP), .d (eI y17.1.Since)]), (448, .var .mine [.d (eU64 y13.Secret), .d (eB y13.Active), .d (eU64 y13.Value), .d (eI y13.Permissions), .d (eS y13.RP), .d (eI y13.Since)])]) (ok (alc (zs := [.d (eU64 (0#64)), .d (eB false), .d (eU64 (0#64)), .d (eI (0 : Int)), .d (eS ([] : List (BitVec 8))), .d (eI (0 : Int))]))) rfl ?_
    refine stn 2048 rfl (mem' := [(1920, .var .mine [.d (eU64 y21.1.Secret), .d (eB y21.1.Active), .d (eU64 y21.1.Value), .d (eI y21.1.Permissions), .d (eS y21.1.RP), .d (eI y21.1.Since)]), (1152, .var .mine [.d (eU64 y17.1.Secret), .d (eB y17.1.Active), .d (eU64 y17.1.Value), .d (eI y17.1.Permissions), .d (eS y17.1.RP), .d (eI y17.1.Since)]), (448, .var .mine [.d (eU64 y13.Secret), .d (eB y13.Active), .d (eU64 y13.Value), .d (eI y13.Permissions), .d (eS y13.RP), .d (eI y13.Since)])]) (ok (sto_v (ps' := [.d (eU64 y21.1.Secret), .d (eB y21.1.Active), .d (eU64 y21.1.Value), .d (eI y21.1.Permissions), .d (eS y21.1.RP), .d (eI y21.1.Since)]) rfl rfl rfl rfl)) rfl ?_
    refine st0 2112 rfl (ok (mv (.d (eI y21.2)))) ?_
    refine hK20 _ _ ?_
    simp only [n0, n1, n2, n3, n4, n5, n6, n7, n8, n9, n10, n11, n12, n13, n14, n15, n16, n17, n18, n19, reduceIte]
    refine hK19 _ _ _ ?_
    refine rwp_seq fun K23 hK23 => ?_
    refine rwp_region fun K24 hK24 => ?_
    refine st0 2176 rfl (ok (ld_v (v := .d (.agg [eU64 y13.Secret, eB y13.Active, eU64 y13.Value, eI y13.Permissions, eS y13.RP, eI y13.Since])) rfl rfl rfl)) ?_
    refine st0 2240 rfl (ok (mv (.d (eU64 a1)))) ?_
    refine st0 2304 rfl (ok (mv (.d (eI a2)))) ?_
    refine st0 2368 rfl (ok (andI _ (15 : Int))) ?_
    refine st0 2432 rfl (ok (subI _ (2 : Int))) ?_
    refine st0 2496 rfl (ok (mv (.d (eS a3)))) ?_
    refine st0 2560 rfl (ok (mv (.d (eI a4)))) ?_
    refine st0 2624 rfl (ok (andI _ (65535 : Int))) ?_
    obtain ⟨y25, h26, h⟩ := bind_inv h
    refine st0 2688 rfl (call_ok (v := .tup [.d (eTApiToken y25.1), .d (eI y25.2)]) (u := []) (ar_d (eTApiToken (TApiToken.mk y13.Secret y13.Active y13.Value y13.Permissions y13.RP y13.Since)) (ar_d (eU64 a1) (ar_d (eI (w64 ((ibits .and .i64 a2 (15 : Int)) - (2 : Int)))) (ar_d (eS a3) (ar_d (eI (ibits .and .i64 a4 (65535 : Int))) ar_nil))))) rfl (tokenIssueOK (TApiToken.mk y13.Secret y13.Active y13.Value y13.Permissions y13.RP y13.Since) a1 (w64 ((ibits .and .i64 a2 (15 : Int)) - (2 : Int))) a3 (ibits .and .i64 a4 (65535 : Int)) y25 h26) rfl) ?_
    refine st0 2752 rfl (ok (mv (.tup [.d (eTApiToken y25.1), .d (eI y25.2)]))) ?_
    refine st0 2816 rfl (ok (extr (v := .d (eTApiToken y25.1)) rfl rfl)) ?_
    refine st0 2880 rfl (ok (extr (v := .d (eI y25.2)) rfl rfl)) ?_
    refine st1 2944 rfl (mem' := [(2880, .var .mine [.d (eU64 (0#64)), .d (eB false), .d (eU64 (0#64)), .d (eI (0 : Int)), .d (eS ([] : List (BitVec 8))), .d (eI (0 : Int))]), (1920, .var .mine [.d (eU64 y21.1.Secret), .d (eB y21.1.Active), .d (eU64 y21.1.Value), .d (eI y21.1.Permissions), .d (eS y21.1.RP), .d (eI y21.1.Since)]), (1152, .var .mine [.d (eU64 y17.1.Secret), .d (eB y17.1.Active), .d (eU64 y17.1.Value), .d (eI y17.1.Permissions), .d (eS y17.1.RP), .d (eI y17.1.Since)]), (448, .var .mine [.d (eU64 y13.Secret), .d (eB y13.Active), .d (eU64 y13.Value), .d (eI y13.Permissions), .d (eS y13.RP), .d (eI y13.Since)])]) (ok (alc (zs := [.d (eU64 (0#64)), .d (eB false), .d (eU64 (0#64)), .d (eI (0 : Int)), .d (eS ([] : List (BitVec 8))), .d (eI (0 : Int))]))) rfl ?_
    refine stn 3008 rfl (mem' := [(2880, .var .mine [.d (eU64 y25.1.Secret), .d (eB y25.1.Active), .d (eU64 y25.1.Value), .d (eI y25.1.Permissions), .d (eS y25.1.RP), .d (eI y25.1.Since)]), (1920, .var .mine [.d (eU64 y21.1.Secret), .d (eB y21.1.Active), .d (eU64 y21.1.Value), .d (eI y21.1.Permissions), .d (eS y21.1.RP), .d (eI y21.1.Since)]), (1152, .var .mine [.d (eU64 y17.1.Secret), .d (eB y17.1.Active), .d (eU64 y17.1.Value), .d (eI y17.1.Permissions), .d (eS y17.1.RP), .d (eI y17.1.Since)]), (448, .var .mine [.d (eU64 y13.Secret), .d (eB y13.Active), .d (eU64 y13.Value), .d (eI y13.Permissions), .d (eS y13.RP), .d (eI y13.Since)])]) (ok (sto_v (ps' := [.d (eU64 y25.1.Secret), .d (eB y25.1.Active), .d (eU64 y25.1.Value), .d (eI y25.1.Permissions), .d (eS y25.1.RP), .d (eI y25.1.Since)]) rfl rfl rfl rfl)) rfl ?_
    refine st0 3072 rfl (ok (mv (.d (eI y25.2)))) ?_
    refine hK24 _ _ ?_
    simp only [n0, n1, n2, n3, n4, n5, n6, n7, n8, n9, n10, n11, n12, n13, n14, n15, n16, n17, n18, n19, reduceIte]
    refine hK23 _ _ _ ?_
    refine rwp_seq fun K27 hK27 => ?_
    refine rwp_region fun K28 hK28 => ?_
    refine st0 3136 rfl (ok (ld_v (v := .d (.agg [eU64 y13.Secret, eB y13.Active, eU64 y13.Value, eI y13.Permissions, eS y13.RP, eI y13.Since])) rfl rfl rfl)) ?_
    refine st0 3200 rfl (ok (mv (.d (eU64 a1)))) ?_
    refine st0 3264 rfl (ok (mv (.d (eI a2)))) ?_
    refine st0 3328 rfl (ok (andI _ (15 : Int))) ?_
    refine st0 3392 rfl (ok (subI _ (2 : Int))) ?_
    refine st0 3456 rfl (ok (mv (.d (eS a3)))) ?_
    refine st0 3520 rfl (ok (mv (.d (eI a4)))) ?_
    refine st0 3584 rfl (ok (andI _ (65535 : Int))) ?_
    obtain ⟨y29, h30, h⟩ := bind_inv h
    refine st0 3648 rfl (call_ok (v := .tup [.d (eTApiToken y29.1), .d (eI y29.2)]) (u := []) (ar_d (eTApiToken (TApiToken.mk y13.Secret y13.Active y13.Value y13.Permissions y13.RP y13.Since)) (ar_d (eU64 a1) (ar_d (eI (w64 ((ibits .and .i64 a2 (15 : Int)) - (2 : Int)))) (ar_d (eS a3) (ar_d (eI (ibits .and .i64 a4 (65535 : Int))) ar_nil))))) rfl (passkeyref10IssueOK (TApiToken.mk y13.Secret y13.Active y13.Value y13.Permissions y13.RP y13.Since) a1 (w64 ((ibits .and .i64 a2 (15 : Int)) - (2 : Int))) a3 (ibits .and .i64 a4 (65535 : Int)) y29 h30) rfl) ?_
    refine st0 3712 rfl (ok (mv (.tup [.d (eTApiToken y29.1), .d (eI y29.2)]))) ?_
    refine st0 3776 rfl (ok (extr (v := .d (eTApiToken y29.1)) rfl rfl)) ?_
    refine st0 3840 rfl (ok (extr (v := .d (eI y29.2)) rfl rfl)) ?_
    refine st1 3904 rfl (mem' := [(3840, .var .mine [.d (eU64 (0#64)), .d (eB false), .d (eU64 (0#64)), .d (eI (0 : Int)), .d (eS ([] : List (BitVec 8))), .d (eI (0 : Int))]), (2880, .var .mine [.d (eU64 y25.1.Secret), .d (eB y25.1.Active), .d (eU64 y25.1.Value), .d (eI y25.1.Permissions), .d (eS y25.1.RP), .d (eI y25.1.Since)]), (1920, .var .mine [.d (eU64 y21.1.Secret), .d (eB y21.1.Active), .d (eU64 y21.1.Value), .d (eI y21.1.Permissions), .d (eS y21.1.RP), .d (eI y21.1.Since)]), (1152, .var .mine [.d (eU64 y17.1.Secret), .d (eB y17.1.Active), .d (eU64 y17.1.Value), .d (eI y17.1.Permissions), .d (eS y17.1.RP), .d (eI y17.1.Since)]), (448, .var .mine [.d (eU64 y13.Secret), .d (eB y13.Active), .d (eU64 y13.Value), .d (eI y13.Permissions), .d (eS y13.RP), .d (eI y13.Since)])]) (ok (alc (zs := [.d (eU64 (0#64)), .d (eB false), .d (eU64 (0#64)), .d (eI (0 : Int)), .d (eS ([] : List (BitVec 8))), .d (eI (0 : Int))]))) rfl ?_
    refine stn 3968 rfl (mem' := [(3840, .var .mine [.d (eU64 y29.1.Secret), .d (eB y29.1.Active), .d (eU64 y29.1.Value), .d (eI y29.1.Permissions), .d (eS y29.1.RP), .d (eI y29.1.Since)]), (2880, .var .mine [.d (eU64 y25.1.Secret), .d (eB y25.1.Active), .d (eU64 y25.1.Value), .d (eI y25.1.Permissions), .d (eS y25.1.RP), .d (eI y25.1.Since)]), (1920, .var .mine [.d (eU64 y21.1.Secret), .d (eB y21.1.Active), .d (eU64 y21.1.Value), .d (eI y21.1.Permissions), .d (eS y21.1.RP), .d (eI y21.1.Since)]), (1152, .var .mine [.d (eU64 y17.1.Secret), .d (eB y17.1.Active), .d (eU64 y17.1.Value), .d (eI y17.1.Permissions), .d (eS y17.1.RP), .d (eI y17.1.Since)]), (448, .var .mine [.d (eU64 y13.Secret), .d (eB y13.Active), .d (eU64 y13.Value), .d (eI y13.Permissions), .d (eS y13.RP), .d (eI y13.Since)])]) (ok (sto_v (ps' := [.d (eU64 y29.1.Secret), .d (eB y29.1.Active), .d (eU64 y29.1.Value), .d (eI y29.1.Permissions), .d (eS y29.1.RP), .d (eI y29.1.Since)]) rfl rfl rfl rfl)) rfl ?_
    refine st0 4032 rfl (ok (mv (.d (eI y29.2)))) ?_
    refine hK28 _ _ ?_
    simp only [n0, n1, n2, n3, n4, n5, n6, n7, n8, n9, n10, n11, n12, n13, n14, n15, n16, n17, n18, n19, reduceIte]
    refine hK27 _ _ _ ?_
    refine rwp_seq fun K31 hK31 => ?_
    refine rwp_region fun K32 hK32 => ?_
    refine st0 4096 rfl (ok (ld_v (v := .d (.agg [eU64 y17.1.Secret, eB y17.1.Active, eU64 y17.1.Value, eI y17.1.Permissions, eS y17.1.RP, eI y17.1.Since])) rfl rfl rfl)) ?_
    refine st0 4160 rfl (ok (ld_v (v := .d (.agg [eU64 y21.1.Secret, eB y21.1.Active, eU64 y21.1.Value, eI y21.1.Permissions, eS y21.1.RP, eI y21.1.Since])) rfl rfl rfl)) ?_
    refine st0 4224 rfl (ok (eqa_e rfl rfl (eq_cons (eqk_u64 y17.1.Secret y21.1.Secret) (eq_cons (eqk_b y17.1.Active y21.1.Active) (eq_cons (eqk_u64 y17.1.Value y21.1.Value) (eq_cons (eqk_i y17.1.Permissions y21.1.Permissions) (eq_cons (eqk_s y17.1.RP y21.1.RP) (eq_cons (eqk_i y17.1.Since y21.1.Since) eq_nil)))))))) ?_
    refine st0 4288 rfl (ok (mv (.d (eB ((y17.1.Secret == y21.1.Secret) && ((y17.1.Active == y21.1.Active) && ((y17.1.Value == y21.1.Value) && ((y17.1.Permissions == y21.1.Permissions) && ((y17.1.RP == y21.1.RP) && ((y17.1.Since == y21.1.Since) && true)))))))))) ?_
    rcases Bool.eq_false_or_eq_true (((y17.1.Secret == y21.1.Secret) && ((y17.1.Active == y21.1.Active) && ((y17.1.Value == y21.1.Value) && ((y17.1.Permissions == y21.1.Permissions) && ((y17.1.RP == y21.1.RP) && ((y17.1.Since == y21.1.Since) && true))))))) with h33 | h33
    · replace h := ite_t h h33
      refine stG (isT h33) ?_
      refine st0 4352 rfl (ok (mv (.d (eI y17.2)))) ?_
      refine stG (isT h33) ?_
      refine st0 4416 rfl (ok (mv (.d (eI y21.2)))) ?_
      refine stG (isT h33) ?_
      refine st0 4480 rfl (ok (eqlI _ _)) ?_
      refine st0 4544 rfl (ok (pick_t h33 (.d (eB (y17.2 == y21.2))) _)) ?_
      refine st0 4608 rfl (ok (mv (.d (eB (y17.2 == y21.2))))) ?_
      rcases Bool.eq_false_or_eq_true ((y17.2 == y21.2)) with h34 | h34
      · replace h := ite_t h h34
        refine stG (isT h34) ?_
        refine st0 4672 rfl (ok (ld_v (v := .d (.agg [eU64 y25.1.Secret, eB y25.1.Active, eU64 y25.1.Value, eI y25.1.Permissions, eS y25.1.RP, eI y25.1.Since])) rfl rfl rfl)) ?_
        refine stG (isT h34) ?_
        refine st0 4736 rfl (ok (ld_v (v := .d (.agg [eU64 y29.1.Secret, eB y29.1.Active, eU64 y29.1.Value, eI y29.1.Permissions, eS y29.1.RP, eI y29.1.Since])) rfl rfl rfl)) ?_
        refine stG (isT h34) ?_
        refine st0 4800 rfl (ok (eqa_e rfl rfl (eq_cons (eqk_u64 y25.1.Secret y29.1.Secret) (eq_cons (eqk_b y25.1.Active y29.1.Active) (eq_cons (eqk_u64 y25.1.Value y29.1.Value) (eq_cons (eqk_i y25.1.Permissions y29.1.Permissions) (eq_cons (eqk_s y25.1.RP y29.1.RP) (eq_cons (eqk_i y25.1.Since y29.1.Since) eq_nil)))))))) ?_
        refine st0 4864 rfl (ok (pick_t h34 (.d (eB ((y25.1.Secret == y29.1.Secret) && ((y25.1.Active == y29.1.Active) && ((y25.1.Value == y29.1.Value) && ((y25.1.Permissions == y29.1.Permissions) && ((y25.1.RP == y29.1.RP) && ((y25.1.Since == y29.1.Since) && true)))))))) _)) ?_
        refine st0 4928 rfl (ok (mv (.d (eB ((y25.1.Secret == y29.1.Secret) && ((y25.1.Active == y29.1.Active) && ((y25.1.Value == y29.1.Value) && ((y25.1.Permissions == y29.1.Permissions) && ((y25.1.RP == y29.1.RP) && ((y25.1.Since == y29.1.Since) && true)))))))))) ?_
        rcases Bool.eq_false_or_eq_true (((y25.1.Secret == y29.1.Secret) && ((y25.1.Active == y29.1.Active) && ((y25.1.Value == y29.1.Value) && ((y25.1.Permissions == y29.1.Permissions) && ((y25.1.RP == y29.1.RP) && ((y25.1.Since == y29.1.Since) && true))))))) with h35 | h35
        · replace h := ite_t h h35
          refine stG (isT h35) ?_
          refine st0 4992 rfl (ok (mv (.d (eI y25.2)))) ?_
          refine stG (isT h35) ?_
          refine st0 5056 rfl (ok (mv (.d (eI y29.2)))) ?_
          refine stG (isT h35) ?_
          refine st0 5120 rfl (ok (eqlI _ _)) ?_
          refine st0 5184 rfl (ok (pick_t h35 (.d (eB (y25.2 == y29.2))) _)) ?_
          refine st0 5248 rfl (ok (mv (.d (eB (y25.2 == y29.2))))) ?_
          rcases Bool.eq_false_or_eq_true ((y25.2 == y29.2)) with h36 | h36
          · replace h := ite_t h h36
            refine stG (isT h36) ?_
            refine st0 5312 rfl (ok (mv (.d (eU64 a1)))) ?_
            refine stG (isT h36) ?_
            obtain ⟨y37, h38, h⟩ := bind_inv h
            refine st0 5376 rfl (call_ok (v := .d (eTApiToken y37)) (u := []) (ar_d (eU64 a1) ar_nil) rfl (tokenStartOK a1 y37 h38) rfl) ?_
            refine stG (isT h36) ?_
            refine st0 5440 rfl (ok (mv (.d (eU64 a1)))) ?_
            refine stG (isT h36) ?_
            obtain ⟨y39, h40, h⟩ := bind_inv h
            refine st0 5504 rfl (call_ok (v := .d (eTApiToken y39)) (u := []) (ar_d (eU64 a1) ar_nil) rfl (passkeyref10StartTokenOK a1 y39 h40) rfl) ?_
            refine stG (isT h36) ?_
            refine st0 5568 rfl (ok (eqa_e rfl rfl (eq_cons (eqk_u64 y37.Secret y39.Secret) (eq_cons (eqk_b y37.Active y39.Active) (eq_cons (eqk_u64 y37.Value y39.Value) (eq_cons (eqk_i y37.Permissions y39.Permissions) (eq_cons (eqk_s y37.RP y39.RP) (eq_cons (eqk_i y37.Since y39.Since) eq_nil)))))))) ?_
            refine st0 5632 rfl (ok (pick_t h36 (.d (eB ((y37.Secret == y39.Secret) && ((y37.Active == y39.Active) && ((y37.Value == y39.Value) && ((y37.Permissions == y39.Permissions) && ((y37.RP == y39.RP) && ((y37.Since == y39.Since) && true)))))))) _)) ?_
            refine st0 5696 rfl (ok (mv (.d (eB ((y37.Secret == y39.Secret) && ((y37.Active == y39.Active) && ((y37.Value == y39.Value) && ((y37.Permissions == y39.Permissions) && ((y37.RP == y39.RP) && ((y37.Since == y39.Since) && true)))))))))) ?_
            rcases Bool.eq_false_or_eq_true (((y37.Secret == y39.Secret) && ((y37.Active == y39.Active) && ((y37.Value == y39.Value) && ((y37.Permissions == y39.Permissions) && ((y37.RP == y39.RP) && ((y37.Since == y39.Since) && true))))))) with h41 | h41
            · replace h := ite_t h h41
              refine stG (isT h41) ?_
              obtain ⟨y42, h43, h⟩ := bind_inv h
              refine st0 5760 rfl (call_ok (v := .d (eB y42)) (u := []) ar_nil rfl (passkeylaw12awakeOK  y42 h43) rfl) ?_
              refine st0 5824 rfl (ok (pick_t h41 (.d (eB y42)) _)) ?_
              refine st0 5888 rfl (ok (mv (.d (eB y42)))) ?_
              refine hK32 _ _ ?_
              simp only [n0, n1, n2, n3, n4, n5, n6, n7, n8, n9, n10, n11, n12, n13, n14, n15, n16, n17, n18, n19, reduceIte]
              refine hK31 _ _ _ ?_
              refine rwp_ret ?_
              obtain rfl := Option.some.inj h
              try simp only [thenK, blockK, reduceIte]
              exact Or.inl (end_ok trivial (rs_t (v := .d (eB y42)) rfl rs_nil) (en_d (to_d _) en_nil) ou_nil (by first | exact eok rfl rfl rfl rfl trivial | (refine eok ?_ ?_ ?_ ?_ ?_ <;> first | rfl | exact trivial | simp [retM, Mem.get, PV.renL, PV.ren, Blk.ren, comps, rhoR, rhoM, appN, PV.refsL, PV.refs, keys, nodupB, Blk.refs, allIn, Blk.bor])))
            · replace h := ite_f h h41
              refine stGN 5760 rfl rfl h41 ?_
              refine st0 5824 rfl (ok (pick_f h41 _ (.d (eB false)))) ?_
              refine st0 5888 rfl (ok (mv (.d (eB false)))) ?_
              refine hK32 _ _ ?_
              simp only [n0, n1, n2, n3, n4, n5, n6, n7, n8, n9, n10, n11, n12, n13, n14, n15, n16, n17, n18, n19, reduceIte]
              refine hK31 _ _ _ ?_
              refine rwp_ret ?_
              obtain rfl := Option.some.inj h
              try simp only [thenK, blockK, reduceIte]
              exact Or.inl (end_ok trivial (rs_t (v := .d (eB false)) rfl rs_nil) (en_d (to_d _) en_nil) ou_nil (by first | exact eok rfl rfl rfl rfl trivial | (refine eok ?_ ?_ ?_ ?_ ?_ <;> first | rfl | exact trivial | simp [retM, Mem.get, PV.renL, PV.ren, Blk.ren, comps, rhoR, rhoM, appN, PV.refsL, PV.refs, keys, nodupB, Blk.refs, allIn, Blk.bor])))
          · replace h := ite_f h h36
            refine stGN 5312 rfl rfl h36 ?_
            refine stGN 5376 rfl rfl h36 ?_
            refine stGN 5440 rfl rfl h36 ?_
            refine stGN 5504 rfl rfl h36 ?_
            refine stGN 5568 rfl rfl h36 ?_
            refine st0 5632 rfl (ok (pick_f h36 _ (.d (eB false)))) ?_
            refine st0 5696 rfl (ok (mv (.d (eB false)))) ?_
            refine stGN 5760 rfl rfl rfl ?_
            refine st0 5824 rfl (ok (pick_f rfl _ (.d (eB false)))) ?_
            refine st0 5888 rfl (ok (mv (.d (eB false)))) ?_
            refine hK32 _ _ ?_
            simp only [n0, n1, n2, n3, n4, n5, n6, n7, n8, n9, n10, n11, n12, n13, n14, n15, n16, n17, n18, n19, reduceIte]
            refine hK31 _ _ _ ?_
            refine rwp_ret ?_
            obtain rfl := Option.some.inj h
            try simp only [thenK, blockK, reduceIte]
            exact Or.inl (end_ok trivial (rs_t (v := .d (eB false)) rfl rs_nil) (en_d (to_d _) en_nil) ou_nil (by first | exact eok rfl rfl rfl rfl trivial | (refine eok ?_ ?_ ?_ ?_ ?_ <;> first | rfl | exact trivial | simp [retM, Mem.get, PV.renL, PV.ren, Blk.ren, comps, rhoR, rhoM, appN, PV.refsL, PV.refs, keys, nodupB, Blk.refs, allIn, Blk.bor])))
        · replace h := ite_f h h35
          refine stGN 4992 rfl rfl h35 ?_
          refine stGN 5056 rfl rfl h35 ?_
          refine stGN 5120 rfl rfl h35 ?_
          refine st0 5184 rfl (ok (pick_f h35 _ (.d (eB false)))) ?_
          refine st0 5248 rfl (ok (mv (.d (eB false)))) ?_
          refine stGN 5312 rfl rfl rfl ?_
          refine stGN 5376 rfl rfl rfl ?_
          refine stGN 5440 rfl rfl rfl ?_
          refine stGN 5504 rfl rfl rfl ?_
          refine stGN 5568 rfl rfl rfl ?_
          refine st0 5632 rfl (ok (pick_f rfl _ (.d (eB false)))) ?_
          refine st0 5696 rfl (ok (mv (.d (eB false)))) ?_
          refine stGN 5760 rfl rfl rfl ?_
          refine st0 5824 rfl (ok (pick_f rfl _ (.d (eB false)))) ?_
          refine st0 5888 rfl (ok (mv (.d (eB false)))) ?_
          refine hK32 _ _ ?_
          simp only [n0, n1, n2, n3, n4, n5, n6, n7, n8, n9, n10, n11, n12, n13, n14, n15, n16, n17, n18, n19, reduceIte]
          refine hK31 _ _ _ ?_
          refine rwp_ret ?_
          obtain rfl := Option.some.inj h
          try simp only [thenK, blockK, reduceIte]
          exact Or.inl (end_ok trivial (rs_t (v := .d (eB false)) rfl rs_nil) (en_d (to_d _) en_nil) ou_nil (by first | exact eok rfl rfl rfl rfl trivial | (refine eok ?_ ?_ ?_ ?_ ?_ <;> first | rfl | exact trivial | simp [retM, Mem.get, PV.renL, PV.ren, Blk.ren, comps, rhoR, rhoM, appN, PV.refsL, PV.refs, keys, nodupB, Blk.refs, allIn, Blk.bor])))
      · replace h := ite_f h h34
        refine stGN 4672 rfl rfl h34 ?_
        refine stGN 4736 rfl rfl h34 ?_
        refine stGN 4800 rfl rfl h34 ?_
        refine st0 4864 rfl (ok (pick_f h34 _ (.d (eB false)))) ?_
        refine st0 4928 rfl (ok (mv (.d (eB false)))) ?_
        refine stGN 4992 rfl rfl rfl ?_
        refine stGN 5056 rfl rfl rfl ?_
        refine stGN 5120 rfl rfl rfl ?_
        refine st0 5184 rfl (ok (pick_f rfl _ (.d (eB false)))) ?_
        refine st0 5248 rfl (ok (mv (.d (eB false)))) ?_
        refine stGN 5312 rfl rfl rfl ?_
        refine stGN 5376 rfl rfl rfl ?_
        refine stGN 5440 rfl rfl rfl ?_
        refine stGN 5504 rfl rfl rfl ?_
        refine stGN 5568 rfl rfl rfl ?_
        refine st0 5632 rfl (ok (pick_f rfl _ (.d (eB false)))) ?_
        refine st0 5696 rfl (ok (mv (.d (eB false)))) ?_
        refine stGN 5760 rfl rfl rfl ?_
        refine st0 5824 rfl (ok (pick_f rfl _ (.d (eB false)))) ?_
        refine st0 5888 rfl (ok (mv (.d (eB false)))) ?_
        refine hK32 _ _ ?_
        simp only [n0, n1, n2, n3, n4, n5, n6, n7, n8, n9, n10, n11, n12, n13, n14, n15, n16, n17, n18, n19, reduceIte]
        refine hK31 _ _ _ ?_
        refine rwp_ret ?_
        obtain rfl := Option.some.inj h
        try simp only [thenK, blockK, reduceIte]
        exact Or.inl (end_ok trivial (rs_t (v := .d (eB false)) rfl rs_nil) (en_d (to_d _) en_nil) ou_nil (by first | exact eok rfl rfl rfl rfl trivial | (refine eok ?_ ?_ ?_ ?_ ?_ <;> first | rfl | exact trivial | simp [retM, Mem.get, PV.renL, PV.ren, Blk.ren, comps, rhoR, rhoM, appN, PV.refsL, PV.refs, keys, nodupB, Blk.refs, allIn, Blk.bor])))
    · replace h := ite_f h h33
      refine stGN 4352 rfl rfl h33 ?_
      refine stGN 4416 rfl rfl h33 ?_
      refine stGN 4480 rfl rfl h33 ?_
      refine st0 4544 rfl (ok (pick_f h33 _ (.d (eB false)))) ?_
      refine st0 4608 rfl (ok (mv (.d (eB false)))) ?_
      refine stGN 4672 rfl rfl rfl ?_
      refine stGN 4736 rfl rfl rfl ?_
      refine stGN 4800 rfl rfl rfl ?_
      refine st0 4864 rfl (ok (pick_f rfl _ (.d (eB false)))) ?_
      refine st0 4928 rfl (ok (mv (.d (eB false)))) ?_
      refine stGN 4992 rfl rfl rfl ?_
      refine stGN 5056 rfl rfl rfl ?_
      refine stGN 5120 rfl rfl rfl ?_
      refine st0 5184 rfl (ok (pick_f rfl _ (.d (eB false)))) ?_
      refine st0 5248 rfl (ok (mv (.d (eB false)))) ?_
      refine stGN 5312 rfl rfl rfl ?_
      refine stGN 5376 rfl rfl rfl ?_
      refine stGN 5440 rfl rfl rfl ?_
      refine stGN 5504 rfl rfl rfl ?_
      refine stGN 5568 rfl rfl rfl ?_
      refine st0 5632 rfl (ok (pick_f rfl _ (.d (eB false)))) ?_
      refine st0 5696 rfl (ok (mv (.d (eB false)))) ?_
      refine stGN 5760 rfl rfl rfl ?_
      refine st0 5824 rfl (ok (pick_f rfl _ (.d (eB false)))) ?_
      refine st0 5888 rfl (ok (mv (.d (eB false)))) ?_
      refine hK32 _ _ ?_
      simp only [n0, n1, n2, n3, n4, n5, n6, n7, n8, n9, n10, n11, n12, n13, n14, n15, n16, n17, n18, n19, reduceIte]
      refine hK31 _ _ _ ?_
      refine rwp_ret ?_
      obtain rfl := Option.some.inj h
      try simp only [thenK, blockK, reduceIte]
      exact Or.inl (end_ok trivial (rs_t (v := .d (eB false)) rfl rs_nil) (en_d (to_d _) en_nil) ou_nil (by first | exact eok rfl rfl rfl rfl trivial | (refine eok ?_ ?_ ?_ ?_ ?_ <;> first | rfl | exact trivial | simp [retM, Mem.get, PV.renL, PV.ren, Blk.ren, comps, rhoR, rhoM, appN, PV.refsL, PV.refs, keys, nodupB, Blk.refs, allIn, Blk.bor])))

end Go.Proofs.Ty
