/- Each Go function comes to what its plain function says. PRINTED by a program of this session (ty.py). -/
import Derived.Test.YtfhdcabplkhdcaaDoorS3
set_option linter.unusedVariables false
set_option linter.unusedSimpArgs false
set_option maxHeartbeats 4000000
set_option maxRecDepth 10000
namespace Go.Proofs.Ty
open Go Go.RW Go.Proofs
open Go.RW renaming thenK → n0, blockK → n1, keepE → n2, updM → n3, envE → n4
open Go.RW.Mem renaming get → n5
open List renaming filter_cons → n6, filter_nil → n7, nil_append → n8, cons_append → n9, map_cons → n10, map_nil → n11, length_cons → n12, length_nil → n13
open Option renaming isNone_none → n14, isNone_some → n15
open Bool renaming false_eq_true → n16
open Nat renaming reduceEqDiff → n17, reduceAdd → n18, reduceMul → n19
/-- passkey/token.Issue -/
def tokenIssueH : Hints := ⟨[(0, [1, 2, 3, 4, 5, 10]), (1, [1, 2, 3, 4, 5, 10, 25]), (2, [10, 11]), (3, [1, 2, 3, 4, 5, 10, 29]), (4, [10, 11]), (5, [10, 11])], []⟩
def tokenIssueRc : RCode :=
  .seq (.region false [⟨some 5, .box, [.t 0], none, []⟩, ⟨some 10, .alloc [.d (.int .u64 0), .d (.bool false), .d (.int .u64 0), .d (.int .i64 0), .d (.str ⟨#[]⟩), .d (.int .i64 0)],
  [], none, []⟩, ⟨some 11, .mv, [.k (.d (.int .i64 0))], none, []⟩] [1, 2, 3, 4, 5, 10]) (.seq (.seq (.region false [⟨some 12, .mv, [.t 2], none, []⟩, ⟨some 13, .bin .lss, [.t 12,
  .k (.d (.int .i64 1))], none, []⟩, ⟨some 14, .mv, [.t 13], none, []⟩, ⟨some 15, .mv, [.t 2], some (14, false), []⟩, ⟨some 16, .bin .gtr, [.t 15, .k (.d (.int .i64 7))], some (14,
  false), []⟩, ⟨some 17, .pick, [.t 14, .k (.d (.bool true)), .t 16], none, []⟩, ⟨some 18, .mv, [.t 17], none, []⟩, ⟨some 19, .mv, [.t 4], some (18, false), []⟩, ⟨some 20, .bin
  .lss, [.t 19, .k (.d (.int .i64 0))], some (18, false), []⟩, ⟨some 21, .pick, [.t 18, .k (.d (.bool true)), .t 20], none, []⟩, ⟨some 22, .mv, [.t 21], none, []⟩, ⟨some 23, .mv,
  [.t 4], some (22, false), []⟩, ⟨some 24, .bin .gtr, [.t 23, .k (.d (.int .i64 1099511627776))], some (22, false), []⟩, ⟨some 25, .pick, [.t 22, .k (.d (.bool true)), .t 24],
  none, []⟩] [1, 2, 3, 4, 5, 10, 25]) (.cond (.t 25) (.seq (.region false [⟨some 26, .build [.d (.int .u64 0), .d (.bool false), .d (.int .u64 0), .d (.int .i64 0), .d (.str
  ⟨#[]⟩), .d (.int .i64 0)] [], [], none, []⟩, ⟨none, .store 6, [.t 10, .t 26], none, []⟩, ⟨some 11, .mv, [.k (.d (.int .i64 9))], none, []⟩] [10, 11]) .ret) .skip)) (.seq (.seq
  (.region false [⟨some 27, .mv, [.t 3], none, []⟩, ⟨some 28, .lens, [.t 27], none, []⟩, ⟨some 29, .bin .gtr, [.t 28, .k (.d (.int .i64 64))], none, []⟩] [1, 2, 3, 4, 5, 10, 29])
  (.cond (.t 29) (.seq (.region false [⟨some 30, .build [.d (.int .u64 0), .d (.bool false), .d (.int .u64 0), .d (.int .i64 0), .d (.str ⟨#[]⟩), .d (.int .i64 0)] [], [], none,
  []⟩, ⟨none, .store 6, [.t 10, .t 30], none, []⟩, ⟨some 11, .mv, [.k (.d (.int .i64 8))], none, []⟩] [10, 11]) .ret) .skip)) (.seq (.region false [⟨some 31, .fa 0, [.t 5], none,
  []⟩, ⟨some 32, .load 1 false, [.t 31], none, []⟩, ⟨some 33, .mv, [.t 1], none, []⟩, ⟨some 34, .mv, [.t 2], none, []⟩, ⟨some 35, .mv, [.t 3], none, []⟩, ⟨some 36, .mv, [.t 4],
  none, []⟩, ⟨some 37, .build [.d (.int .u64 0), .d (.bool false), .d (.int .u64 0), .d (.int .i64 0), .d (.str ⟨#[]⟩), .d (.int .i64 0)] [(0, 1), (1, 1), (2, 1), (3, 1), (4, 1),
  (5, 1)], [.t 32, .k (.d (.bool true)), .t 33, .t 34, .t 35, .t 36], none, []⟩, ⟨none, .store 6, [.t 10, .t 37], none, []⟩, ⟨some 11, .mv, [.k (.d (.int .i64 0))], none, []⟩] [10,
  11]) .ret)))
def tokenIssueRr : List RR := [.c 10 6 true, .t 11]
theorem tokenIssueC : compFn Tryd.prog 15 tokenIssueH = some (tokenIssueRc, tokenIssueRr, 38) := by kernel_rfl
theorem tokenIssueOK (a0 : TApiToken) (a1 : BitVec 64) (a2 : Int) (a3 : List (BitVec 8)) (a4 : Int) (res : TApiToken × Int) (h : tokenIssue a0 a1 a2 a3 a4 = some res) : CallOK Tryd.prog 15 [.d (eTApiToken a0), .d (eU64 a1), .d (eI a2), .d (eS a3), .d (eI a4)] [] (.tup [.d (eTApiToken res.1), .d (eI res.2)]) [] := by
  unfold tokenIssue at h
  refine callOK tokenIssueC fm rfl ?_
  simp only [initE, initM, nbor, List.map_cons, List.map_nil, Nat.reduceAdd]
  unfold tokenIssueRc
  refine rwp_seq fun K1 hK1 => ?_
  refine rwp_region fun K2 hK2 => ?_
  refine st1 128 rfl (mem' := [(64, .var .mine [.d (eU64 a0.Secret), .d (eB a0.Active), .d (eU64 a0.Value), .d (eI a0.Permissions), .d (eS a0.RP), .d (eI a0.Since)])]) (ok (bx (ps := [.d (eU64 a0.Secret), .d (eB a0.Active), .d (eU64 a0.Value), .d (eI a0.Permissions), .d (eS a0.RP), .d (eI a0.Since)]) rfl rfl)) rfl ?_
  refine st1 192 rfl (mem' := [(128, .var .mine [.d (eU64 (0#64)), .d (eB false), .d (eU64 (0#64)), .d (eI (0 : Int)), .d (eS ([] : List (BitVec 8))), .d (eI (0 : Int))]), (64, .var .mine [.d (eU64 a0.Secret), .d (eB a0.Active), .d (eU64 a0.Value), .d (eI a0.Permissions), .d (eS a0.RP), .d (eI a0.Since)])]) (ok (alc (zs := [.d (eU64 (0#64)), .d (eB false), .d (eU64 (0#64)), .d (eI (0 : Int)), .d (eS ([] : List (BitVec 8))), .d (eI (0 : Int))]))) rfl ?_
  refine st0 256 rfl (ok (mv (.d (eI (0 : Int))))) ?_
  refine hK2 _ _ ?_
  simp only [n0, n1, n2, n3, n4, n5, n6, n7, n8, n9, n10, n11, n12, n13, n14, n15, n16, n17, n18, n19, reduceIte]
  refine hK1 _ _ _ ?_
  refine rwp_seq fun K3 hK3 => ?_
  refine rwp_join ([], []) 1216 (fun env mem => ∃ (v4 : Bool), tokenIssueJ1 a0 a1 a2 a3 a4 v4 = some res ∧ env = [(1, .d (eU64 a1)), (2, .d (eI a2)), (3, .d (eS a3)), (4, .d (eI a4)), (5, .ptr 64 0), (10, .ptr 128 0), (25, .d (eB v4))] ∧ mem = [(64, .var .mine [.d (eU64 a0.Secret), .d (eB a0.Active), .d (eU64 a0.Value), .d (eI a0.Permissions), .d (eS a0.RP), .d (eI a0.Since)]), (128, .var .mine [.d (eU64 (0#64)), .d (eB false), .d (eU64 (0#64)), .d (eI (0 : Int)), .d (eS ([] : List (BitVec 8))), .d (eI (0 : Int))])]) (fun _ _ hI => ?_) (fun K5 hK5 => ?_)
  · obtain ⟨v4, h, rfl, rfl⟩ := hI
    unfold tokenIssueJ1 at h
    rcases Bool.eq_false_or_eq_true (v4) with h6 | h6
    · replace h := ite_t h h6
      refine rwp_t (isT h6) ?_
      refine rwp_seq fun K7 hK7 => ?_
      refine rwp_region fun K8 hK8 => ?_
      refine st0 1280 rfl (ok (bld (v := .d (.agg [eU64 (0#64), eB false, eU64 (0#64), eI (0 : Int), eS ([] : List (BitVec 8)), eI (0 : Int)])) rfl rfl)) ?_
      refine stn 1344 rfl (mem' := [(128, .var .mine [.d (eU64 (0#64)), .d (eB false), .d (eU64 (0#64)), .d (eI (0 : Int)), .d (eS ([] : List (BitVec 8))), .d (eI (0 : Int))]), (64, .var .mine [.d (eU64 a0.Secret), .d (eB a0.Active), .d (eU64 a0.Value), .d (eI a0.Permissions), .d (eS a0.RP), .d (eI a0.Since)])]) (ok (sto_v (ps' := [.d (eU64 (0#64)), .d (eB false), .d (eU64 (0#64)), .d (eI (0 : Int)), .d (eS ([] : List (BitVec 8))), .d (eI (0 : Int))]) rfl rfl rfl rfl)) rfl ?_
      refine st0 1408 rfl (ok (mv (.d (eI (9 : Int))))) ?_
      refine hK8 _ _ ?_
      simp only [n0, n1, n2, n3, n4, n5, n6, n7, n8, n9, n10, n11, n12, n13, n14, n15, n16, n17, n18, n19, reduceIte]
      refine hK7 _ _ _ ?_
      refine rwp_ret ?_
      obtain rfl := Option.some.inj h
      try simp only [thenK, blockK, reduceIte]
      exact Or.inl (end_ok trivial (rs_c (id := 128) (off := 0) (v := .d (.agg [eU64 (0#64), eB false, eU64 (0#64), eI (0 : Int), eS ([] : List (BitVec 8)), eI (0 : Int)])) rfl rfl rfl rfl (rs_t (v := .d (eI (9 : Int))) rfl rs_nil)) (en_d (to_d _) (en_d (to_d _) en_nil)) ou_nil (by first | exact eok rfl rfl rfl rfl trivial | (refine eok ?_ ?_ ?_ ?_ ?_ <;> first | rfl | exact trivial | simp [retM, Mem.get, PV.renL, PV.ren, Blk.ren, comps, rhoR, rhoM, appN, PV.refsL, PV.refs, keys, nodupB, Blk.refs, allIn, Blk.bor])))
    · replace h := ite_f h h6
      refine rwp_f (isF h6) ?_
      refine rwp_skip ?_
      refine hK3 _ _ _ ?_
      refine rwp_seq fun K9 hK9 => ?_
      refine rwp_seq fun K10 hK10 => ?_
      refine rwp_region fun K11 hK11 => ?_
      refine st0 1280 rfl (ok (mv (.d (eS a3)))) ?_
      refine st0 1344 rfl (ok (lenS _)) ?_
      refine st0 1408 rfl (ok (gtrI _ (64 : Int))) ?_
      refine hK11 _ _ ?_
      simp only [n0, n1, n2, n3, n4, n5, n6, n7, n8, n9, n10, n11, n12, n13, n14, n15, n16, n17, n18, n19, reduceIte]
      refine hK10 _ _ _ ?_
      rcases Bool.eq_false_or_eq_true ((decide ((64 : Int) < (a3.length : Int)))) with h12 | h12
      · replace h := ite_t h h12
        refine rwp_t (isT h12) ?_
        refine rwp_seq fun K13 hK13 => ?_
        refine rwp_region fun K14 hK14 => ?_
        refine st0 1472 rfl (ok (bld (v := .d (.agg [eU64 (0#64), eB false, eU64 (0#64), eI (0 : Int), eS ([] : List (BitVec 8)), eI (0 : Int)])) rfl rfl)) ?_
        refine stn 1536 rfl (mem' := [(128, .var .mine [.d (eU64 (0#64)), .d (eB false), .d (eU64 (0#64)), .d (eI (0 : Int)), .d (eS ([] : List (BitVec 8))), .d (eI (0 : Int))]), (64, .var .mine [.d (eU64 a0.Secret), .d (eB a0.Active), .d (eU64 a0.Value), .d (eI a0.Permissions), .d (eS a0.RP), .d (eI a0.Since)])]) (ok (sto_v (ps' := [.d (eU64 (0#64)), .d (eB false), .d (eU64 (0#64)), .d (eI (0 : Int)), .d (eS ([] : List (BitVec 8))), .d (eI (0 : Int))]) rfl rfl rfl rfl)) rfl ?_
        refine st0 1600 rfl (ok (mv (.d (eI (8 : Int))))) ?_
        refine hK14 _ _ ?_
        simp only [n0, n1, n2, n3, n4, n5, n6, n7, n8, n9, n10, n11, n12, n13, n14, n15, n16, n17, n18, n19, reduceIte]
        refine hK13 _ _ _ ?_
        refine rwp_ret ?_
        obtain rfl := Option.some.inj h
        try simp only [thenK, blockK, reduceIte]
        exact Or.inl (end_ok trivial (rs_c (id := 128) (off := 0) (v := .d (.agg [eU64 (0#64), eB false, eU64 (0#64), eI (0 : Int), eS ([] : List (BitVec 8)), eI (0 : Int)])) rfl rfl rfl rfl (rs_t (v := .d (eI (8 : Int))) rfl rs_nil)) (en_d (to_d _) (en_d (to_d _) en_nil)) ou_nil (by first | exact eok rfl rfl rfl rfl trivial | (refine eok ?_ ?_ ?_ ?_ ?_ <;> first | rfl | exact trivial | simp [retM, Mem.get, PV.renL, PV.ren, Blk.ren, comps, rhoR, rhoM, appN, PV.refsL, PV.refs, keys, nodupB, Blk.refs, allIn, Blk.bor])))
      · replace h := ite_f h h12
        refine rwp_f (isF h12) ?_
        refine rwp_skip ?_
        refine hK9 _ _ _ ?_
        refine rwp_seq fun K15 hK15 => ?_
        refine rwp_region fun K16 hK16 => ?_
        refine st0 1472 rfl (ok (fa_k 0 rfl)) ?_
        refine st0 1536 rfl (ok (ld_v (v := .d (eU64 a0.Secret)) rfl rfl rfl)) ?_
        refine st0 1600 rfl (ok (mv (.d (eU64 a1)))) ?_
        refine st0 1664 rfl (ok (mv (.d (eI a2)))) ?_
        refine st0 1728 rfl (ok (mv (.d (eS a3)))) ?_
        refine st0 1792 rfl (ok (mv (.d (eI a4)))) ?_
        refine st0 1856 rfl (ok (bld (v := .d (.agg [eU64 a0.Secret, eB true, eU64 a1, eI a2, eS a3, eI a4])) rfl rfl)) ?_
        refine stn 1920 rfl (mem' := [(128, .var .mine [.d (eU64 a0.Secret), .d (eB true), .d (eU64 a1), .d (eI a2), .d (eS a3), .d (eI a4)]), (64, .var .mine [.d (eU64 a0.Secret), .d (eB a0.Active), .d (eU64 a0.Value), .d (eI a0.Permissions), .d (eS a0.RP), .d (eI a0.Since)])]) (ok (sto_v (ps' := [.d (eU64 a0.Secret), .d (eB true), .d (eU64 a1), .d (eI a2), .d (eS a3), .d (eI a4)]) rfl rfl rfl rfl)) rfl ?_
        refine st0 1984 rfl (ok (mv (.d (eI (0 : Int))))) ?_
        refine hK16 _ _ ?_
        simp only [n0, n1, n2, n3, n4, n5, n6, n7, n8, n9, n10, n11, n12, n13, n14, n15, n16, n17, n18, n19, reduceIte]
        refine hK15 _ _ _ ?_
        refine rwp_ret ?_
        obtain rfl := Option.some.inj h
        try simp only [thenK, blockK, reduceIte]
        exact Or.inl (end_ok trivial (rs_c (id := 128) (off := 0) (v := .d (.agg [eU64 a0.Secret, eB true, eU64 a1, eI a2, eS a3, eI a4])) rfl rfl rfl rfl (rs_t (v := .d (eI (0 : Int))) rfl rs_nil)) (en_d (to_d _) (en_d (to_d _) en_nil)) ou_nil (by first | exact eok rfl rfl rfl rfl trivial | (refine eok ?_ ?_ ?_ ?_ ?_ <;> first | rfl | exact trivial | simp [retM, Mem.get, PV.renL, PV.ren, Blk.ren, comps, rhoR, rhoM, appN, PV.refsL, PV.refs, keys, nodupB, Blk.refs, allIn, Blk.bor])))
  · refine rwp_region fun K17 hK17 => ?_
    refine st0 320 rfl (ok (mv (.d (eI a2)))) ?_
    refine st0 384 rfl (ok (lssI _ (1 : Int))) ?_
    refine st0 448 rfl (ok (mv (.d (eB (decide (a2 < (1 : Int))))))) ?_
    rcases Bool.eq_false_or_eq_true ((decide (a2 < (1 : Int)))) with h18 | h18
    · replace h := ite_t h h18
      refine stGN 512 rfl rfl h18 ?_
      refine stGN 576 rfl rfl h18 ?_
      refine st0 640 rfl (ok (pick_t h18 (.d (eB true)) _)) ?_
      refine st0 704 rfl (ok (mv (.d (eB true)))) ?_
      refine stGN 768 rfl rfl rfl ?_
      refine stGN 832 rfl rfl rfl ?_
      refine st0 896 rfl (ok (pick_t rfl (.d (eB true)) _)) ?_
      refine st0 960 rfl (ok (mv (.d (eB true)))) ?_
      refine stGN 1024 rfl rfl rfl ?_
      refine stGN 1088 rfl rfl rfl ?_
      refine st0 1152 rfl (ok (pick_t rfl (.d (eB true)) _)) ?_
      refine hK17 _ _ ?_
      simp only [n0, n1, n2, n3, n4, n5, n6, n7, n8, n9, n10, n11, n12, n13, n14, n15, n16, n17, n18, n19, reduceIte]
      exact hK5 _ _ _ ⟨_, _, Settled.refl, _, _, ⟨_, h, rfl, rfl⟩, ⟨rfl, ⟨⟨rfl, rfl⟩, ⟨⟨rfl, rfl⟩, ⟨⟨rfl, rfl⟩, ⟨⟨rfl, rfl⟩, ⟨⟨rfl, rfl⟩, ⟨⟨rfl, rfl⟩, ⟨⟨rfl, rfl⟩, trivial⟩⟩⟩⟩⟩⟩⟩, ⟨⟨rfl, rfl⟩, ⟨⟨rfl, rfl⟩, trivial⟩⟩⟩, rfl⟩
    · replace h := ite_f h h18
      refine stG (isF h18) ?_
      refine st0 512 rfl (ok (mv (.d (eI a2)))) ?_
      refine stG (isF h18) ?_
      refine st0 576 rfl (ok (gtrI _ (7 : Int))) ?_
      refine st0 640 rfl (ok (pick_f h18 _ (.d (eB (decide ((7 : Int) < a2)))))) ?_
      refine st0 704 rfl (ok (mv (.d (eB (decide ((7 : Int) < a2)))))) ?_
      rcases Bool.eq_false_or_eq_true ((decide ((7 : Int) < a2))) with h19 | h19
      · replace h := ite_t h h19
        refine stGN 768 rfl rfl h19 ?_
        refine stGN 832 rfl rfl h19 ?_
        refine st0 896 rfl (ok (pick_t h19 (.d (eB true)) _)) ?_
        refine st0 960 rfl (ok (mv (.d (eB true)))) ?_
        refine stGN 1024 rfl rfl rfl ?_
        refine stGN 1088 rfl rfl rfl ?_
        refine st0 1152 rfl (ok (pick_t rfl (.d (eB true)) _)) ?_
        refine hK17 _ _ ?_
        simp only [n0, n1, n2, n3, n4, n5, n6, n7, n8, n9, n10, n11, n12, n13, n14, n15, n16, n17, n18, n19, reduceIte]
        exact hK5 _ _ _ ⟨_, _, Settled.refl, _, _, ⟨_, h, rfl, rfl⟩, ⟨rfl, ⟨⟨rfl, rfl⟩, ⟨⟨rfl, rfl⟩, ⟨⟨rfl, rfl⟩, ⟨⟨rfl, rfl⟩, ⟨⟨rfl, rfl⟩, ⟨⟨rfl, rfl⟩, ⟨⟨rfl, rfl⟩, trivial⟩⟩⟩⟩⟩⟩⟩, ⟨⟨rfl, rfl⟩, ⟨⟨rfl, rfl⟩, trivial⟩⟩⟩, rfl⟩
      · replace h := ite_f h h19
        refine stG (isF h19) ?_
        refine st0 768 rfl (ok (mv (.d (eI a4)))) ?_
        refine stG (isF h19) ?_
        refine st0 832 rfl (ok (lssI _ (0 : Int))) ?_
        refine st0 896 rfl (ok (pick_f h19 _ (.d (eB (decide (a4 < (0 : Int))))))) ?_
        refine st0 960 rfl (ok (mv (.d (eB (decide (a4 < (0 : Int))))))) ?_
        rcases Bool.eq_false_or_eq_true ((decide (a4 < (0 : Int)))) with h20 | h20
        · replace h := ite_t h h20
          refine stGN 1024 rfl rfl h20 ?_
          refine stGN 1088 rfl rfl h20 ?_
          refine st0 1152 rfl (ok (pick_t h20 (.d (eB true)) _)) ?_
          refine hK17 _ _ ?_
          simp only [n0, n1, n2, n3, n4, n5, n6, n7, n8, n9, n10, n11, n12, n13, n14, n15, n16, n17, n18, n19, reduceIte]
          exact hK5 _ _ _ ⟨_, _, Settled.refl, _, _, ⟨_, h, rfl, rfl⟩, ⟨rfl, ⟨⟨rfl, rfl⟩, ⟨⟨rfl, rfl⟩, ⟨⟨rfl, rfl⟩, ⟨⟨rfl, rfl⟩, ⟨⟨rfl, rfl⟩, ⟨⟨rfl, rfl⟩, ⟨⟨rfl, rfl⟩, trivial⟩⟩⟩⟩⟩⟩⟩, ⟨⟨rfl, rfl⟩, ⟨⟨rfl, rfl⟩, trivial⟩⟩⟩, rfl⟩
        · replace h := ite_f h h20
          refine stG (isF h20) ?_
          refine st0 1024 rfl (ok (mv (.d (eI a4)))) ?_
          refine stG (isF h20) ?_
          refine st0 1088 rfl (ok (gtrI _ (1099511627776 : Int))) ?_
          refine st0 1152 rfl (ok (pick_f h20 _ (.d (eB (decide ((1099511627776 : Int) < a4)))))) ?_
          refine hK17 _ _ ?_
          simp only [n0, n1, n2, n3, n4, n5, n6, n7, n8, n9, n10, n11, n12, n13, n14, n15, n16, n17, n18, n19, reduceIte]
          exact hK5 _ _ _ ⟨_, _, Settled.refl, _, _, ⟨_, h, rfl, rfl⟩, ⟨rfl, ⟨⟨rfl, rfl⟩, ⟨⟨rfl, rfl⟩, ⟨⟨rfl, rfl⟩, ⟨⟨rfl, rfl⟩, ⟨⟨rfl, rfl⟩, ⟨⟨rfl, rfl⟩, ⟨⟨rfl, rfl⟩, trivial⟩⟩⟩⟩⟩⟩⟩, ⟨⟨rfl, rfl⟩, ⟨⟨rfl, rfl⟩, trivial⟩⟩⟩, rfl⟩

/-- passkey/token.Authorize -/
def tokenAuthorizeH : Hints := ⟨[(0, [0, 1]), (1, [4])], []⟩
def tokenAuthorizeRc : RCode :=
  .seq (.region false [⟨some 4, .mv, [.k (.d (.int .u64 0))], none, []⟩] [0, 1]) (.seq (.region false [⟨some 5, .mv, [.t 0], none, []⟩, ⟨some 6, .mv, [.t 1], none, []⟩, ⟨some 7,
  .bslice 1 false 1 [.d (.int .u64 0)] [0], [.t 6], none, []⟩, ⟨some 8, .call 36 true, [.t 7], none, []⟩, ⟨some 9, .call 35 false, [.t 5, .k (.d (.int .i64 12)), .t 8], none, []⟩,
  ⟨some 4, .mv, [.t 9], none, []⟩] [4]) .ret)
def tokenAuthorizeRr : List RR := [.t 4]
theorem tokenAuthorizeC : compFn Tryd.prog 22 tokenAuthorizeH = some (tokenAuthorizeRc, tokenAuthorizeRr, 10) := by kernel_rfl
theorem tokenAuthorizeOK (a0 : BitVec 64) (a1 : BitVec 64) (res : BitVec 64) (h : tokenAuthorize a0 a1 = some res) : CallOK Tryd.prog 22 [.d (eU64 a0), .d (eU64 a1)] [] (.d (eU64 res)) [] := by
  unfold tokenAuthorize at h
  refine callOK tokenAuthorizeC fm rfl ?_
  simp only [initE, initM, nbor, List.map_cons, List.map_nil, Nat.reduceAdd]
  unfold tokenAuthorizeRc
  refine rwp_seq fun K1 hK1 => ?_
  refine rwp_region fun K2 hK2 => ?_
  refine st0 128 rfl (ok (mv (.d (eU64 (0#64))))) ?_
  refine hK2 _ _ ?_
  simp only [n0, n1, n2, n3, n4, n5, n6, n7, n8, n9, n10, n11, n12, n13, n14, n15, n16, n17, n18, n19, reduceIte]
  refine hK1 _ _ _ ?_
  refine rwp_seq fun K3 hK3 => ?_
  refine rwp_region fun K4 hK4 => ?_
  refine st0 192 rfl (ok (mv (.d (eU64 a0)))) ?_
  refine st0 256 rfl (ok (mv (.d (eU64 a1)))) ?_
  refine st1 320 rfl (mem' := [(256, .row true 1 (([a1] : List (BitVec 64)).map eU64))]) (ok (bsl (e := eU64) (ys := ([a1] : List (BitVec 64))) rfl rfl rfl)) rfl ?_
  obtain ⟨y5, h6, h⟩ := bind_inv h
  refine st1 384 rfl (mem' := [(320, .row true 1 (y5.map eU8)), (256, .row false 1 (([a1] : List (BitVec 64)).map eU64))]) (call_ok (v := .ref 320 y5.length 0 y5.length) (u := [(320, .row true 1 (y5.map eU8)), (256, .row false 1 (([a1] : List (BitVec 64)).map eU64))]) (ar_to rfl (to_1 rfl (ds_r (ys := ([a1] : List (BitVec 64))) rfl rfl rfl ds_nil)) ar_nil) rfl (digestWordsOK ([a1] : List (BitVec 64)) y5 h6) rfl) rfl ?_
  obtain ⟨y7, h8, h⟩ := bind_inv h
  refine st0 448 rfl (call_ok (v := .d (eU64 y7)) (u := []) (ar_d (eU64 a0) (ar_d (eI (12 : Int)) (ar_to rfl (to_1 rfl (ds_r (ys := y5) rfl rfl rfl ds_nil)) ar_nil))) rfl (digestMacOK a0 (12 : Int) y5 y7 h8) rfl) ?_
  refine st0 512 rfl (ok (mv (.d (eU64 y7)))) ?_
  refine hK4 _ _ ?_
  simp only [n0, n1, n2, n3, n4, n5, n6, n7, n8, n9, n10, n11, n12, n13, n14, n15, n16, n17, n18, n19, reduceIte]
  refine hK3 _ _ _ ?_
  refine rwp_ret ?_
  obtain rfl := Option.some.inj h
  try simp only [thenK, blockK, reduceIte]
  exact Or.inl (end_ok trivial (rs_t (v := .d (eU64 y7)) rfl rs_nil) (en_d (to_d _) en_nil) ou_nil (by first | exact eok rfl rfl rfl rfl trivial | (refine eok ?_ ?_ ?_ ?_ ?_ <;> first | rfl | exact trivial | simp [retM, Mem.get, PV.renL, PV.ren, Blk.ren, comps, rhoR, rhoM, appN, PV.refsL, PV.refs, keys, nodupB, Blk.refs, allIn, Blk.bor])))

/-- passkey/token.Verify -/
def tokenVerifyH : Hints := ⟨[(0, [1, 2, 3, 4, 5, 6]), (1, [2, 3, 4, 5, 6, 13]), (2, [3, 4, 5, 6, 13, 14]), (3, [71]), (4, [12]), (5, [12])], []⟩
def tokenVerifyRc : RCode :=
  .seq (.region false [⟨some 6, .box, [.t 0], none, []⟩, ⟨some 12, .mv, [.k (.d (.int .i64 0))], none, []⟩] [1, 2, 3, 4, 5, 6]) (.seq (.region false [⟨some 15, .mv, [.t 1], none,
  []⟩, ⟨some 16, .fa 5, [.t 6], none, []⟩, ⟨some 17, .load 1 false, [.t 16], none, []⟩, ⟨some 18, .bin .geq, [.t 15, .t 17], none, []⟩, ⟨some 19, .mv, [.t 18], none, []⟩, ⟨some 20,
  .mv, [.t 1], some (19, true), []⟩, ⟨some 21, .cvt .u64, [.t 20], some (19, true), []⟩, ⟨some 22, .fa 5, [.t 6], some (19, true), []⟩, ⟨some 23, .load 1 false, [.t 22], some (19,
  true), []⟩, ⟨some 24, .cvt .u64, [.t 23], some (19, true), []⟩, ⟨some 25, .bin .sub, [.t 21, .t 24], some (19, true), []⟩, ⟨some 26, .bin .leq, [.t 25, .k (.d (.int .u64 100))],
  some (19, true), []⟩, ⟨some 27, .pick, [.t 19, .t 26, .k (.d (.bool false))], none, []⟩, ⟨some 13, .mv, [.t 27], none, []⟩] [2, 3, 4, 5, 6, 13]) (.seq (.region false [⟨some 28,
  .mv, [.t 2], none, []⟩, ⟨some 29, .bin .geq, [.t 28, .k (.d (.int .i64 1))], none, []⟩, ⟨some 30, .mv, [.t 29], none, []⟩, ⟨some 31, .mv, [.t 2], some (30, true), []⟩, ⟨some 32,
  .bin .leq, [.t 31, .k (.d (.int .i64 7))], some (30, true), []⟩, ⟨some 33, .pick, [.t 30, .t 32, .k (.d (.bool false))], none, []⟩, ⟨some 34, .mv, [.t 33], none, []⟩, ⟨some 35,
  .fa 3, [.t 6], some (34, true), []⟩, ⟨some 36, .load 1 false, [.t 35], some (34, true), []⟩, ⟨some 37, .mv, [.t 2], some (34, true), []⟩, ⟨some 38, .bin .and, [.t 36, .t 37],
  some (34, true), []⟩, ⟨some 39, .mv, [.t 2], some (34, true), []⟩, ⟨some 40, .bin .eql, [.t 38, .t 39], some (34, true), []⟩, ⟨some 41, .pick, [.t 34, .t 40, .k (.d (.bool
  false))], none, []⟩, ⟨some 14, .mv, [.t 41], none, []⟩] [3, 4, 5, 6, 13, 14]) (.seq (.seq (.region false [⟨some 42, .fa 1, [.t 6], none, []⟩, ⟨some 43, .load 1 false, [.t 42],
  none, []⟩, ⟨some 44, .un .not, [.t 43], none, []⟩, ⟨some 45, .mv, [.t 44], none, []⟩, ⟨some 46, .mv, [.t 13], some (45, false), []⟩, ⟨some 47, .un .not, [.t 46], some (45,
  false), []⟩, ⟨some 48, .pick, [.t 45, .k (.d (.bool true)), .t 47], none, []⟩, ⟨some 49, .mv, [.t 48], none, []⟩, ⟨some 50, .mv, [.t 14], some (49, false), []⟩, ⟨some 51, .un
  .not, [.t 50], some (49, false), []⟩, ⟨some 52, .pick, [.t 49, .k (.d (.bool true)), .t 51], none, []⟩, ⟨some 53, .mv, [.t 52], none, []⟩, ⟨some 54, .fa 4, [.t 6], some (53,
  false), []⟩, ⟨some 55, .load 1 false, [.t 54], some (53, false), []⟩, ⟨some 56, .bin .neq, [.t 55, .k (.d (.str ⟨#[]⟩))], some (53, false), []⟩, ⟨some 57, .mv, [.t 56], some (53,
  false), []⟩, ⟨some 58, .fa 4, [.t 6], some (57, true), []⟩, ⟨some 59, .load 1 false, [.t 58], some (57, true), []⟩, ⟨some 60, .mv, [.t 3], some (57, true), []⟩, ⟨some 61, .bin
  .neq, [.t 59, .t 60], some (57, true), []⟩, ⟨some 62, .pick, [.t 57, .t 61, .k (.d (.bool false))], some (53, false), []⟩, ⟨some 63, .pick, [.t 53, .k (.d (.bool true)), .t 62],
  none, []⟩, ⟨some 64, .mv, [.t 63], none, []⟩, ⟨some 65, .mv, [.t 5], some (64, false), []⟩, ⟨some 66, .fa 2, [.t 6], some (64, false), []⟩, ⟨some 67, .load 1 false, [.t 66], some
  (64, false), []⟩, ⟨some 68, .mv, [.t 4], some (64, false), []⟩, ⟨some 69, .call 22 false, [.t 67, .t 68], some (64, false), []⟩, ⟨some 70, .bin .neq, [.t 65, .t 69], some (64,
  false), []⟩, ⟨some 71, .pick, [.t 64, .k (.d (.bool true)), .t 70], none, []⟩] [71]) (.cond (.t 71) (.seq (.region false [⟨some 12, .mv, [.k (.d (.int .i64 29))], none, []⟩]
  [12]) .ret) .skip)) (.seq (.region false [⟨some 12, .mv, [.k (.d (.int .i64 0))], none, []⟩] [12]) .ret))))
def tokenVerifyRr : List RR := [.t 12]
theorem tokenVerifyC : compFn Tryd.prog 20 tokenVerifyH = some (tokenVerifyRc, tokenVerifyRr, 72) := by kernel_rfl
theorem tokenVerifyOK (a0 : TApiToken) (a1 : Int) (a2 : Int) (a3 : List (BitVec 8)) (a4 : BitVec 64) (a5 : BitVec 64) (res : Int) (h : tokenVerify a0 a1 a2 a3 a4 a5 = some res) : CallOK Tryd.prog 20 [.d (eTApiToken a0), .d (eI a1), .d (eI a2), .d (eS a3), .d (eU64 a4), .d (eU64 a5)] [] (.d (eI res)) [] := by
  unfold tokenVerify at h
  refine callOK tokenVerifyC fm rfl ?_
  simp only [initE, initM, nbor, List.map_cons, List.map_nil, Nat.reduceAdd]
  unfold tokenVerifyRc
  refine rwp_seq fun K1 hK1 => ?_
  refine rwp_region fun K2 hK2 => ?_
  refine st1 128 rfl (mem' := [(64, .var .mine [.d (eU64 a0.Secret), .d (eB a0.Active), .d (eU64 a0.Value), .d (eI a0.Permissions), .d (eS a0.RP), .d (eI a0.Since)])]) (ok (bx (ps := [.d (eU64 a0.Secret), .d (eB a0.Active), .d (eU64 a0.Value), .d (eI a0.Permissions), .d (eS a0.RP), .d (eI a0.Since)]) rfl rfl)) rfl ?_
  refine st0 192 rfl (ok (mv (.d (eI (0 : Int))))) ?_
  refine hK2 _ _ ?_
  simp only [n0, n1, n2, n3, n4, n5, n6, n7, n8, n9, n10, n11, n12, n13, n14, n15, n16, n17, n18, n19, reduceIte]
  refine hK1 _ _ _ ?_
  refine rwp_join ([], []) 1152 (fun env mem => ∃ (v3 : Bool), tokenVerifyJ1 a0 a2 a3 a4 a5 v3 = some res ∧ env = [(2, .d (eI a2)), (3, .d (eS a3)), (4, .d (eU64 a4)), (5, .d (eU64 a5)), (6, .ptr 64 0), (13, .d (eB v3))] ∧ mem = [(64, .var .mine [.d (eU64 a0.Secret), .d (eB a0.Active), .d (eU64 a0.Value), .d (eI a0.Permissions), .d (eS a0.RP), .d (eI a0.Since)])]) (fun _ _ hI => ?_) (fun K4 hK4 => ?_)
  · obtain ⟨v3, h, rfl, rfl⟩ := hI
    unfold tokenVerifyJ1 at h
    refine rwp_join ([], []) 2176 (fun env mem => ∃ (v5 : Bool), tokenVerifyJ2 a0 a3 a4 a5 v3 v5 = some res ∧ env = [(3, .d (eS a3)), (4, .d (eU64 a4)), (5, .d (eU64 a5)), (6, .ptr 64 0), (13, .d (eB v3)), (14, .d (eB v5))] ∧ mem = [(64, .var .mine [.d (eU64 a0.Secret), .d (eB a0.Active), .d (eU64 a0.Value), .d (eI a0.Permissions), .d (eS a0.RP), .d (eI a0.Since)])]) (fun _ _ hI => ?_) (fun K6 hK6 => ?_)
    · obtain ⟨v5, h, rfl, rfl⟩ := hI
      unfold tokenVerifyJ2 at h
      refine rwp_seq fun K7 hK7 => ?_
      refine rwp_join ([], []) 4160 (fun env mem => ∃ (v8 : Bool), tokenVerifyJ3 v8 = some res ∧ env = [(71, .d (eB v8))] ∧ mem = []) (fun _ _ hI => ?_) (fun K9 hK9 => ?_)
      · obtain ⟨v8, h, rfl, rfl⟩ := hI
        unfold tokenVerifyJ3 at h
        rcases Bool.eq_false_or_eq_true (v8) with h10 | h10
        · replace h := ite_t h h10
          refine rwp_t (isT h10) ?_
          refine rwp_seq fun K11 hK11 => ?_
          refine rwp_region fun K12 hK12 => ?_
          refine st0 4224 rfl (ok (mv (.d (eI (29 : Int))))) ?_
          refine hK12 _ _ ?_
          simp only [n0, n1, n2, n3, n4, n5, n6, n7, n8, n9, n10, n11, n12, n13, n14, n15, n16, n17, n18, n19, reduceIte]
          refine hK11 _ _ _ ?_
          refine rwp_ret ?_
          obtain rfl := Option.some.inj h
          try simp only [thenK, blockK, reduceIte]
          exact Or.inl (end_ok trivial (rs_t (v := .d (eI (29 : Int))) rfl rs_nil) (en_d (to_d _) en_nil) ou_nil (by first | exact eok rfl rfl rfl rfl trivial | (refine eok ?_ ?_ ?_ ?_ ?_ <;> first | rfl | exact trivial | simp [retM, Mem.get, PV.renL, PV.ren, Blk.ren, comps, rhoR, rhoM, appN, PV.refsL, PV.refs, keys, nodupB, Blk.refs, allIn, Blk.bor])))
        · replace h := ite_f h h10
          refine rwp_f (isF h10) ?_
          refine rwp_skip ?_
          refine hK7 _ _ _ ?_
          refine rwp_seq fun K13 hK13 => ?_
          refine rwp_region fun K14 hK14 => ?_
          refine st0 4224 rfl (ok (mv (.d (eI (0 : Int))))) ?_
          refine hK14 _ _ ?_
          simp only [n0, n1, n2, n3, n4, n5, n6, n7, n8, n9, n10, n11, n12, n13, n14, n15, n16, n17, n18, n19, reduceIte]
          refine hK13 _ _ _ ?_
          refine rwp_ret ?_
          obtain rfl := Option.some.inj h
          try simp only [thenK, blockK, reduceIte]
          exact Or.inl (end_ok trivial (rs_t (v := .d (eI (0 : Int))) rfl rs_nil) (en_d (to_d _) en_nil) ou_nil (by first | exact eok rfl rfl rfl rfl trivial | (refine eok ?_ ?_ ?_ ?_ ?_ <;> first | rfl | exact trivial | simp [retM, Mem.get, PV.renL, PV.ren, Blk.ren, comps, rhoR, rhoM, appN, PV.refsL, PV.refs, keys, nodupB, Blk.refs, allIn, Blk.bor])))
      · refine rwp_region fun K15 hK15 => ?_
        refine st0 2240 rfl (ok (fa_k 1 rfl)) ?_
        refine st0 2304 rfl (ok (ld_v (v := .d (eB a0.Active)) rfl rfl rfl)) ?_
        refine st0 2368 rfl (ok (notB _)) ?_
        refine st0 2432 rfl (ok (mv (.d (eB (!a0.Active))))) ?_
        rcases Bool.eq_false_or_eq_true ((!a0.Active)) with h16 | h16
        · replace h := ite_t h h16
          refine stGN 2496 rfl rfl h16 ?_
          refine stGN 2560 rfl rfl h16 ?_
          refine st0 2624 rfl (ok (pick_t h16 (.d (eB true)) _)) ?_
          refine st0 2688 rfl (ok (mv (.d (eB true)))) ?_
          refine stGN 2752 rfl rfl rfl ?_
          refine stGN 2816 rfl rfl rfl ?_
          refine st0 2880 rfl (ok (pick_t rfl (.d (eB true)) _)) ?_
          refine st0 2944 rfl (ok (mv (.d (eB true)))) ?_
          refine stGN 3008 rfl rfl rfl ?_
          refine stGN 3072 rfl rfl rfl ?_
          refine stGN 3136 rfl rfl rfl ?_
          refine stGN 3200 rfl rfl rfl ?_
          refine stGS 3264 rfl rfl ?_
          refine stGS 3328 rfl rfl ?_
          refine stGS 3392 rfl rfl ?_
          refine stGS 3456 rfl rfl ?_
          refine stGN 3520 rfl rfl rfl ?_
          refine st0 3584 rfl (ok (pick_t rfl (.d (eB true)) _)) ?_
          refine st0 3648 rfl (ok (mv (.d (eB true)))) ?_
          refine stGN 3712 rfl rfl rfl ?_
          refine stGN 3776 rfl rfl rfl ?_
          refine stGN 3840 rfl rfl rfl ?_
          refine stGN 3904 rfl rfl rfl ?_
          refine stGN 3968 rfl rfl rfl ?_
          refine stGN 4032 rfl rfl rfl ?_
          refine st0 4096 rfl (ok (pick_t rfl (.d (eB true)) _)) ?_
          refine hK15 _ _ ?_
          simp only [n0, n1, n2, n3, n4, n5, n6, n7, n8, n9, n10, n11, n12, n13, n14, n15, n16, n17, n18, n19, reduceIte]
          exact hK9 _ _ _ ⟨_, _, Settled.refl, _, _, ⟨_, h, rfl, rfl⟩, ⟨rfl, ⟨⟨rfl, rfl⟩, trivial⟩, trivial⟩, rfl⟩
        · replace h := ite_f h h16
          refine stG (isF h16) ?_
          refine st0 2496 rfl (ok (mv (.d (eB v3)))) ?_
          refine stG (isF h16) ?_
          refine st0 2560 rfl (ok (notB _)) ?_
          refine st0 2624 rfl (ok (pick_f h16 _ (.d (eB (!v3))))) ?_
          refine st0 2688 rfl (ok (mv (.d (eB (!v3))))) ?_
          rcases Bool.eq_false_or_eq_true ((!v3)) with h17 | h17
          · replace h := ite_t h h17
            refine stGN 2752 rfl rfl h17 ?_
            refine stGN 2816 rfl rfl h17 ?_
            refine st0 2880 rfl (ok (pick_t h17 (.d (eB true)) _)) ?_
            refine st0 2944 rfl (ok (mv (.d (eB true)))) ?_
            refine stGN 3008 rfl rfl rfl ?_
            refine stGN 3072 rfl rfl rfl ?_
            refine stGN 3136 rfl rfl rfl ?_
            refine stGN 3200 rfl rfl rfl ?_
            refine stGS 3264 rfl rfl ?_
            refine stGS 3328 rfl rfl ?_
            refine stGS 3392 rfl rfl ?_
            refine stGS 3456 rfl rfl ?_
            refine stGN 3520 rfl rfl rfl ?_
            refine st0 3584 rfl (ok (pick_t rfl (.d (eB true)) _)) ?_
            refine st0 3648 rfl (ok (mv (.d (eB true)))) ?_
            refine stGN 3712 rfl rfl rfl ?_
            refine stGN 3776 rfl rfl rfl ?_
            refine stGN 3840 rfl rfl rfl ?_
            refine stGN 3904 rfl rfl rfl ?_
            refine stGN 3968 rfl rfl rfl ?_
            refine stGN 4032 rfl rfl rfl ?_
            refine st0 4096 rfl (ok (pick_t rfl (.d (eB true)) _)) ?_
            refine hK15 _ _ ?_
            simp only [n0, n1, n2, n3, n4, n5, n6, n7, n8, n9, n10, n11, n12, n13, n14, n15, n16, n17, n18, n19, reduceIte]
            exact hK9 _ _ _ ⟨_, _, Settled.refl, _, _, ⟨_, h, rfl, rfl⟩, ⟨rfl, ⟨⟨rfl, rfl⟩, trivial⟩, trivial⟩, rfl⟩
          · replace h := ite_f h h17
            refine stG (isF h17) ?_
            refine st0 2752 rfl (ok (mv (.d (eB v5)))) ?_
            refine stG (isF h17) ?_
            refine st0 2816 rfl (ok (notB _)) ?_
            refine st0 2880 rfl (ok (pick_f h17 _ (.d (eB (!v5))))) ?_
            refine st0 2944 rfl (ok (mv (.d (eB (!v5))))) ?_
            rcases Bool.eq_false_or_eq_true ((!v5)) with h18 | h18
            · replace h := ite_t h h18
              refine stGN 3008 rfl rfl h18 ?_
              refine stGN 3072 rfl rfl h18 ?_
              refine stGN 3136 rfl rfl h18 ?_
              refine stGN 3200 rfl rfl h18 ?_
              refine stGS 3264 rfl rfl ?_
              refine stGS 3328 rfl rfl ?_
              refine stGS 3392 rfl rfl ?_
              refine stGS 3456 rfl rfl ?_
              refine stGN 3520 rfl rfl h18 ?_
              refine st0 3584 rfl (ok (pick_t h18 (.d (eB true)) _)) ?_
              refine st0 3648 rfl (ok (mv (.d (eB true)))) ?_
              refine stGN 3712 rfl rfl rfl ?_
              refine stGN 3776 rfl rfl rfl ?_
              refine stGN 3840 rfl rfl rfl ?_
              refine stGN 3904 rfl rfl rfl ?_
              refine stGN 3968 rfl rfl rfl ?_
              refine stGN 4032 rfl rfl rfl ?_
              refine st0 4096 rfl (ok (pick_t rfl (.d (eB true)) _)) ?_
              refine hK15 _ _ ?_
              simp only [n0, n1, n2, n3, n4, n5, n6, n7, n8, n9, n10, n11, n12, n13, n14, n15, n16, n17, n18, n19, reduceIte]
              exact hK9 _ _ _ ⟨_, _, Settled.refl, _, _, ⟨_, h, rfl, rfl⟩, ⟨rfl, ⟨⟨rfl, rfl⟩, trivial⟩, trivial⟩, rfl⟩
            · replace h := ite_f h h18
              refine stG (isF h18) ?_
              refine st0 3008 rfl (ok (fa_k 4 rfl)) ?_
              refine stG (isF h18) ?_
              refine st0 3072 rfl (ok (ld_v (v := .d (eS a0.RP)) rfl rfl rfl)) ?_
              refine stG (isF h18) ?_
              refine st0 3136 rfl (ok (neqS a0.RP ([] : List (BitVec 8)))) ?_
              refine stG (isF h18) ?_
              refine st0 3200 rfl (ok (mv (.d (eB (!(a0.RP == ([] : List (BitVec 8)))))))) ?_
              rcases Bool.eq_false_or_eq_true ((!(a0.RP == ([] : List (BitVec 8))))) with h19 | h19
              · replace h := ite_t h h19
                refine stG (isT h19) ?_
                refine st0 3264 rfl (ok (fa_k 4 rfl)) ?_
                refine stG (isT h19) ?_
                refine st0 3328 rfl (ok (ld_v (v := .d (eS a0.RP)) rfl rfl rfl)) ?_
                refine stG (isT h19) ?_
                refine st0 3392 rfl (ok (mv (.d (eS a3)))) ?_
                refine stG (isT h19) ?_
                refine st0 3456 rfl (ok (neqS a0.RP a3)) ?_
                refine stG (isF h18) ?_
                refine st0 3520 rfl (ok (pick_t h19 (.d (eB (!(a0.RP == a3)))) _)) ?_
                refine st0 3584 rfl (ok (pick_f h18 _ (.d (eB (!(a0.RP == a3)))))) ?_
                refine st0 3648 rfl (ok (mv (.d (eB (!(a0.RP == a3)))))) ?_
                rcases Bool.eq_false_or_eq_true ((!(a0.RP == a3))) with h20 | h20
                · replace h := ite_t h h20
                  refine stGN 3712 rfl rfl h20 ?_
                  refine stGN 3776 rfl rfl h20 ?_
                  refine stGN 3840 rfl rfl h20 ?_
                  refine stGN 3904 rfl rfl h20 ?_
                  refine stGN 3968 rfl rfl h20 ?_
                  refine stGN 4032 rfl rfl h20 ?_
                  refine st0 4096 rfl (ok (pick_t h20 (.d (eB true)) _)) ?_
                  refine hK15 _ _ ?_
                  simp only [n0, n1, n2, n3, n4, n5, n6, n7, n8, n9, n10, n11, n12, n13, n14, n15, n16, n17, n18, n19, reduceIte]
                  exact hK9 _ _ _ ⟨_, _, Settled.refl, _, _, ⟨_, h, rfl, rfl⟩, ⟨rfl, ⟨⟨rfl, rfl⟩, trivial⟩, trivial⟩, rfl⟩
                · replace h := ite_f h h20
                  refine stG (isF h20) ?_
                  refine st0 3712 rfl (ok (mv (.d (eU64 a5)))) ?_
                  refine stG (isF h20) ?_
                  refine st0 3776 rfl (ok (fa_k 2 rfl)) ?_
                  refine stG (isF h20) ?_
                  refine st0 3840 rfl (ok (ld_v (v := .d (eU64 a0.Value)) rfl rfl rfl)) ?_
                  refine stG (isF h20) ?_
                  refine st0 3904 rfl (ok (mv (.d (eU64 a4)))) ?_
                  refine stG (isF h20) ?_
                  obtain ⟨y21, h22, h⟩ := bind_inv h
                  refine st0 3968 rfl (call_ok (v := .d (eU64 y21)) (u := []) (ar_d (eU64 a0.Value) (ar_d (eU64 a4) ar_nil)) rfl (tokenAuthorizeOK a0.Value a4 y21 h22) rfl) ?_
                  refine stG (isF h20) ?_
                  refine st0 4032 rfl (ok (neq64 _ _)) ?_
                  refine st0 4096 rfl (ok (pick_f h20 _ (.d (eB (a5 != y21))))) ?_
                  refine hK15 _ _ ?_
                  simp only [n0, n1, n2, n3, n4, n5, n6, n7, n8, n9, n10, n11, n12, n13, n14, n15, n16, n17, n18, n19, reduceIte]
                  exact hK9 _ _ _ ⟨_, _, Settled.refl, _, _, ⟨_, h, rfl, rfl⟩, ⟨rfl, ⟨⟨rfl, rfl⟩, trivial⟩, trivial⟩, rfl⟩
              · replace h := ite_f h h19
                refine stGN 3264 rfl rfl h19 ?_
                refine stGN 3328 rfl rfl h19 ?_
                refine stGN 3392 rfl rfl h19 ?_
                refine stGN 3456 rfl rfl h19 ?_
                refine stG (isF h18) ?_
                refine st0 3520 rfl (ok (pick_f h19 _ (.d (eB false)))) ?_
                refine st0 3584 rfl (ok (pick_f h18 _ (.d (eB false)))) ?_
                refine st0 3648 rfl (ok (mv (.d (eB false)))) ?_
                refine stG rfl ?_
                refine st0 3712 rfl (ok (mv (.d (eU64 a5)))) ?_
                refine stG rfl ?_
                refine st0 3776 rfl (ok (fa_k 2 rfl)) ?_
                refine stG rfl ?_
                refine st0 3840 rfl (ok (ld_v (v := .d (eU64 a0.Value)) rfl rfl rfl)) ?_
                refine stG rfl ?_
                refine st0 3904 rfl (ok (mv (.d (eU64 a4)))) ?_
                refine stG rfl ?_
                obtain ⟨y23, h24, h⟩ := bind_inv h
                refine st0 3968 rfl (call_ok (v := .d (eU64 y23)) (u := []) (ar_d (eU64 a0.Value) (ar_d (eU64 a4) ar_nil)) rfl (tokenAuthorizeOK a0.Value a4 y23 h24) rfl) ?_
                refine stG rfl ?_
                refine st0 4032 rfl (ok (neq64 _ _)) ?_
                refine st0 4096 rfl (ok (pick_f rfl _ (.d (eB (a5 != y23))))) ?_
                refine hK15 _ _ ?_
                simp only [n0, n1, n2, n3, n4, n5, n6, n7, n8, n9, n10, n11, n12, n13, n14, n15, n16, n17, n18, n19, reduceIte]
                exact hK9 _ _ _ ⟨_, _, Settled.refl, _, _, ⟨_, h, rfl, rfl⟩, ⟨rfl, ⟨⟨rfl, rfl⟩, trivial⟩, trivial⟩, rfl⟩
    · refine rwp_region fun K25 hK25 => ?_
      refine st0 1216 rfl (ok (mv (.d (eI a2)))) ?_
      refine st0 1280 rfl (ok (geqI _ (1 : Int))) ?_
      refine st0 1344 rfl (ok (mv (.d (eB (decide ((1 : Int) ≤ a2)))))) ?_
      rcases Bool.eq_false_or_eq_true ((decide ((1 : Int) ≤ a2))) with h26 | h26
      · replace h := ite_t h h26
        refine stG (isT h26) ?_
        refine st0 1408 rfl (ok (mv (.d (eI a2)))) ?_
        refine stG (isT h26) ?_
        refine st0 1472 rfl (ok (leqI _ (7 : Int))) ?_
        refine st0 1536 rfl (ok (pick_t h26 (.d (eB (decide (a2 ≤ (7 : Int))))) _)) ?_
        refine st0 1600 rfl (ok (mv (.d (eB (decide (a2 ≤ (7 : Int))))))) ?_
        rcases Bool.eq_false_or_eq_true ((decide (a2 ≤ (7 : Int)))) with h27 | h27
        · replace h := ite_t h h27
          refine stG (isT h27) ?_
          refine st0 1664 rfl (ok (fa_k 3 rfl)) ?_
          refine stG (isT h27) ?_
          refine st0 1728 rfl (ok (ld_v (v := .d (eI a0.Permissions)) rfl rfl rfl)) ?_
          refine stG (isT h27) ?_
          refine st0 1792 rfl (ok (mv (.d (eI a2)))) ?_
          refine stG (isT h27) ?_
          refine st0 1856 rfl (ok (andI _ _)) ?_
          refine stG (isT h27) ?_
          refine st0 1920 rfl (ok (mv (.d (eI a2)))) ?_
          refine stG (isT h27) ?_
          refine st0 1984 rfl (ok (eqlI _ _)) ?_
          refine st0 2048 rfl (ok (pick_t h27 (.d (eB ((ibits .and .i64 a0.Permissions a2) == a2))) _)) ?_
          refine st0 2112 rfl (ok (mv (.d (eB ((ibits .and .i64 a0.Permissions a2) == a2))))) ?_
          refine hK25 _ _ ?_
          simp only [n0, n1, n2, n3, n4, n5, n6, n7, n8, n9, n10, n11, n12, n13, n14, n15, n16, n17, n18, n19, reduceIte]
          exact hK6 _ _ _ ⟨_, _, Settled.refl, _, _, ⟨_, h, rfl, rfl⟩, ⟨rfl, ⟨⟨rfl, rfl⟩, ⟨⟨rfl, rfl⟩, ⟨⟨rfl, rfl⟩, ⟨⟨rfl, rfl⟩, ⟨⟨rfl, rfl⟩, ⟨⟨rfl, rfl⟩, trivial⟩⟩⟩⟩⟩⟩, ⟨⟨rfl, rfl⟩, trivial⟩⟩, rfl⟩
        · replace h := ite_f h h27
          refine stGN 1664 rfl rfl h27 ?_
          refine stGN 1728 rfl rfl h27 ?_
          refine stGN 1792 rfl rfl h27 ?_
          refine stGN 1856 rfl rfl h27 ?_
          refine stGN 1920 rfl rfl h27 ?_
          refine stGN 1984 rfl rfl h27 ?_
          refine st0 2048 rfl (ok (pick_f h27 _ (.d (eB false)))) ?_
          refine st0 2112 rfl (ok (mv (.d (eB false)))) ?_
          refine hK25 _ _ ?_
          simp only [n0, n1, n2, n3, n4, n5, n6, n7, n8, n9, n10, n11, n12, n13, n14, n15, n16, n17, n18, n19, reduceIte]
          exact hK6 _ _ _ ⟨_, _, Settled.refl, _, _, ⟨_, h, rfl, rfl⟩, ⟨rfl, ⟨⟨rfl, rfl⟩, ⟨⟨rfl, rfl⟩, ⟨⟨rfl, rfl⟩, ⟨⟨rfl, rfl⟩, ⟨⟨rfl, rfl⟩, ⟨⟨rfl, rfl⟩, trivial⟩⟩⟩⟩⟩⟩, ⟨⟨rfl, rfl⟩, trivial⟩⟩, rfl⟩
      · replace h := ite_f h h26
        refine stGN 1408 rfl rfl h26 ?_
        refine stGN 1472 rfl rfl h26 ?_
        refine st0 1536 rfl (ok (pick_f h26 _ (.d (eB false)))) ?_
        refine st0 1600 rfl (ok (mv (.d (eB false)))) ?_
        refine stGN 1664 rfl rfl rfl ?_
        refine stGN 1728 rfl rfl rfl ?_
        refine stGN 1792 rfl rfl rfl ?_
        refine stGN 1856 rfl rfl rfl ?_
        refine stGN 1920 rfl rfl rfl ?_
        refine stGN 1984 rfl rfl rfl ?_
        refine st0 2048 rfl (ok (pick_f rfl _ (.d (eB false)))) ?_
        refine st0 2112 rfl (ok (mv (.d (eB false)))) ?_
        refine hK25 _ _ ?_
        simp only [n0, n1, n2, n3, n4, n5, n6, n7, n8, n9, n10, n11, n12, n13, n14, n15, n16, n17, n18, n19, reduceIte]
        exact hK6 _ _ _ ⟨_, _, Settled.refl, _, _, ⟨_, h, rfl, rfl⟩, ⟨rfl, ⟨⟨rfl, rfl⟩, ⟨⟨rfl, rfl⟩, ⟨⟨rfl, rfl⟩, ⟨⟨rfl, rfl⟩, ⟨⟨rfl, rfl⟩, ⟨⟨rfl, rfl⟩, trivial⟩⟩⟩⟩⟩⟩, ⟨⟨rfl, rfl⟩, trivial⟩⟩, rfl⟩
  · refine rwp_region fun K28 hK28 => ?_
    refine st0 256 rfl (ok (mv (.d (eI a1)))) ?_
    refine st0 320 rfl (ok (fa_k 5 rfl)) ?_
    refine st0 384 rfl (ok (ld_v (v := .d (eI a0.Since)) rfl rfl rfl)) ?_
    refine st0 448 rfl (ok (geqI _ _)) ?_
    refine st0 512 rfl (ok (mv (.d (eB (decide (a0.Since ≤ a1)))))) ?_
    rcases Bool.eq_false_or_eq_true ((decide (a0.Since ≤ a1))) with h29 | h29
    · replace h := ite_t h h29
      refine stG (isT h29) ?_
      refine st0 576 rfl (ok (mv (.d (eI a1)))) ?_
      refine stG (isT h29) ?_
      refine st0 640 rfl (ok (ofI64 _ a1)) ?_
      refine stG (isT h29) ?_
      refine st0 704 rfl (ok (fa_k 5 rfl)) ?_
      refine stG (isT h29) ?_
      refine st0 768 rfl (ok (ld_v (v := .d (eI a0.Since)) rfl rfl rfl)) ?_
      refine stG (isT h29) ?_
      refine st0 832 rfl (ok (ofI64 _ a0.Since)) ?_
      refine stG (isT h29) ?_
      refine st0 896 rfl (ok (sub64 _ _)) ?_
      refine stG (isT h29) ?_
      refine st0 960 rfl (ok (leq64 _ (100#64))) ?_
      refine st0 1024 rfl (ok (pick_t h29 (.d (eB (decide (((BitVec.ofInt 64 a1) - (BitVec.ofInt 64 a0.Since)).toNat ≤ (100#64).toNat)))) _)) ?_
      refine st0 1088 rfl (ok (mv (.d (eB (decide (((BitVec.ofInt 64 a1) - (BitVec.ofInt 64 a0.Since)).toNat ≤ (100#64).toNat)))))) ?_
      refine hK28 _ _ ?_
      simp only [n0, n1, n2, n3, n4, n5, n6, n7, n8, n9, n10, n11, n12, n13, n14, n15, n16, n17, n18, n19, reduceIte]
      exact hK4 _ _ _ ⟨_, _, Settled.refl, _, _, ⟨_, h, rfl, rfl⟩, ⟨rfl, ⟨⟨rfl, rfl⟩, ⟨⟨rfl, rfl⟩, ⟨⟨rfl, rfl⟩, ⟨⟨rfl, rfl⟩, ⟨⟨rfl, rfl⟩, ⟨⟨rfl, rfl⟩, trivial⟩⟩⟩⟩⟩⟩, ⟨⟨rfl, rfl⟩, trivial⟩⟩, rfl⟩
    · replace h := ite_f h h29
      refine stGN 576 rfl rfl h29 ?_
      refine stGN 640 rfl rfl h29 ?_
      refine stGN 704 rfl rfl h29 ?_
      refine stGN 768 rfl rfl h29 ?_
      refine stGN 832 rfl rfl h29 ?_
      refine stGN 896 rfl rfl h29 ?_
      refine stGN 960 rfl rfl h29 ?_
      refine st0 1024 rfl (ok (pick_f h29 _ (.d (eB false)))) ?_
      refine st0 1088 rfl (ok (mv (.d (eB false)))) ?_
      refine hK28 _ _ ?_
      simp only [n0, n1, n2, n3, n4, n5, n6, n7, n8, n9, n10, n11, n12, n13, n14, n15, n16, n17, n18, n19, reduceIte]
      exact hK4 _ _ _ ⟨_, _, Settled.refl, _, _, ⟨_, h, rfl, rfl⟩, ⟨rfl, ⟨⟨rfl, rfl⟩, ⟨⟨rfl, rfl⟩, ⟨⟨rfl, rfl⟩, ⟨⟨rfl, rfl⟩, ⟨⟨rfl, rfl⟩, ⟨⟨rfl, rfl⟩, trivial⟩⟩⟩⟩⟩⟩, ⟨⟨rfl, rfl⟩, trivial⟩⟩, rfl⟩

end Go.Proofs.Ty
