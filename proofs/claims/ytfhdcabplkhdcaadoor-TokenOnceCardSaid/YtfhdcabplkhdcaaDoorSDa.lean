/- Each Go function comes to what its plain function says. PRINTED by a program of this session (ty.py). -/
import Derived.Test.YtfhdcabplkhdcaaDoorS8
set_option linter.unusedVariables false
set_option linter.unusedSimpArgs false
set_option maxHeartbeats 4000000
set_option maxRecDepth 10000
namespace Go.Proofs.Ty
open Go Go.RW Go.Proofs
open Go.RW renaming thenK → n0, blockK → n1, keepE → n2, updM → n3, envE → n4
open Go.RW.Mem renaming get → n5
open List renaming filter_cons → n6, filter_nil → n7, nil_append → n8, cons_append → n9, map_cons → n10, map_nil → n11, length_cons → n12, length_nil → n13
open Option renaming isNone_none → n14, isNone_some → n15
open Bool renaming false_eq_true → n16
open Nat renaming reduceEqDiff → n17, reduceAdd → n18, reduceMul → n19
/-- passkey/token.Use -/
def tokenUseH : Hints := ⟨[(0, [1, 2, 4]), (1, [1, 2, 4, 10]), (2, [4]), (3, [2, 4]), (4, [2, 4, 19]), (5, [4]), (6, [4])], []⟩
def tokenUseRc : RCode :=
  .seq (.region false [⟨some 2, .box, [.t 0], none, []⟩, ⟨some 4, .alloc [.d (.int .u64 0), .d (.bool false), .d (.int .u64 0), .d (.int .i64 0), .d (.str ⟨#[]⟩), .d (.int .i64 0)],
  [], none, []⟩] [1, 2, 4]) (.seq (.seq (.region false [⟨some 5, .mv, [.t 1], none, []⟩, ⟨some 6, .bin .lss, [.t 5, .k (.d (.int .i64 0))], none, []⟩, ⟨some 7, .mv, [.t 6], none,
  []⟩, ⟨some 8, .mv, [.t 1], some (7, false), []⟩, ⟨some 9, .bin .gtr, [.t 8, .k (.d (.int .i64 7))], some (7, false), []⟩, ⟨some 10, .pick, [.t 7, .k (.d (.bool true)), .t 9],
  none, []⟩] [1, 2, 4, 10]) (.cond (.t 10) (.seq (.region false [⟨some 11, .load 6 true, [.t 2], none, []⟩, ⟨none, .store 6, [.t 4, .t 11], none, []⟩] [4]) .ret) .skip)) (.seq
  (.region false [⟨some 12, .fa 3, [.t 2], none, []⟩, ⟨some 13, .load 1 false, [.t 12], none, []⟩, ⟨some 14, .mv, [.t 1], none, []⟩, ⟨some 15, .bin .andNot, [.t 13, .t 14], none,
  []⟩, ⟨some 16, .fa 3, [.t 2], none, []⟩, ⟨none, .store 1, [.t 16, .t 15], none, []⟩] [2, 4]) (.seq (.seq (.region false [⟨some 17, .fa 3, [.t 2], none, []⟩, ⟨some 18, .load 1
  false, [.t 17], none, []⟩, ⟨some 19, .bin .eql, [.t 18, .k (.d (.int .i64 0))], none, []⟩] [2, 4, 19]) (.cond (.t 19) (.seq (.region false [⟨some 20, .fa 0, [.t 2], none, []⟩,
  ⟨some 21, .load 1 false, [.t 20], none, []⟩, ⟨some 22, .call 17 false, [.t 21], none, []⟩, ⟨none, .store 6, [.t 4, .t 22], none, []⟩] [4]) .ret) .skip)) (.seq (.region false
  [⟨some 23, .load 6 true, [.t 2], none, []⟩, ⟨none, .store 6, [.t 4, .t 23], none, []⟩] [4]) .ret))))
def tokenUseRr : List RR := [.c 4 6 true]
theorem tokenUseC : compFn Tryd.prog 23 tokenUseH = some (tokenUseRc, tokenUseRr, 24) := by kernel_rfl
theorem tokenUseOK (a0 : TApiToken) (a1 : Int) (res : TApiToken) (h : tokenUse a0 a1 = some res) : CallOK Tryd.prog 23 [.d (eTApiToken a0), .d (eI a1)] [] (.d (eTApiToken res)) [] := by
  unfold tokenUse at h
  refine callOK tokenUseC fm rfl ?_
  simp only [initE, initM, nbor, List.map_cons, List.map_nil, Nat.reduceAdd]
  unfold tokenUseRc
  refine rwp_seq fun K1 hK1 => ?_
  refine rwp_region fun K2 hK2 => ?_
  refine st1 128 rfl (mem' := [(64, .var .mine [.d (eU64 a0.Secret), .d (eB a0.Active), .d (eU64 a0.Value), .d (eI a0.Permissions), .d (eS a0.RP), .d (eI a0.Since)])]) (ok (bx (ps := [.d (eU64 a0.Secret), .d (eB a0.Active), .d (eU64 a0.Value), .d (eI a0.Permissions), .d (eS a0.RP), .d (eI a0.Since)]) rfl rfl)) rfl ?_
  refine st1 192 rfl (mem' := [(128, .var .mine [.d (eU64 (0#64)), .d (eB false), .d (eU64 (0#64)), .d (eI (0 : Int)), .d (eS ([] : List (BitVec 8))), .d (eI (0 : Int))]), (64, .var .mine [.d (eU64 a0.Secret), .d (eB a0.Active), .d (eU64 a0.Value), .d (eI a0.Permissions), .d (eS a0.RP), .d (eI a0.Since)])]) (ok (alc (zs := [.d (eU64 (0#64)), .d (eB false), .d (eU64 (0#64)), .d (eI (0 : Int)), .d (eS ([] : List (BitVec 8))), .d (eI (0 : Int))]))) rfl ?_
  refine hK2 _ _ ?_
  simp only [n0, n1, n2, n3, n4, n5, n6, n7, n8, n9, n10, n11, n12, n13, n14, n15, n16, n17, n18, n19, reduceIte]
  refine hK1 _ _ _ ?_
  refine rwp_seq fun K3 hK3 => ?_
  refine rwp_join ([], []) 640 (fun env mem => ∃ (v4 : Bool), tokenUseJ1 a0 a1 v4 = some res ∧ env = [(1, .d (eI a1)), (2, .ptr 64 0), (4, .ptr 128 0), (10, .d (eB v4))] ∧ mem = [(64, .var .mine [.d (eU64 a0.Secret), .d (eB a0.Active), .d (eU64 a0.Value), .d (eI a0.Permissions), .d (eS a0.RP), .d (eI a0.Since)]), (128, .var .mine [.d (eU64 (0#64)), .d (eB false), .d (eU64 (0#64)), .d (eI (0 : Int)), .d (eS ([] : List (BitVec 8))), .d (eI (0 : Int))])]) (fun _ _ hI => ?_) (fun K5 hK5 => ?_)
  · obtain ⟨v4, h, rfl, rfl⟩ := hI
    unfold tokenUseJ1 at h
    rcases Bool.eq_false_or_eq_true (v4) with h6 | h6
    · replace h := ite_t h h6
      refine rwp_t (isT h6) ?_
      refine rwp_seq fun K7 hK7 => ?_
      refine rwp_region fun K8 hK8 => ?_
      refine st0 704 rfl (ok (ld_v (v := .d (.agg [eU64 a0.Secret, eB a0.Active, eU64 a0.Value, eI a0.Permissions, eS a0.RP, eI a0.Since])) rfl rfl rfl)) ?_
      refine stn 768 rfl (mem' := [(128, .var .mine [.d (eU64 a0.Secret), .d (eB a0.Active), .d (eU64 a0.Value), .d (eI a0.Permissions), .d (eS a0.RP), .d (eI a0.Since)]), (64, .var .mine [.d (eU64 a0.Secret), .d (eB a0.Active), .d (eU64 a0.Value), .d (eI a0.Permissions), .d (eS a0.RP), .d (eI a0.Since)])]) (ok (sto_v (ps' := [.d (eU64 a0.Secret), .d (eB a0.Active), .d (eU64 a0.Value), .d (eI a0.Permissions), .d (eS a0.RP), .d (eI a0.Since)]) rfl rfl rfl rfl)) rfl ?_
      refine hK8 _ _ ?_
      simp only [n0, n1, n2, n3, n4, n5, n6, n7, n8, n9, n10, n11, n12, n13, n14, n15, n16, n17, n18, n19, reduceIte]
      refine hK7 _ _ _ ?_
      refine rwp_ret ?_
      obtain rfl := Option.some.inj h
      try simp only [thenK, blockK, reduceIte]
      exact Or.inl (end_ok trivial (rs_c (id := 128) (off := 0) (v := .d (.agg [eU64 a0.Secret, eB a0.Active, eU64 a0.Value, eI a0.Permissions, eS a0.RP, eI a0.Since])) rfl rfl rfl rfl rs_nil) (en_d (to_d _) en_nil) ou_nil (by first | exact eok rfl rfl rfl rfl trivial | (refine eok ?_ ?_ ?_ ?_ ?_ <;> first | rfl | exact trivial | simp [retM, Mem.get, PV.renL, PV.ren, Blk.ren, comps, rhoR, rhoM, appN, PV.refsL, PV.refs, keys, nodupB, Blk.refs, allIn, Blk.bor])))
    · replace h := ite_f h h6
      refine rwp_f (isF h6) ?_
      refine rwp_skip ?_
      refine hK3 _ _ _ ?_
      refine rwp_seq fun K9 hK9 => ?_
      refine rwp_region fun K10 hK10 => ?_
      refine st0 704 rfl (ok (fa_k 3 rfl)) ?_
      refine st0 768 rfl (ok (ld_v (v := .d (eI a0.Permissions)) rfl rfl rfl)) ?_
      refine st0 832 rfl (ok (mv (.d (eI a1)))) ?_
      refine st0 896 rfl (ok (andNotI _ _)) ?_
      refine st0 960 rfl (ok (fa_k 3 rfl)) ?_
      refine stn 1024 rfl (mem' := [(64, .var .mine [.d (eU64 a0.Secret), .d (eB a0.Active), .d (eU64 a0.Value), .d (eI (ibits .andNot .i64 a0.Permissions a1)), .d (eS a0.RP), .d (eI a0.Since)]), (128, .var .mine [.d (eU64 (0#64)), .d (eB false), .d (eU64 (0#64)), .d (eI (0 : Int)), .d (eS ([] : List (BitVec 8))), .d (eI (0 : Int))])]) (ok (sto_v (ps' := [.d (eU64 a0.Secret), .d (eB a0.Active), .d (eU64 a0.Value), .d (eI (ibits .andNot .i64 a0.Permissions a1)), .d (eS a0.RP), .d (eI a0.Since)]) rfl rfl rfl rfl)) rfl ?_
      refine hK10 _ _ ?_
      simp only [n0, n1, n2, n3, n4, n5, n6, n7, n8, n9, n10, n11, n12, n13, n14, n15, n16, n17, n18, n19, reduceIte]
      refine hK9 _ _ _ ?_
      refine rwp_seq fun K11 hK11 => ?_
      refine rwp_seq fun K12 hK12 => ?_
      refine rwp_region fun K13 hK13 => ?_
      refine st0 1088 rfl (ok (fa_k 3 rfl)) ?_
      refine st0 1152 rfl (ok (ld_v (v := .d (eI (ibits .andNot .i64 a0.Permissions a1))) rfl rfl rfl)) ?_
      refine st0 1216 rfl (ok (eqlI _ (0 : Int))) ?_
      refine hK13 _ _ ?_
      simp only [n0, n1, n2, n3, n4, n5, n6, n7, n8, n9, n10, n11, n12, n13, n14, n15, n16, n17, n18, n19, reduceIte]
      refine hK12 _ _ _ ?_
      rcases Bool.eq_false_or_eq_true (((ibits .andNot .i64 a0.Permissions a1) == (0 : Int))) with h14 | h14
      · replace h := ite_t h h14
        refine rwp_t (isT h14) ?_
        refine rwp_seq fun K15 hK15 => ?_
        refine rwp_region fun K16 hK16 => ?_
        refine st0 1280 rfl (ok (fa_k 0 rfl)) ?_
        refine st0 1344 rfl (ok (ld_v (v := .d (eU64 a0.Secret)) rfl rfl rfl)) ?_
        obtain ⟨y17, h18, h⟩ := bind_inv h
        refine st0 1408 rfl (call_ok (v := .d (eTApiToken y17)) (u := []) (ar_d (eU64 a0.Secret) ar_nil) rfl (tokenStartOK a0.Secret y17 h18) rfl) ?_
        refine stn 1472 rfl (mem' := [(128, .var .mine [.d (eU64 y17.Secret), .d (eB y17.Active), .d (eU64 y17.Value), .d (eI y17.Permissions), .d (eS y17.RP), .d (eI y17.Since)]), (64, .var .mine [.d (eU64 a0.Secret), .d (eB a0.Active), .d (eU64 a0.Value), .d (eI (ibits .andNot .i64 a0.Permissions a1)), .d (eS a0.RP), .d (eI a0.Since)])]) (ok (sto_v (ps' := [.d (eU64 y17.Secret), .d (eB y17.Active), .d (eU64 y17.Value), .d (eI y17.Permissions), .d (eS y17.RP), .d (eI y17.Since)]) rfl rfl rfl rfl)) rfl ?_
        refine hK16 _ _ ?_
        simp only [n0, n1, n2, n3, n4, n5, n6, n7, n8, n9, n10, n11, n12, n13, n14, n15, n16, n17, n18, n19, reduceIte]
        refine hK15 _ _ _ ?_
        refine rwp_ret ?_
        obtain rfl := Option.some.inj h
        try simp only [thenK, blockK, reduceIte]
        exact Or.inl (end_ok trivial (rs_c (id := 128) (off := 0) (v := .d (.agg [eU64 y17.Secret, eB y17.Active, eU64 y17.Value, eI y17.Permissions, eS y17.RP, eI y17.Since])) rfl rfl rfl rfl rs_nil) (en_d (to_d _) en_nil) ou_nil (by first | exact eok rfl rfl rfl rfl trivial | (refine eok ?_ ?_ ?_ ?_ ?_ <;> first | rfl | exact trivial | simp [retM, Mem.get, PV.renL, PV.ren, Blk.ren, comps, rhoR, rhoM, appN, PV.refsL, PV.refs, keys, nodupB, Blk.refs, allIn, Blk.bor])))
      · replace h := ite_f h h14
        refine rwp_f (isF h14) ?_
        refine rwp_skip ?_
        refine hK11 _ _ _ ?_
        refine rwp_seq fun K19 hK19 => ?_
        refine rwp_region fun K20 hK20 => ?_
        refine st0 1280 rfl (ok (ld_v (v := .d (.agg [eU64 a0.Secret, eB a0.Active, eU64 a0.Value, eI (ibits .andNot .i64 a0.Permissions a1), eS a0.RP, eI a0.Since])) rfl rfl rfl)) ?_
        refine stn 1344 rfl (mem' := [(128, .var .mine [.d (eU64 a0.Secret), .d (eB a0.Active), .d (eU64 a0.Value), .d (eI (ibits .andNot .i64 a0.Permissions a1)), .d (eS a0.RP), .d (eI a0.Since)]), (64, .var .mine [.d (eU64 a0.Secret), .d (eB a0.Active), .d (eU64 a0.Value), .d (eI (ibits .andNot .i64 a0.Permissions a1)), .d (eS a0.RP), .d (eI a0.Since)])]) (ok (sto_v (ps' := [.d (eU64 a0.Secret), .d (eB a0.Active), .d (eU64 a0.Value), .d (eI (ibits .andNot .i64 a0.Permissions a1)), .d (eS a0.RP), .d (eI a0.Since)]) rfl rfl rfl rfl)) rfl ?_
        refine hK20 _ _ ?_
        simp only [n0, n1, n2, n3, n4, n5, n6, n7, n8, n9, n10, n11, n12, n13, n14, n15, n16, n17, n18, n19, reduceIte]
        refine hK19 _ _ _ ?_
        refine rwp_ret ?_
        obtain rfl := Option.some.inj h
        try simp only [thenK, blockK, reduceIte]
        exact Or.inl (end_ok trivial (rs_c (id := 128) (off := 0) (v := .d (.agg [eU64 a0.Secret, eB a0.Active, eU64 a0.Value, eI (ibits .andNot .i64 a0.Permissions a1), eS a0.RP, eI a0.Since])) rfl rfl rfl rfl rs_nil) (en_d (to_d _) en_nil) ou_nil (by first | exact eok rfl rfl rfl rfl trivial | (refine eok ?_ ?_ ?_ ?_ ?_ <;> first | rfl | exact trivial | simp [retM, Mem.get, PV.renL, PV.ren, Blk.ren, comps, rhoR, rhoM, appN, PV.refsL, PV.refs, keys, nodupB, Blk.refs, allIn, Blk.bor])))
  · refine rwp_region fun K21 hK21 => ?_
    refine st0 256 rfl (ok (mv (.d (eI a1)))) ?_
    refine st0 320 rfl (ok (lssI _ (0 : Int))) ?_
    refine st0 384 rfl (ok (mv (.d (eB (decide (a1 < (0 : Int))))))) ?_
    rcases Bool.eq_false_or_eq_true ((decide (a1 < (0 : Int)))) with h22 | h22
    · replace h := ite_t h h22
      refine stGN 448 rfl rfl h22 ?_
      refine stGN 512 rfl rfl h22 ?_
      refine st0 576 rfl (ok (pick_t h22 (.d (eB true)) _)) ?_
      refine hK21 _ _ ?_
      simp only [n0, n1, n2, n3, n4, n5, n6, n7, n8, n9, n10, n11, n12, n13, n14, n15, n16, n17, n18, n19, reduceIte]
      exact hK5 _ _ _ ⟨_, _, Settled.refl, _, _, ⟨_, h, rfl, rfl⟩, ⟨rfl, ⟨⟨rfl, rfl⟩, ⟨⟨rfl, rfl⟩, ⟨⟨rfl, rfl⟩, ⟨⟨rfl, rfl⟩, trivial⟩⟩⟩⟩, ⟨⟨rfl, rfl⟩, ⟨⟨rfl, rfl⟩, trivial⟩⟩⟩, rfl⟩
    · replace h := ite_f h h22
      refine stG (isF h22) ?_
      refine st0 448 rfl (ok (mv (.d (eI a1)))) ?_
      refine stG (isF h22) ?_
      refine st0 512 rfl (ok (gtrI _ (7 : Int))) ?_
      refine st0 576 rfl (ok (pick_f h22 _ (.d (eB (decide ((7 : Int) < a1)))))) ?_
      refine hK21 _ _ ?_
      simp only [n0, n1, n2, n3, n4, n5, n6, n7, n8, n9, n10, n11, n12, n13, n14, n15, n16, n17, n18, n19, reduceIte]
      exact hK5 _ _ _ ⟨_, _, Settled.refl, _, _, ⟨_, h, rfl, rfl⟩, ⟨rfl, ⟨⟨rfl, rfl⟩, ⟨⟨rfl, rfl⟩, ⟨⟨rfl, rfl⟩, ⟨⟨rfl, rfl⟩, trivial⟩⟩⟩⟩, ⟨⟨rfl, rfl⟩, ⟨⟨rfl, rfl⟩, trivial⟩⟩⟩, rfl⟩

/-- passkey/passkeylaw12.TokenOnce -/
def passkeylaw12TokenOnceH : Hints := ⟨[(0, [0, 1, 2, 3, 4]), (1, [0, 1, 3, 4, 11]), (2, [0, 1, 3, 4, 11, 12, 13]), (3, [0, 1, 3, 4, 11, 12, 30]), (4, [10]), (5, [0, 3, 4, 11, 12, 14]), (6, [0, 3, 4, 11, 12, 14, 15]), (7, [0, 3, 4, 11, 12, 14, 15, 35]), (9, [0, 3, 4, 11, 12, 14, 15, 16]), (10, [0, 3, 4, 11, 12, 14, 15, 72]), (11, [10]), (12, [0, 3, 4, 11, 12, 14, 15]), (13, [0, 3, 4, 11, 12, 14, 15, 81]), (14, [10]), (8, [0, 3, 4, 11, 12, 14, 15]), (15, [10])], []⟩
def passkeylaw12TokenOnceRc : RCode :=
  .seq (.region false [⟨some 10, .mv, [.k (.d (.bool false))], none, []⟩] [0, 1, 2, 3, 4]) (.seq (.region false [⟨some 17, .mv, [.t 2], none, []⟩, ⟨some 18, .bin .rem, [.t 17, .k (.d
  (.int .u8 7))], none, []⟩, ⟨some 19, .cvt .i64, [.t 18], none, []⟩, ⟨some 20, .bin .add, [.k (.d (.int .i64 1)), .t 19], none, []⟩, ⟨some 11, .mv, [.t 20], none, []⟩] [0, 1, 3,
  4, 11]) (.seq (.region false [⟨some 22, .mv, [.t 0], none, []⟩, ⟨some 23, .call 17 false, [.t 22], none, []⟩, ⟨some 24, .mv, [.t 1], none, []⟩, ⟨some 25, .mv, [.t 11], none, []⟩,
  ⟨some 26, .call 15 false, [.t 23, .t 24, .t 25, .k (.d (.str ⟨#[97, 46, 101, 120, 97, 109, 112, 108, 101]⟩)), .k (.d (.int .i64 1000))], none, []⟩, ⟨some 21, .mv, [.t 26], none,
  []⟩, ⟨some 27, .ext 0, [.t 21], none, []⟩, ⟨some 28, .ext 1, [.t 21], none, []⟩, ⟨some 12, .alloc [.d (.int .u64 0), .d (.bool false), .d (.int .u64 0), .d (.int .i64 0), .d
  (.str ⟨#[]⟩), .d (.int .i64 0)], [], none, []⟩, ⟨none, .store 6, [.t 12, .t 27], none, []⟩, ⟨some 13, .mv, [.t 28], none, []⟩] [0, 1, 3, 4, 11, 12, 13]) (.seq (.seq (.region
  false [⟨some 29, .mv, [.t 13], none, []⟩, ⟨some 30, .bin .neq, [.t 29, .k (.d (.int .i64 0))], none, []⟩] [0, 1, 3, 4, 11, 12, 30]) (.cond (.t 30) (.seq (.region false [⟨some 10,
  .mv, [.k (.d (.bool false))], none, []⟩] [10]) .ret) .skip)) (.seq (.region false [⟨some 31, .mv, [.t 1], none, []⟩, ⟨some 32, .mv, [.t 4], none, []⟩, ⟨some 33, .call 22 false,
  [.t 31, .t 32], none, []⟩, ⟨some 14, .mv, [.t 33], none, []⟩] [0, 3, 4, 11, 12, 14]) (.seq (.seq (.region false [⟨some 15, .mv, [.k (.d (.int .i64 1))], none, []⟩] [0, 3, 4, 11,
  12, 14, 15]) (.block 0 (.loop [] (.seq (.seq (.region false [⟨some 34, .mv, [.t 15], none, []⟩, ⟨some 35, .bin .lss, [.t 34, .k (.d (.int .i64 8))], none, []⟩] [0, 3, 4, 11, 12,
  14, 15, 35]) (.cond (.t 35) .skip (.exit 0))) (.seq (.block 1 (.seq (.region false [⟨some 38, .mv, [.t 11], none, []⟩, ⟨some 39, .mv, [.t 15], none, []⟩, ⟨some 40, .bin .and, [.t
  38, .t 39], none, []⟩, ⟨some 41, .bin .neq, [.t 40, .k (.d (.int .i64 0))], none, []⟩, ⟨some 42, .mv, [.t 41], none, []⟩, ⟨some 43, .mv, [.t 3], some (42, true), []⟩, ⟨some 44,
  .bin .leq, [.t 43, .k (.d (.int .u8 100))], some (42, true), []⟩, ⟨some 45, .pick, [.t 42, .t 44, .k (.d (.bool false))], none, []⟩, ⟨some 16, .mv, [.t 45], none, []⟩] [0, 3, 4,
  11, 12, 14, 15, 16]) (.seq (.seq (.region false [⟨some 46, .load 6 true, [.t 12], none, []⟩, ⟨some 47, .mv, [.t 3], none, []⟩, ⟨some 48, .cvt .i64, [.t 47], none, []⟩, ⟨some 49,
  .bin .add, [.k (.d (.int .i64 1000)), .t 48], none, []⟩, ⟨some 50, .mv, [.t 15], none, []⟩, ⟨some 51, .mv, [.t 4], none, []⟩, ⟨some 52, .mv, [.t 14], none, []⟩, ⟨some 53, .call
  20 false, [.t 46, .t 49, .t 50, .k (.d (.str ⟨#[97, 46, 101, 120, 97, 109, 112, 108, 101]⟩)), .t 51, .t 52], none, []⟩, ⟨some 54, .bin .eql, [.t 53, .k (.d (.int .i64 0))], none,
  []⟩, ⟨some 55, .mv, [.t 16], none, []⟩, ⟨some 56, .bool .neq, [.t 54, .t 55], none, []⟩, ⟨some 57, .mv, [.t 56], none, []⟩, ⟨some 58, .load 6 true, [.t 12], some (57, false),
  []⟩, ⟨some 59, .mv, [.t 15], some (57, false), []⟩, ⟨some 60, .mv, [.t 4], some (57, false), []⟩, ⟨some 61, .mv, [.t 14], some (57, false), []⟩, ⟨some 62, .call 20 false, [.t 58,
  .k (.d (.int .i64 1000)), .t 59, .k (.d (.str ⟨#[98, 46, 101, 120, 97, 109, 112, 108, 101]⟩)), .t 60, .t 61], some (57, false), []⟩, ⟨some 63, .bin .neq, [.t 62, .k (.d (.int
  .i64 29))], some (57, false), []⟩, ⟨some 64, .pick, [.t 57, .k (.d (.bool true)), .t 63], none, []⟩, ⟨some 65, .mv, [.t 64], none, []⟩, ⟨some 66, .load 6 true, [.t 12], some (65,
  false), []⟩, ⟨some 67, .mv, [.t 15], some (65, false), []⟩, ⟨some 68, .mv, [.t 4], some (65, false), []⟩, ⟨some 69, .mv, [.t 14], some (65, false), []⟩, ⟨some 70, .call 20 false,
  [.t 66, .k (.d (.int .i64 999)), .t 67, .k (.d (.str ⟨#[97, 46, 101, 120, 97, 109, 112, 108, 101]⟩)), .t 68, .t 69], some (65, false), []⟩, ⟨some 71, .bin .neq, [.t 70, .k (.d
  (.int .i64 29))], some (65, false), []⟩, ⟨some 72, .pick, [.t 65, .k (.d (.bool true)), .t 71], none, []⟩] [0, 3, 4, 11, 12, 14, 15, 72]) (.cond (.t 72) (.seq (.region false
  [⟨some 10, .mv, [.k (.d (.bool false))], none, []⟩] [10]) .ret) .skip)) (.seq (.region false [⟨some 73, .load 6 true, [.t 12], none, []⟩, ⟨some 74, .mv, [.t 15], none, []⟩, ⟨some
  75, .call 23 false, [.t 73, .t 74], none, []⟩, ⟨none, .store 6, [.t 12, .t 75], none, []⟩] [0, 3, 4, 11, 12, 14, 15]) (.seq (.region false [⟨some 76, .load 6 true, [.t 12], none,
  []⟩, ⟨some 77, .mv, [.t 15], none, []⟩, ⟨some 78, .mv, [.t 4], none, []⟩, ⟨some 79, .mv, [.t 14], none, []⟩, ⟨some 80, .call 20 false, [.t 76, .k (.d (.int .i64 1000)), .t 77, .k
  (.d (.str ⟨#[97, 46, 101, 120, 97, 109, 112, 108, 101]⟩)), .t 78, .t 79], none, []⟩, ⟨some 81, .bin .neq, [.t 80, .k (.d (.int .i64 29))], none, []⟩] [0, 3, 4, 11, 12, 14, 15,
  81]) (.cond (.t 81) (.seq (.region false [⟨some 10, .mv, [.k (.d (.bool false))], none, []⟩] [10]) .ret) .skip)))))) (.region false [⟨some 36, .mv, [.t 15], none, []⟩, ⟨some 37,
  .bin .mul, [.k (.d (.int .i64 2)), .t 36], none, []⟩, ⟨some 15, .mv, [.t 37], none, []⟩] [0, 3, 4, 11, 12, 14, 15])))))) (.seq (.region false [⟨some 82, .fa 1, [.t 12], none,
  []⟩, ⟨some 83, .load 1 false, [.t 82], none, []⟩, ⟨some 84, .un .not, [.t 83], none, []⟩, ⟨some 85, .mv, [.t 84], none, []⟩, ⟨some 86, .fa 0, [.t 12], some (85, true), []⟩, ⟨some
  87, .load 1 false, [.t 86], some (85, true), []⟩, ⟨some 88, .mv, [.t 0], some (85, true), []⟩, ⟨some 89, .bin .eql, [.t 87, .t 88], some (85, true), []⟩, ⟨some 90, .pick, [.t 85,
  .t 89, .k (.d (.bool false))], none, []⟩, ⟨some 91, .mv, [.t 90], none, []⟩, ⟨some 92, .call 9 false, [], some (91, true), []⟩, ⟨some 93, .pick, [.t 91, .t 92, .k (.d (.bool
  false))], none, []⟩, ⟨some 10, .mv, [.t 93], none, []⟩] [10]) .ret))))))
def passkeylaw12TokenOnceRr : List RR := [.t 10]
theorem passkeylaw12TokenOnceC : compFn Tryd.prog 6 passkeylaw12TokenOnceH = some (passkeylaw12TokenOnceRc, passkeylaw12TokenOnceRr, 94) := by kernel_rfl
theorem passkeylaw12TokenOnceOK (a0 : BitVec 64) (a1 : BitVec 64) (a2 : BitVec 8) (a3 : BitVec 8) (a4 : BitVec 64) (res : Bool) (h : passkeylaw12TokenOnce a0 a1 a2 a3 a4 = some res) : CallOK Tryd.prog 6 [.d (eU64 a0), .d (eU64 a1), .d (eU8 a2), .d (eU8 a3), .d (eU64 a4)] [] (.d (eB res)) [] := by
  unfold passkeylaw12TokenOnce at h
  refine callOK passkeylaw12TokenOnceC fm rfl ?_
  simp only [initE, initM, nbor, List.map_cons, List.map_nil, Nat.reduceAdd]
  unfold passkeylaw12TokenOnceRc
  refine rwp_seq fun K1 hK1 => ?_
  refine rwp_region fun K2 hK2 => ?_
  refine st0 128 rfl (ok (mv (.d (eB false)))) ?_
  refine hK2 _ _ ?_
  simp only [n0, n1, n2, n3, n4, n5, n6, n7, n8, n9, n10, n11, n12, n13, n14, n15, n16, n17, n18, n19, reduceIte]
  refine hK1 _ _ _ ?_
  refine rwp_seq fun K3 hK3 => ?_
  refine rwp_region fun K4 hK4 => ?_
  refine st0 192 rfl (ok (mv (.d (eU8 a2)))) ?_
  refine st0 256 rfl (ok (rem8 _ (7#8) (by decide))) ?_
  refine st0 320 rfl (ok (toI8 _)) ?_
  refine st0 384 rfl (ok (addI (1 : Int) _)) ?_
  refine st0 448 rfl (ok (mv (.d (eI (w64 ((1 : Int) + ((a2 % (7#8)).toNat : Int))))))) ?_
  refine hK4 _ _ ?_
  simp only [n0, n1, n2, n3, n4, n5, n6, n7, n8, n9, n10, n11, n12, n13, n14, n15, n16, n17, n18, n19, reduceIte]
  refine hK3 _ _ _ ?_
  refine rwp_seq fun K5 hK5 => ?_
  refine rwp_region fun K6 hK6 => ?_
  refine st0 512 rfl (ok (mv (.d (eU64 a0)))) ?_
  obtain ⟨y7, h8, h⟩ := bind_inv h
  refine st0 576 rfl (call_ok (v := .d (eTApiToken y7)) (u := []) (ar_d (eU64 a0) ar_nil) rfl (tokenStartOK a0 y7 h8) rfl) ?_
  refine st0 640 rfl (ok (mv (.d (eU64 a1)))) ?_
  refine st0 704 rfl (ok (mv (.d (eI (w64 ((1 : Int) + ((a2 % (7#8)).toNat : Int))))))) ?_
  obtain ⟨y9, h10, h⟩ := bind_inv h
  refine st0 768 rfl (call_ok (v := .tup [.d (eTApiToken y9.1), .d (eI y9.2)]) (u := []) (ar_d (eTApiToken y7) (ar_d (eU64 a1) (ar_d (eI (w64 ((1 : Int) + ((a2 % (7#8)).toNat : Int)))) (ar_d (eS ([97#8, 46#8, 101#8, 120#8, 97#8, 109#8, 112#8, 108#8, 101#8] : List (BitVec 8))) (ar_d (eI (1000 : Int)) ar_nil))))) rfl (tokenIssueOK y7 a1 (w64 ((1 : Int) + ((a2 % (7#8)).toNat : Int))) ([97#8, 46#8, 101#8, 120#8, 97#8, 109#8, 112#8, 108#8, 101#8] : List (BitVec 8)) (1000 : Int) y9 h10) rfl) ?_
  refine st0 832 rfl (ok (mv (.tup [.d (eTApiToken y9.1), .d (eI y9.2)]))) ?_
  refine st0 896 rfl (ok (extr (v := .d (eTApiToken y9.1)) rfl rfl)) ?_
  refine st0 960 rfl (ok (extr (v := .d (eI y9.2)) rfl rfl)) ?_
  refine st1 1024 rfl (mem' := [(960, .var .mine [.d (eU64 (0#64)), .d (eB false), .d (eU64 (0#64)), .d (eI (0 : Int)), .d (eS ([] : List (BitVec 8))), .d (eI (0 : Int))])]) (ok (alc (zs := [.d (eU64 (0#64)), .d (eB false), .d (eU64 (0#64)), .d (eI (0 : Int)), .d (eS ([] : List (BitVec 8))), .d (eI (0 : Int))]))) rfl ?_
  refine stn 1088 rfl (mem' := [(960, .var .mine [.d (eU64 y9.1.Secret), .d (eB y9.1.Active), .d (eU64 y9.1.Value), .d (eI y9.1.Permissions), .d (eS y9.1.RP), .d (eI y9.1.Since)])]) (ok (sto_v (ps' := [.d (eU64 y9.1.Secret), .d (eB y9.1.Active), .d (eU64 y9.1.Value), .d (eI y9.1.Permissions), .d (eS y9.1.RP), .d (eI y9.1.Since)]) rfl rfl rfl rfl)) rfl ?_
  refine st0 1152 rfl (ok (mv (.d (eI y9.2)))) ?_
  refine hK6 _ _ ?_
  simp only [n0, n1, n2, n3, n4, n5, n6, n7, n8, n9, n10, n11, n12, n13, n14, n15, n16, n17, n18, n19, reduceIte]
  refine hK5 _ _ _ ?_
  refine rwp_seq fun K11 hK11 => ?_
  refine rwp_seq fun K12 hK12 => ?_
  refine rwp_region fun K13 hK13 => ?_
  refine st0 1216 rfl (ok (mv (.d (eI y9.2)))) ?_
  refine st0 1280 rfl (ok (neqI _ (0 : Int))) ?_
  refine hK13 _ _ ?_
  simp only [n0, n1, n2, n3, n4, n5, n6, n7, n8, n9, n10, n11, n12, n13, n14, n15, n16, n17, n18, n19, reduceIte]
  refine hK12 _ _ _ ?_
  rcases Bool.eq_false_or_eq_true ((y9.2 != (0 : Int))) with h14 | h14
  · replace h := ite_t h h14
    refine rwp_t (isT h14) ?_
    refine rwp_seq fun K15 hK15 => ?_
    refine rwp_region fun K16 hK16 => ?_
    refine st0 1344 rfl (ok (mv (.d (eB false)))) ?_
    refine hK16 _ _ ?_
    simp only [n0, n1, n2, n3, n4, n5, n6, n7, n8, n9, n10, n11, n12, n13, n14, n15, n16, n17, n18, n19, reduceIte]
    refine hK15 _ _ _ ?_
    refine rwp_ret ?_
    obtain rfl := Option.some.inj h
    try simp only [thenK, blockK, reduceIte]
    exact Or.inl (end_ok trivial (rs_t (v := .d (eB false)) rfl rs_nil) (en_d (to_d _) en_nil) ou_nil (by first | exact eok rfl rfl rfl rfl trivial | (refine eok ?_ ?_ ?_ ?_ ?_ <;> first | rfl | exact trivial | simp [retM, Mem.get, PV.renL, PV.ren, Blk.ren, comps, rhoR, rhoM, appN, PV.refsL, PV.refs, keys, nodupB, Blk.refs, allIn, Blk.bor])))
  · replace h := ite_f h h14
    refine rwp_f (isF h14) ?_
    refine rwp_skip ?_
    refine hK11 _ _ _ ?_
    refine rwp_seq fun K17 hK17 => ?_
    refine rwp_region fun K18 hK18 => ?_
    refine st0 1344 rfl (ok (mv (.d (eU64 a1)))) ?_
    refine st0 1408 rfl (ok (mv (.d (eU64 a4)))) ?_
    obtain ⟨y19, h20, h⟩ := bind_inv h
    refine st0 1472 rfl (call_ok (v := .d (eU64 y19)) (u := []) (ar_d (eU64 a1) (ar_d (eU64 a4) ar_nil)) rfl (tokenAuthorizeOK a1 a4 y19 h20) rfl) ?_
    refine st0 1536 rfl (ok (mv (.d (eU64 y19)))) ?_
    refine hK18 _ _ ?_
    simp only [n0, n1, n2, n3, n4, n5, n6, n7, n8, n9, n10, n11, n12, n13, n14, n15, n16, n17, n18, n19, reduceIte]
    refine hK17 _ _ _ ?_
    refine rwp_join ([], []) 5312 (fun env mem => ∃ (v21 : BitVec 64) (v22 : Bool) (v23 : BitVec 64) (v24 : Int) (v25 : List (BitVec 8)) (v26 : Int), passkeylaw12TokenOnceJ1 a0 v21 v22 v23 v24 v25 v26 = some res ∧ env = [(0, .d (eU64 a0)), (12, .ptr 960 0)] ∧ mem = [(960, .var .mine [.d (eU64 v21), .d (eB v22), .d (eU64 v23), .d (eI v24), .d (eS v25), .d (eI v26)])]) (fun _ _ hI => ?_) (fun K27 hK27 => ?_)
    · obtain ⟨v21, v22, v23, v24, v25, v26, h, rfl, rfl⟩ := hI
      unfold passkeylaw12TokenOnceJ1 at h
      refine rwp_seq fun K28 hK28 => ?_
      refine rwp_region fun K29 hK29 => ?_
      refine st0 5376 rfl (ok (fa_k 1 rfl)) ?_
      refine st0 5440 rfl (ok (ld_v (v := .d (eB v22)) rfl rfl rfl)) ?_
      refine st0 5504 rfl (ok (notB _)) ?_
      refine st0 5568 rfl (ok (mv (.d (eB (!v22))))) ?_
      rcases Bool.eq_false_or_eq_true ((!v22)) with h30 | h30
      · replace h := ite_t h h30
        refine stG (isT h30) ?_
        refine st0 5632 rfl (ok (fa_k 0 rfl)) ?_
        refine stG (isT h30) ?_
        refine st0 5696 rfl (ok (ld_v (v := .d (eU64 v21)) rfl rfl rfl)) ?_
        refine stG (isT h30) ?_
        refine st0 5760 rfl (ok (mv (.d (eU64 a0)))) ?_
        refine stG (isT h30) ?_
        refine st0 5824 rfl (ok (eql64 _ _)) ?_
        refine st0 5888 rfl (ok (pick_t h30 (.d (eB (v21 == a0))) _)) ?_
        refine st0 5952 rfl (ok (mv (.d (eB (v21 == a0))))) ?_
        rcases Bool.eq_false_or_eq_true ((v21 == a0)) with h31 | h31
        · replace h := ite_t h h31
          refine stG (isT h31) ?_
          obtain ⟨y32, h33, h⟩ := bind_inv h
          refine st0 6016 rfl (call_ok (v := .d (eB y32)) (u := []) ar_nil rfl (passkeylaw12awakeOK  y32 h33) rfl) ?_
          refine st0 6080 rfl (ok (pick_t h31 (.d (eB y32)) _)) ?_
          refine st0 6144 rfl (ok (mv (.d (eB y32)))) ?_
          refine hK29 _ _ ?_
          simp only [n0, n1, n2, n3, n4, n5, n6, n7, n8, n9, n10, n11, n12, n13, n14, n15, n16, n17, n18, n19, reduceIte]
          refine hK28 _ _ _ ?_
          refine rwp_ret ?_
          obtain rfl := Option.some.inj h
          try simp only [thenK, blockK, reduceIte]
          exact Or.inl (end_ok trivial (rs_t (v := .d (eB y32)) rfl rs_nil) (en_d (to_d _) en_nil) ou_nil (by first | exact eok rfl rfl rfl rfl trivial | (refine eok ?_ ?_ ?_ ?_ ?_ <;> first | rfl | exact trivial | simp [retM, Mem.get, PV.renL, PV.ren, Blk.ren, comps, rhoR, rhoM, appN, PV.refsL, PV.refs, keys, nodupB, Blk.refs, allIn, Blk.bor])))
        · replace h := ite_f h h31
          refine stGN 6016 rfl rfl h31 ?_
          refine st0 6080 rfl (ok (pick_f h31 _ (.d (eB false)))) ?_
          refine st0 6144 rfl (ok (mv (.d (eB false)))) ?_
          refine hK29 _ _ ?_
          simp only [n0, n1, n2, n3, n4, n5, n6, n7, n8, n9, n10, n11, n12, n13, n14, n15, n16, n17, n18, n19, reduceIte]
          refine hK28 _ _ _ ?_
          refine rwp_ret ?_
          obtain rfl := Option.some.inj h
          try simp only [thenK, blockK, reduceIte]
          exact Or.inl (end_ok trivial (rs_t (v := .d (eB false)) rfl rs_nil) (en_d (to_d _) en_nil) ou_nil (by first | exact eok rfl rfl rfl rfl trivial | (refine eok ?_ ?_ ?_ ?_ ?_ <;> first | rfl | exact trivial | simp [retM, Mem.get, PV.renL, PV.ren, Blk.ren, comps, rhoR, rhoM, appN, PV.refsL, PV.refs, keys, nodupB, Blk.refs, allIn, Blk.bor])))
      · replace h := ite_f h h30
        refine stGN 5632 rfl rfl h30 ?_
        refine stGN 5696 rfl rfl h30 ?_
        refine stGN 5760 rfl rfl h30 ?_
        refine stGN 5824 rfl rfl h30 ?_
        refine st0 5888 rfl (ok (pick_f h30 _ (.d (eB false)))) ?_
        refine st0 5952 rfl (ok (mv (.d (eB false)))) ?_
        refine stGN 6016 rfl rfl rfl ?_
        refine st0 6080 rfl (ok (pick_f rfl _ (.d (eB false)))) ?_
        refine st0 6144 rfl (ok (mv (.d (eB false)))) ?_
        refine hK29 _ _ ?_
        simp only [n0, n1, n2, n3, n4, n5, n6, n7, n8, n9, n10, n11, n12, n13, n14, n15, n16, n17, n18, n19, reduceIte]
        refine hK28 _ _ _ ?_
        refine rwp_ret ?_
        obtain rfl := Option.some.inj h
        try simp only [thenK, blockK, reduceIte]
        exact Or.inl (end_ok trivial (rs_t (v := .d (eB false)) rfl rs_nil) (en_d (to_d _) en_nil) ou_nil (by first | exact eok rfl rfl rfl rfl trivial | (refine eok ?_ ?_ ?_ ?_ ?_ <;> first | rfl | exact trivial | simp [retM, Mem.get, PV.renL, PV.ren, Blk.ren, comps, rhoR, rhoM, appN, PV.refsL, PV.refs, keys, nodupB, Blk.refs, allIn, Blk.bor])))
    · refine rwp_seq fun K34 hK34 => ?_
      refine rwp_region fun K35 hK35 => ?_
      refine st0 1600 rfl (ok (mv (.d (eI (1 : Int))))) ?_
      refine hK35 _ _ ?_
      simp only [n0, n1, n2, n3, n4, n5, n6, n7, n8, n9, n10, n11, n12, n13, n14, n15, n16, n17, n18, n19, reduceIte]
      refine hK34 _ _ _ ?_
      refine rwp_block fun K36 hK36 => ?_
      refine rwp_loop ([], []) 5120 (fun k env mem => ∃ (v37 : BitVec 64) (v38 : Bool) (v39 : BitVec 64) (v40 : Int) (v41 : List (BitVec 8)) (v42 : Int) (v43 : Int), passkeylaw12TokenOnceL2 a0 a2 a3 a4 y19 k v37 v38 v39 v40 v41 v42 v43 = some res ∧ env = [(0, .d (eU64 a0)), (3, .d (eU8 a3)), (4, .d (eU64 a4)), (11, .d (eI (w64 ((1 : Int) + ((a2 % (7#8)).toNat : Int))))), (12, .ptr 960 0), (14, .d (eU64 y19)), (15, .d (eI v43))] ∧ mem = [(960, .var .mine [.d (eU64 v37), .d (eB v38), .d (eU64 v39), .d (eI v40), .d (eS v41), .d (eI v42)])]) FUEL ⟨_, _, Settled.refl, _, _, ⟨_, _, _, _, _, _, _, h, rfl, rfl⟩, ⟨rfl, ⟨⟨rfl, rfl⟩, ⟨⟨rfl, rfl⟩, ⟨⟨rfl, rfl⟩, ⟨⟨rfl, rfl⟩, ⟨⟨rfl, rfl⟩, ⟨⟨rfl, rfl⟩, ⟨⟨rfl, rfl⟩, trivial⟩⟩⟩⟩⟩⟩⟩, ⟨⟨rfl, rfl⟩, trivial⟩⟩, rfl⟩ (fun k2 env1 mem1 hI K44 hK44 => ?_)
      obtain ⟨v37, v38, v39, v40, v41, v42, v43, h, rfl, rfl⟩ := hI
      cases k2 with
      | zero => simp [passkeylaw12TokenOnceL2] at h
      | succ k2 =>
        rw [passkeylaw12TokenOnceL2] at h
        refine rwp_seq fun K45 hK45 => ?_
        refine rwp_seq fun K46 hK46 => ?_
        refine rwp_region fun K47 hK47 => ?_
        refine st0 5184 rfl (ok (mv (.d (eI v43)))) ?_
        refine st0 5248 rfl (ok (lssI _ (8 : Int))) ?_
        refine hK47 _ _ ?_
        simp only [n0, n1, n2, n3, n4, n5, n6, n7, n8, n9, n10, n11, n12, n13, n14, n15, n16, n17, n18, n19, reduceIte]
        refine hK46 _ _ _ ?_
        rcases Bool.eq_false_or_eq_true ((decide (v43 < (8 : Int)))) with h48 | h48
        · replace h := ite_t h h48
          refine rwp_t (isT h48) ?_
          refine rwp_skip ?_
          refine hK45 _ _ _ ?_
          refine rwp_seq fun K49 hK49 => ?_
          refine rwp_block fun K50 hK50 => ?_
          refine rwp_join ([], []) 5888 (fun env mem => ∃ (v51 : Bool), passkeylaw12TokenOnceJ3 (passkeylaw12TokenOnceL2 a0 a2 a3 a4 y19 k2) a3 a4 y19 v37 v38 v39 v40 v41 v42 v43 v51 = some res ∧ env = [(0, .d (eU64 a0)), (3, .d (eU8 a3)), (4, .d (eU64 a4)), (11, .d (eI (w64 ((1 : Int) + ((a2 % (7#8)).toNat : Int))))), (12, .ptr 960 0), (14, .d (eU64 y19)), (15, .d (eI v43)), (16, .d (eB v51))] ∧ mem = [(960, .var .mine [.d (eU64 v37), .d (eB v38), .d (eU64 v39), .d (eI v40), .d (eS v41), .d (eI v42)])]) (fun _ _ hI => ?_) (fun K52 hK52 => ?_)
          · obtain ⟨v51, h, rfl, rfl⟩ := hI
            unfold passkeylaw12TokenOnceJ3 at h
            refine rwp_seq fun K53 hK53 => ?_
            refine rwp_join ([], []) 7680 (fun env mem => ∃ (v54 : Bool), passkeylaw12TokenOnceJ4 (passkeylaw12TokenOnceL2 a0 a2 a3 a4 y19 k2) a4 y19 v37 v38 v39 v40 v41 v42 v43 v54 = some res ∧ env = [(0, .d (eU64 a0)), (3, .d (eU8 a3)), (4, .d (eU64 a4)), (11, .d (eI (w64 ((1 : Int) + ((a2 % (7#8)).toNat : Int))))), (12, .ptr 960 0), (14, .d (eU64 y19)), (15, .d (eI v43)), (72, .d (eB v54))] ∧ mem = [(960, .var .mine [.d (eU64 v37), .d (eB v38), .d (eU64 v39), .d (eI v40), .d (eS v41), .d (eI v42)])]) (fun _ _ hI => ?_) (fun K55 hK55 => ?_)
            · obtain ⟨v54, h, rfl, rfl⟩ := hI
              unfold passkeylaw12TokenOnceJ4 at h
              rcases Bool.eq_false_or_eq_true (v54) with h56 | h56
              · replace h := ite_t h h56
                refine rwp_t (isT h56) ?_
                refine rwp_seq fun K57 hK57 => ?_
                refine rwp_region fun K58 hK58 => ?_
                refine st0 7744 rfl (ok (mv (.d (eB false)))) ?_
                refine hK58 _ _ ?_
                simp only [n0, n1, n2, n3, n4, n5, n6, n7, n8, n9, n10, n11, n12, n13, n14, n15, n16, n17, n18, n19, reduceIte]
                refine hK57 _ _ _ ?_
                refine rwp_ret ?_
                obtain rfl := Option.some.inj h
                try simp only [thenK, blockK, reduceIte]
                exact Or.inl (end_ok trivial (rs_t (v := .d (eB false)) rfl rs_nil) (en_d (to_d _) en_nil) ou_nil (by first | exact eok rfl rfl rfl rfl trivial | (refine eok ?_ ?_ ?_ ?_ ?_ <;> first | rfl | exact trivial | simp [retM, Mem.get, PV.renL, PV.ren, Blk.ren, comps, rhoR, rhoM, appN, PV.refsL, PV.refs, keys, nodupB, Blk.refs, allIn, Blk.bor])))
              · replace h := ite_f h h56
                refine rwp_f (isF h56) ?_
                refine rwp_skip ?_
                refine hK53 _ _ _ ?_
                refine rwp_seq fun K59 hK59 => ?_
                refine rwp_region fun K60 hK60 => ?_
                refine st0 7744 rfl (ok (ld_v (v := .d (.agg [eU64 v37, eB v38, eU64 v39, eI v40, eS v41, eI v42])) rfl rfl rfl)) ?_
                refine st0 7808 rfl (ok (mv (.d (eI v43)))) ?_
                obtain ⟨y61, h62, h⟩ := bind_inv h
                refine st0 7872 rfl (call_ok (v := .d (eTApiToken y61)) (u := []) (ar_d (eTApiToken (TApiToken.mk v37 v38 v39 v40 v41 v42)) (ar_d (eI v43) ar_nil)) rfl (tokenUseOK (TApiToken.mk v37 v38 v39 v40 v41 v42) v43 y61 h62) rfl) ?_
                refine stn 7936 rfl (mem' := [(960, .var .mine [.d (eU64 y61.Secret), .d (eB y61.Active), .d (eU64 y61.Value), .d (eI y61.Permissions), .d (eS y61.RP), .d (eI y61.Since)])]) (ok (sto_v (ps' := [.d (eU64 y61.Secret), .d (eB y61.Active), .d (eU64 y61.Value), .d (eI y61.Permissions), .d (eS y61.RP), .d (eI y61.Since)]) rfl rfl rfl rfl)) rfl ?_
                refine hK60 _ _ ?_
                simp only [n0, n1, n2, n3, n4, n5, n6, n7, n8, n9, n10, n11, n12, n13, n14, n15, n16, n17, n18, n19, reduceIte]
                refine hK59 _ _ _ ?_
                refine rwp_seq fun K63 hK63 => ?_
                refine rwp_region fun K64 hK64 => ?_
                refine st0 8000 rfl (ok (ld_v (v := .d (.agg [eU64 y61.Secret, eB y61.Active, eU64 y61.Value, eI y61.Permissions, eS y61.RP, eI y61.Since])) rfl rfl rfl)) ?_
                refine st0 8064 rfl (ok (mv (.d (eI v43)))) ?_
                refine st0 8128 rfl (ok (mv (.d (eU64 a4)))) ?_
                refine st0 8192 rfl (ok (mv (.d (eU64 y19)))) ?_
                obtain ⟨y65, h66, h⟩ := bind_inv h
                refine st0 8256 rfl (call_ok (v := .d (eI y65)) (u := []) (ar_d (eTApiToken (TApiToken.mk y61.Secret y61.Active y61.Value y61.Permissions y61.RP y61.Since)) (ar_d (eI (1000 : Int)) (ar_d (eI v43) (ar_d (eS ([97#8, 46#8, 101#8, 120#8, 97#8, 109#8, 112#8, 108#8, 101#8] : List (BitVec 8))) (ar_d (eU64 a4) (ar_d (eU64 y19) ar_nil)))))) rfl (tokenVerifyOK (TApiToken.mk y61.Secret y61.Active y61.Value y61.Permissions y61.RP y61.Since) (1000 : Int) v43 ([97#8, 46#8, 101#8, 120#8, 97#8, 109#8, 112#8, 108#8, 101#8] : List (BitVec 8)) a4 y19 y65 h66) rfl) ?_
                refine st0 8320 rfl (ok (neqI _ (29 : Int))) ?_
                refine hK64 _ _ ?_
                simp only [n0, n1, n2, n3, n4, n5, n6, n7, n8, n9, n10, n11, n12, n13, n14, n15, n16, n17, n18, n19, reduceIte]
                refine hK63 _ _ _ ?_
                rcases Bool.eq_false_or_eq_true ((y65 != (29 : Int))) with h67 | h67
                · replace h := ite_t h h67
                  refine rwp_t (isT h67) ?_
                  refine rwp_seq fun K68 hK68 => ?_
                  refine rwp_region fun K69 hK69 => ?_
                  refine st0 8384 rfl (ok (mv (.d (eB false)))) ?_
                  refine hK69 _ _ ?_
                  simp only [n0, n1, n2, n3, n4, n5, n6, n7, n8, n9, n10, n11, n12, n13, n14, n15, n16, n17, n18, n19, reduceIte]
                  refine hK68 _ _ _ ?_
                  refine rwp_ret ?_
                  obtain rfl := Option.some.inj h
                  try simp only [thenK, blockK, reduceIte]
                  exact Or.inl (end_ok trivial (rs_t (v := .d (eB false)) rfl rs_nil) (en_d (to_d _) en_nil) ou_nil (by first | exact eok rfl rfl rfl rfl trivial | (refine eok ?_ ?_ ?_ ?_ ?_ <;> first | rfl | exact trivial | simp [retM, Mem.get, PV.renL, PV.ren, Blk.ren, comps, rhoR, rhoM, appN, PV.refsL, PV.refs, keys, nodupB, Blk.refs, allIn, Blk.bor])))
                · replace h := ite_f h h67
                  refine rwp_f (isF h67) ?_
                  refine rwp_skip ?_
                  refine hK50 _ _ _ ?_
                  refine hK49 _ _ _ ?_
                  refine rwp_region fun K70 hK70 => ?_
                  refine st0 8384 rfl (ok (mv (.d (eI v43)))) ?_
                  refine st0 8448 rfl (ok (mulI (2 : Int) _)) ?_
                  refine st0 8512 rfl (ok (mv (.d (eI (w64 ((2 : Int) * v43)))))) ?_
                  refine hK70 _ _ ?_
                  simp only [n0, n1, n2, n3, n4, n5, n6, n7, n8, n9, n10, n11, n12, n13, n14, n15, n16, n17, n18, n19, reduceIte]
                  exact hK44.out _ _ _ k2 (Nat.lt_succ_self k2) ⟨_, _, Settled.refl, _, _, ⟨_, _, _, _, _, _, _, h, rfl, rfl⟩, ⟨rfl, ⟨⟨rfl, rfl⟩, ⟨⟨rfl, rfl⟩, ⟨⟨rfl, rfl⟩, ⟨⟨rfl, rfl⟩, ⟨⟨rfl, rfl⟩, ⟨⟨rfl, rfl⟩, ⟨⟨rfl, rfl⟩, trivial⟩⟩⟩⟩⟩⟩⟩, ⟨⟨rfl, rfl⟩, trivial⟩⟩, rfl⟩
            · refine rwp_region fun K71 hK71 => ?_
              refine st0 5952 rfl (ok (ld_v (v := .d (.agg [eU64 v37, eB v38, eU64 v39, eI v40, eS v41, eI v42])) rfl rfl rfl)) ?_
              refine st0 6016 rfl (ok (mv (.d (eU8 a3)))) ?_
              refine st0 6080 rfl (ok (toI8 _)) ?_
              refine st0 6144 rfl (ok (addI (1000 : Int) _)) ?_
              refine st0 6208 rfl (ok (mv (.d (eI v43)))) ?_
              refine st0 6272 rfl (ok (mv (.d (eU64 a4)))) ?_
              refine st0 6336 rfl (ok (mv (.d (eU64 y19)))) ?_
              obtain ⟨y72, h73, h⟩ := bind_inv h
              refine st0 6400 rfl (call_ok (v := .d (eI y72)) (u := []) (ar_d (eTApiToken (TApiToken.mk v37 v38 v39 v40 v41 v42)) (ar_d (eI (w64 ((1000 : Int) + (a3.toNat : Int)))) (ar_d (eI v43) (ar_d (eS ([97#8, 46#8, 101#8, 120#8, 97#8, 109#8, 112#8, 108#8, 101#8] : List (BitVec 8))) (ar_d (eU64 a4) (ar_d (eU64 y19) ar_nil)))))) rfl (tokenVerifyOK (TApiToken.mk v37 v38 v39 v40 v41 v42) (w64 ((1000 : Int) + (a3.toNat : Int))) v43 ([97#8, 46#8, 101#8, 120#8, 97#8, 109#8, 112#8, 108#8, 101#8] : List (BitVec 8)) a4 y19 y72 h73) rfl) ?_
              refine st0 6464 rfl (ok (eqlI _ (0 : Int))) ?_
              refine st0 6528 rfl (ok (mv (.d (eB v51)))) ?_
              refine st0 6592 rfl (ok (neqB _ _)) ?_
              refine st0 6656 rfl (ok (mv (.d (eB (!((y72 == (0 : Int)) == v51)))))) ?_
              rcases Bool.eq_false_or_eq_true ((!((y72 == (0 : Int)) == v51))) with h74 | h74
              · replace h := ite_t h h74
                refine stGN 6720 rfl rfl h74 ?_
                refine stGN 6784 rfl rfl h74 ?_
                refine stGN 6848 rfl rfl h74 ?_
                refine stGN 6912 rfl rfl h74 ?_
                refine stGN 6976 rfl rfl h74 ?_
                refine stGN 7040 rfl rfl h74 ?_
                refine st0 7104 rfl (ok (pick_t h74 (.d (eB true)) _)) ?_
                refine st0 7168 rfl (ok (mv (.d (eB true)))) ?_
                refine stGN 7232 rfl rfl rfl ?_
                refine stGN 7296 rfl rfl rfl ?_
                refine stGN 7360 rfl rfl rfl ?_
                refine stGN 7424 rfl rfl rfl ?_
                refine stGN 7488 rfl rfl rfl ?_
                refine stGN 7552 rfl rfl rfl ?_
                refine st0 7616 rfl (ok (pick_t rfl (.d (eB true)) _)) ?_
                refine hK71 _ _ ?_
                simp only [n0, n1, n2, n3, n4, n5, n6, n7, n8, n9, n10, n11, n12, n13, n14, n15, n16, n17, n18, n19, reduceIte]
                exact hK55 _ _ _ ⟨_, _, Settled.refl, _, _, ⟨_, h, rfl, rfl⟩, ⟨rfl, ⟨⟨rfl, rfl⟩, ⟨⟨rfl, rfl⟩, ⟨⟨rfl, rfl⟩, ⟨⟨rfl, rfl⟩, ⟨⟨rfl, rfl⟩, ⟨⟨rfl, rfl⟩, ⟨⟨rfl, rfl⟩, ⟨⟨rfl, rfl⟩, trivial⟩⟩⟩⟩⟩⟩⟩⟩, ⟨⟨rfl, rfl⟩, trivial⟩⟩, rfl⟩
              · replace h := ite_f h h74
                refine stG (isF h74) ?_
                refine st0 6720 rfl (ok (ld_v (v := .d (.agg [eU64 v37, eB v38, eU64 v39, eI v40, eS v41, eI v42])) rfl rfl rfl)) ?_
                refine stG (isF h74) ?_
                refine st0 6784 rfl (ok (mv (.d (eI v43)))) ?_
                refine stG (isF h74) ?_
                refine st0 6848 rfl (ok (mv (.d (eU64 a4)))) ?_
                refine stG (isF h74) ?_
                refine st0 6912 rfl (ok (mv (.d (eU64 y19)))) ?_
                refine stG (isF h74) ?_
                obtain ⟨y75, h76, h⟩ := bind_inv h
                refine st0 6976 rfl (call_ok (v := .d (eI y75)) (u := []) (ar_d (eTApiToken (TApiToken.mk v37 v38 v39 v40 v41 v42)) (ar_d (eI (1000 : Int)) (ar_d (eI v43) (ar_d (eS ([98#8, 46#8, 101#8, 120#8, 97#8, 109#8, 112#8, 108#8, 101#8] : List (BitVec 8))) (ar_d (eU64 a4) (ar_d (eU64 y19) ar_nil)))))) rfl (tokenVerifyOK (TApiToken.mk v37 v38 v39 v40 v41 v42) (1000 : Int) v43 ([98#8, 46#8, 101#8, 120#8, 97#8, 109#8, 112#8, 108#8, 101#8] : List (BitVec 8)) a4 y19 y75 h76) rfl) ?_
                refine stG (isF h74) ?_
                refine st0 7040 rfl (ok (neqI _ (29 : Int))) ?_
                refine st0 7104 rfl (ok (pick_f h74 _ (.d (eB (y75 != (29 : Int)))))) ?_
                refine st0 7168 rfl (ok (mv (.d (eB (y75 != (29 : Int)))))) ?_
                rcases Bool.eq_false_or_eq_true ((y75 != (29 : Int))) with h77 | h77
                · replace h := ite_t h h77
                  refine stGN 7232 rfl rfl h77 ?_
                  refine stGN 7296 rfl rfl h77 ?_
                  refine stGN 7360 rfl rfl h77 ?_
                  refine stGN 7424 rfl rfl h77 ?_
                  refine stGN 7488 rfl rfl h77 ?_
                  refine stGN 7552 rfl rfl h77 ?_
                  refine st0 7616 rfl (ok (pick_t h77 (.d (eB true)) _)) ?_
                  refine hK71 _ _ ?_
                  simp only [n0, n1, n2, n3, n4, n5, n6, n7, n8, n9, n10, n11, n12, n13, n14, n15, n16, n17, n18, n19, reduceIte]
                  exact hK55 _ _ _ ⟨_, _, Settled.refl, _, _, ⟨_, h, rfl, rfl⟩, ⟨rfl, ⟨⟨rfl, rfl⟩, ⟨⟨rfl, rfl⟩, ⟨⟨rfl, rfl⟩, ⟨⟨rfl, rfl⟩, ⟨⟨rfl, rfl⟩, ⟨⟨rfl, rfl⟩, ⟨⟨rfl, rfl⟩, ⟨⟨rfl, rfl⟩, trivial⟩⟩⟩⟩⟩⟩⟩⟩, ⟨⟨rfl, rfl⟩, trivial⟩⟩, rfl⟩
                · replace h := ite_f h h77
                  refine stG (isF h77) ?_
                  refine st0 7232 rfl (ok (ld_v (v := .d (.agg [eU64 v37, eB v38, eU64 v39, eI v40, eS v41, eI v42])) rfl rfl rfl)) ?_
                  refine stG (isF h77) ?_
                  refine st0 7296 rfl (ok (mv (.d (eI v43)))) ?_
                  refine stG (isF h77) ?_
                  refine st0 7360 rfl (ok (mv (.d (eU64 a4)))) ?_
                  refine stG (isF h77) ?_
                  refine st0 7424 rfl (ok (mv (.d (eU64 y19)))) ?_
                  refine stG (isF h77) ?_
                  obtain ⟨y78, h79, h⟩ := bind_inv h
                  refine st0 7488 rfl (call_ok (v := .d (eI y78)) (u := []) (ar_d (eTApiToken (TApiToken.mk v37 v38 v39 v40 v41 v42)) (ar_d (eI (999 : Int)) (ar_d (eI v43) (ar_d (eS ([97#8, 46#8, 101#8, 120#8, 97#8, 109#8, 112#8, 108#8, 101#8] : List (BitVec 8))) (ar_d (eU64 a4) (ar_d (eU64 y19) ar_nil)))))) rfl (tokenVerifyOK (TApiToken.mk v37 v38 v39 v40 v41 v42) (999 : Int) v43 ([97#8, 46#8, 101#8, 120#8, 97#8, 109#8, 112#8, 108#8, 101#8] : List (BitVec 8)) a4 y19 y78 h79) rfl) ?_
                  refine stG (isF h77) ?_
                  refine st0 7552 rfl (ok (neqI _ (29 : Int))) ?_
                  refine st0 7616 rfl (ok (pick_f h77 _ (.d (eB (y78 != (29 : Int)))))) ?_
                  refine hK71 _ _ ?_
                  simp only [n0, n1, n2, n3, n4, n5, n6, n7, n8, n9, n10, n11, n12, n13, n14, n15, n16, n17, n18, n19, reduceIte]
                  exact hK55 _ _ _ ⟨_, _, Settled.refl, _, _, ⟨_, h, rfl, rfl⟩, ⟨rfl, ⟨⟨rfl, rfl⟩, ⟨⟨rfl, rfl⟩, ⟨⟨rfl, rfl⟩, ⟨⟨rfl, rfl⟩, ⟨⟨rfl, rfl⟩, ⟨⟨rfl, rfl⟩, ⟨⟨rfl, rfl⟩, ⟨⟨rfl, rfl⟩, trivial⟩⟩⟩⟩⟩⟩⟩⟩, ⟨⟨rfl, rfl⟩, trivial⟩⟩, rfl⟩
          · refine rwp_region fun K80 hK80 => ?_
            refine st0 5312 rfl (ok (mv (.d (eI (w64 ((1 : Int) + ((a2 % (7#8)).toNat : Int))))))) ?_
            refine st0 5376 rfl (ok (mv (.d (eI v43)))) ?_
            obtain ⟨v81, h82, h⟩ := lett_inv h
            refine st0e 5440 rfl (ok (andI _ _)) (congrArg (fun z => PV.d (eI z)) h82) ?_
            refine st0 5504 rfl (ok (neqI _ (0 : Int))) ?_
            refine st0 5568 rfl (ok (mv (.d (eB (v81 != (0 : Int)))))) ?_
            rcases Bool.eq_false_or_eq_true ((v81 != (0 : Int))) with h83 | h83
            · replace h := ite_t h h83
              refine stG (isT h83) ?_
              refine st0 5632 rfl (ok (mv (.d (eU8 a3)))) ?_
              refine stG (isT h83) ?_
              refine st0 5696 rfl (ok (leq8 _ (100#8))) ?_
              refine st0 5760 rfl (ok (pick_t h83 (.d (eB (decide (a3.toNat ≤ (100#8).toNat)))) _)) ?_
              refine st0 5824 rfl (ok (mv (.d (eB (decide (a3.toNat ≤ (100#8).toNat)))))) ?_
              refine hK80 _ _ ?_
              simp only [n0, n1, n2, n3, n4, n5, n6, n7, n8, n9, n10, n11, n12, n13, n14, n15, n16, n17, n18, n19, reduceIte]
              exact hK52 _ _ _ ⟨_, _, Settled.refl, _, _, ⟨_, h, rfl, rfl⟩, ⟨rfl, ⟨⟨rfl, rfl⟩, ⟨⟨rfl, rfl⟩, ⟨⟨rfl, rfl⟩, ⟨⟨rfl, rfl⟩, ⟨⟨rfl, rfl⟩, ⟨⟨rfl, rfl⟩, ⟨⟨rfl, rfl⟩, ⟨⟨rfl, rfl⟩, trivial⟩⟩⟩⟩⟩⟩⟩⟩, ⟨⟨rfl, rfl⟩, trivial⟩⟩, rfl⟩
            · replace h := ite_f h h83
              refine stGN 5632 rfl rfl h83 ?_
              refine stGN 5696 rfl rfl h83 ?_
              refine st0 5760 rfl (ok (pick_f h83 _ (.d (eB false)))) ?_
              refine st0 5824 rfl (ok (mv (.d (eB false)))) ?_
              refine hK80 _ _ ?_
              simp only [n0, n1, n2, n3, n4, n5, n6, n7, n8, n9, n10, n11, n12, n13, n14, n15, n16, n17, n18, n19, reduceIte]
              exact hK52 _ _ _ ⟨_, _, Settled.refl, _, _, ⟨_, h, rfl, rfl⟩, ⟨rfl, ⟨⟨rfl, rfl⟩, ⟨⟨rfl, rfl⟩, ⟨⟨rfl, rfl⟩, ⟨⟨rfl, rfl⟩, ⟨⟨rfl, rfl⟩, ⟨⟨rfl, rfl⟩, ⟨⟨rfl, rfl⟩, ⟨⟨rfl, rfl⟩, trivial⟩⟩⟩⟩⟩⟩⟩⟩, ⟨⟨rfl, rfl⟩, trivial⟩⟩, rfl⟩
        · replace h := ite_f h h48
          refine rwp_f (isF h48) ?_
          refine rwp_exit ?_
          refine hK36 _ _ _ ?_
          exact hK27 _ _ _ ⟨_, _, Settled.refl, _, _, ⟨_, _, _, _, _, _, h, rfl, rfl⟩, ⟨rfl, ⟨⟨rfl, rfl⟩, ⟨⟨rfl, rfl⟩, trivial⟩⟩, ⟨⟨rfl, rfl⟩, trivial⟩⟩, rfl⟩

end Go.Proofs.Ty
