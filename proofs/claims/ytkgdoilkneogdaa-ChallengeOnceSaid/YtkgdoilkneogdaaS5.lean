/- Each Go function comes to what its plain function says. PRINTED by a program of this session (ty.py). -/
import Derived.Test.YtkgdoilkneogdaaS4
set_option linter.unusedVariables false
set_option linter.unusedSimpArgs false
set_option maxHeartbeats 4000000
set_option maxRecDepth 10000
namespace Go.Proofs.Ty
open Go Go.RW Go.Proofs
/-- passkey/passkeylaw29.awake -/
def passkeylaw29awakeH : Hints := ⟨[(0, []), (1, [1, 2, 3]), (2, [1, 2, 3, 4, 5, 6]), (3, [1, 2, 3, 4, 5, 6, 9]), (4, [2, 3, 4, 5, 6, 9, 12]), (5, [0])], []⟩
def passkeylaw29awakeRc : RCode :=
  .seq (.region false [⟨some 0, .mv, [.k (.d (.bool false))], none, []⟩] []) (.seq (.region false [⟨some 14, .call 9 true, [.k (.d (.int .u64 7))], none, []⟩, ⟨some 15, .call 10
  true, [.t 14, .k (.d (.int .i64 2)), .k (.d (.str ⟨#[97, 108, 105, 99, 101]⟩)), .k (.d (.bool false)), .k (.d (.int .i64 10))], none, []⟩, ⟨some 13, .mv, [.t 15], none, []⟩,
  ⟨some 16, .ext 0, [.t 13], none, []⟩, ⟨some 17, .ext 1, [.t 13], none, []⟩, ⟨some 18, .ext 2, [.t 13], none, []⟩, ⟨some 1, .alloc [.d (.int .u64 0), .d (.int .i64 0), .nil 5],
  [], none, []⟩, ⟨none, .store 3, [.t 1, .t 16], none, []⟩, ⟨some 2, .mv, [.t 17], none, []⟩, ⟨some 3, .mv, [.t 18], none, []⟩] [1, 2, 3]) (.seq (.region false [⟨some 20, .load 3
  true, [.t 1], none, []⟩, ⟨some 21, .mv, [.t 2], none, []⟩, ⟨some 22, .call 12 true, [.t 20, .t 21, .k (.d (.int .i64 2)), .k (.d (.int .i64 70))], none, []⟩, ⟨some 19, .mv, [.t
  22], none, []⟩, ⟨some 23, .ext 0, [.t 19], none, []⟩, ⟨some 24, .ext 1, [.t 19], none, []⟩, ⟨some 25, .ext 2, [.t 19], none, []⟩, ⟨some 4, .alloc [.d (.int .u64 0), .d (.int .i64
  0), .nil 5], [], none, []⟩, ⟨some 5, .alloc [.d (.int .i64 0), .d (.int .i64 0), .d (.str ⟨#[]⟩), .d (.bool false), .d (.int .i64 0)], [], none, []⟩, ⟨none, .store 3, [.t 4, .t
  23], none, []⟩, ⟨none, .store 5, [.t 5, .t 24], none, []⟩, ⟨some 6, .mv, [.t 25], none, []⟩] [1, 2, 3, 4, 5, 6]) (.seq (.region false [⟨some 27, .load 3 true, [.t 4], none, []⟩,
  ⟨some 28, .mv, [.t 2], none, []⟩, ⟨some 29, .call 12 true, [.t 27, .t 28, .k (.d (.int .i64 2)), .k (.d (.int .i64 70))], none, []⟩, ⟨some 26, .mv, [.t 29], none, []⟩, ⟨some 30,
  .ext 0, [.t 26], none, []⟩, ⟨some 31, .ext 1, [.t 26], none, []⟩, ⟨some 32, .ext 2, [.t 26], none, []⟩, ⟨some 7, .alloc [.d (.int .u64 0), .d (.int .i64 0), .nil 5], [], none,
  []⟩, ⟨some 8, .alloc [.d (.int .i64 0), .d (.int .i64 0), .d (.str ⟨#[]⟩), .d (.bool false), .d (.int .i64 0)], [], none, []⟩, ⟨none, .store 3, [.t 7, .t 30], none, []⟩, ⟨none,
  .store 5, [.t 8, .t 31], none, []⟩, ⟨some 9, .mv, [.t 32], none, []⟩] [1, 2, 3, 4, 5, 6, 9]) (.seq (.region false [⟨some 34, .load 3 true, [.t 1], none, []⟩, ⟨some 35, .mv, [.t
  2], none, []⟩, ⟨some 36, .call 12 true, [.t 34, .t 35, .k (.d (.int .i64 2)), .k (.d (.int .i64 71))], none, []⟩, ⟨some 33, .mv, [.t 36], none, []⟩, ⟨some 37, .ext 0, [.t 33],
  none, []⟩, ⟨some 38, .ext 1, [.t 33], none, []⟩, ⟨some 39, .ext 2, [.t 33], none, []⟩, ⟨some 10, .alloc [.d (.int .u64 0), .d (.int .i64 0), .nil 5], [], none, []⟩, ⟨some 11,
  .alloc [.d (.int .i64 0), .d (.int .i64 0), .d (.str ⟨#[]⟩), .d (.bool false), .d (.int .i64 0)], [], none, []⟩, ⟨none, .store 3, [.t 10, .t 37], none, []⟩, ⟨none, .store 5, [.t
  11, .t 38], none, []⟩, ⟨some 12, .mv, [.t 39], none, []⟩] [2, 3, 4, 5, 6, 9, 12]) (.seq (.region false [⟨some 40, .mv, [.t 3], none, []⟩, ⟨some 41, .bin .eql, [.t 40, .k (.d
  (.int .i64 0))], none, []⟩, ⟨some 42, .mv, [.t 41], none, []⟩, ⟨some 43, .mv, [.t 6], some (42, true), []⟩, ⟨some 44, .bin .eql, [.t 43, .k (.d (.int .i64 0))], some (42, true),
  []⟩, ⟨some 45, .pick, [.t 42, .t 44, .k (.d (.bool false))], none, []⟩, ⟨some 46, .mv, [.t 45], none, []⟩, ⟨some 47, .mv, [.t 2], some (46, true), []⟩, ⟨some 48, .len, [.t 47],
  some (46, true), []⟩, ⟨some 49, .bin .eql, [.t 48, .k (.d (.int .i64 16))], some (46, true), []⟩, ⟨some 50, .pick, [.t 46, .t 49, .k (.d (.bool false))], none, []⟩, ⟨some 51,
  .mv, [.t 50], none, []⟩, ⟨some 52, .fa 2, [.t 5], some (51, true), []⟩, ⟨some 53, .load 1 false, [.t 52], some (51, true), []⟩, ⟨some 54, .bin .eql, [.t 53, .k (.d (.str ⟨#[97,
  108, 105, 99, 101]⟩))], some (51, true), []⟩, ⟨some 55, .pick, [.t 51, .t 54, .k (.d (.bool false))], none, []⟩, ⟨some 56, .mv, [.t 55], none, []⟩, ⟨some 57, .fa 2, [.t 4], some
  (56, true), []⟩, ⟨some 58, .load 1 false, [.t 57], some (56, true), []⟩, ⟨some 59, .len, [.t 58], some (56, true), []⟩, ⟨some 60, .bin .eql, [.t 59, .k (.d (.int .i64 0))], some
  (56, true), []⟩, ⟨some 61, .pick, [.t 56, .t 60, .k (.d (.bool false))], none, []⟩, ⟨some 62, .mv, [.t 61], none, []⟩, ⟨some 63, .mv, [.t 9], some (62, true), []⟩, ⟨some 64, .bin
  .eql, [.t 63, .k (.d (.int .i64 35))], some (62, true), []⟩, ⟨some 65, .pick, [.t 62, .t 64, .k (.d (.bool false))], none, []⟩, ⟨some 66, .mv, [.t 65], none, []⟩, ⟨some 67, .mv,
  [.t 12], some (66, true), []⟩, ⟨some 68, .bin .eql, [.t 67, .k (.d (.int .i64 35))], some (66, true), []⟩, ⟨some 69, .pick, [.t 66, .t 68, .k (.d (.bool false))], none, []⟩,
  ⟨some 0, .mv, [.t 69], none, []⟩] [0]) .ret)))))
def passkeylaw29awakeRr : List RR := [.t 0]
theorem passkeylaw29awakeC : compFn Try.prog 6 passkeylaw29awakeH = some (passkeylaw29awakeRc, passkeylaw29awakeRr, 70) := by kernel_rfl
theorem passkeylaw29awakeOK  (res : Bool) (h : passkeylaw29awake  = some res) : CallOK Try.prog 6 [] [] (.d (eB res)) [] := by
  unfold passkeylaw29awake at h
  refine callOK passkeylaw29awakeC fm rfl ?_
  simp only [initE, initM, nbor, List.map_cons, List.map_nil, Nat.reduceAdd]
  unfold passkeylaw29awakeRc
  refine rwp_seq fun K1 hK1 => ?_
  refine rwp_region fun K2 hK2 => ?_
  refine st0 128 rfl (ok (mv (.d (eB false)))) ?_
  refine hK2 _ _ ?_
  simp only [thenK, blockK, keepE, updM, List.filter_cons, List.filter_nil, List.nil_append, List.cons_append, List.map_cons, List.map_nil, envE, Mem.get, Nat.reduceEqDiff, reduceIte, Option.isNone_none, Option.isNone_some, Bool.false_eq_true, List.length_cons, List.length_nil, Nat.reduceAdd, Nat.reduceMul]
  refine hK1 _ _ _ ?_
  refine rwp_seq fun K3 hK3 => ?_
  refine rwp_region fun K4 hK4 => ?_
  obtain ⟨y5, h6, h⟩ := bind_inv h
  refine st0 192 rfl (call_ok (v := .d (eTApiChallenges y5)) (u := []) (ar_d (eU64 (7#64)) ar_nil) rfl (challengeNewOK (7#64) y5 h6) rfl) ?_
  obtain ⟨y7, h8, h⟩ := bind_inv h
  refine st1 256 rfl (mem' := [(193, .row true 1 (y7.2.1.map eU8))]) (call_ok (v := .tup [.d (eTApiChallenges y7.1), .ref 193 y7.2.1.length 0 y7.2.1.length, .d (eI y7.2.2)]) (u := [(193, .row true 1 (y7.2.1.map eU8))]) (ar_d (eTApiChallenges y5) (ar_d (eI (2 : Int)) (ar_d (eS ([97#8, 108#8, 105#8, 99#8, 101#8] : List (BitVec 8))) (ar_d (eB false) (ar_d (eI (10 : Int)) ar_nil))))) rfl (challengeIssueOK y5 (2 : Int) ([97#8, 108#8, 105#8, 99#8, 101#8] : List (BitVec 8)) false (10 : Int) y7 h8) rfl) rfl ?_
  refine st0 320 rfl (ok (mv (.tup [.d (eTApiChallenges y7.1), .ref 193 y7.2.1.length 0 y7.2.1.length, .d (eI y7.2.2)]))) ?_
  refine st0 384 rfl (ok (extr (v := .d (eTApiChallenges y7.1)) rfl rfl)) ?_
  refine st0 448 rfl (ok (extr (v := .ref 193 y7.2.1.length 0 y7.2.1.length) rfl rfl)) ?_
  refine st0 512 rfl (ok (extr (v := .d (eI y7.2.2)) rfl rfl)) ?_
  refine st1 576 rfl (mem' := [(512, .var .mine [.d (eU64 (0#64)), .d (eI (0 : Int)), .nil 5]), (193, .row true 1 (y7.2.1.map eU8))]) (ok (alc (zs := [.d (eU64 (0#64)), .d (eI (0 : Int)), .nil 5]))) rfl ?_
  refine stn 640 rfl (mem' := [(512, .var .mine [.d (eU64 y7.1.Secret), .d (eI y7.1.Count), .d ((eL 5 eTApiChallenge) y7.1.Open)]), (193, .row true 1 (y7.2.1.map eU8))]) (ok (sto_v (ps' := [.d (eU64 y7.1.Secret), .d (eI y7.1.Count), .d ((eL 5 eTApiChallenge) y7.1.Open)]) rfl rfl rfl rfl)) rfl ?_
  refine st0 704 rfl (ok (mv (.ref 193 y7.2.1.length 0 y7.2.1.length))) ?_
  refine st0 768 rfl (ok (mv (.d (eI y7.2.2)))) ?_
  refine hK4 _ _ ?_
  simp only [thenK, blockK, keepE, updM, List.filter_cons, List.filter_nil, List.nil_append, List.cons_append, List.map_cons, List.map_nil, envE, Mem.get, Nat.reduceEqDiff, reduceIte, Option.isNone_none, Option.isNone_some, Bool.false_eq_true, List.length_cons, List.length_nil, Nat.reduceAdd, Nat.reduceMul]
  refine hK3 _ _ _ ?_
  refine rwp_seq fun K9 hK9 => ?_
  refine rwp_region fun K10 hK10 => ?_
  refine st0 832 rfl (ok (ld_v (v := .d (.agg [eU64 y7.1.Secret, eI y7.1.Count, (eL 5 eTApiChallenge) y7.1.Open])) rfl rfl rfl)) ?_
  refine st0 896 rfl (ok (mv (.ref 193 y7.2.1.length 0 y7.2.1.length))) ?_
  obtain ⟨y11, h12, h⟩ := bind_inv h
  refine st1 960 rfl (mem' := [(193, .row false 1 (y7.2.1.map eU8)), (512, .var .mine [.d (eU64 y7.1.Secret), .d (eI y7.1.Count), .d ((eL 5 eTApiChallenge) y7.1.Open)])]) (call_ok (v := .tup [.d (eTApiChallenges y11.1), .d (eTApiChallenge y11.2.1), .d (eI y11.2.2)]) (u := [(193, .row false 1 (y7.2.1.map eU8))]) (ar_d (eTApiChallenges (TApiChallenges.mk y7.1.Secret y7.1.Count y7.1.Open)) (ar_to rfl (to_1 rfl (ds_r (ys := y7.2.1) rfl rfl rfl ds_nil)) (ar_d (eI (2 : Int)) (ar_d (eI (70 : Int)) ar_nil)))) rfl (challengeUseOK (TApiChallenges.mk y7.1.Secret y7.1.Count y7.1.Open) y7.2.1 (2 : Int) (70 : Int) y11 h12) rfl) rfl ?_
  refine st0 1024 rfl (ok (mv (.tup [.d (eTApiChallenges y11.1), .d (eTApiChallenge y11.2.1), .d (eI y11.2.2)]))) ?_
  refine st0 1088 rfl (ok (extr (v := .d (eTApiChallenges y11.1)) rfl rfl)) ?_
  refine st0 1152 rfl (ok (extr (v := .d (eTApiChallenge y11.2.1)) rfl rfl)) ?_
  refine st0 1216 rfl (ok (extr (v := .d (eI y11.2.2)) rfl rfl)) ?_
  refine st1 1280 rfl (mem' := [(1216, .var .mine [.d (eU64 (0#64)), .d (eI (0 : Int)), .nil 5]), (193, .row false 1 (y7.2.1.map eU8)), (512, .var .mine [.d (eU64 y7.1.Secret), .d (eI y7.1.Count), .d ((eL 5 eTApiChallenge) y7.1.Open)])]) (ok (alc (zs := [.d (eU64 (0#64)), .d (eI (0 : Int)), .nil 5]))) rfl ?_
  refine st1 1344 rfl (mem' := [(1280, .var .mine [.d (eI (0 : Int)), .d (eI (0 : Int)), .d (eS ([] : List (BitVec 8))), .d (eB false), .d (eI (0 : Int))]), (1216, .var .mine [.d (eU64 (0#64)), .d (eI (0 : Int)), .nil 5]), (193, .row false 1 (y7.2.1.map eU8)), (512, .var .mine [.d (eU64 y7.1.Secret), .d (eI y7.1.Count), .d ((eL 5 eTApiChallenge) y7.1.Open)])]) (ok (alc (zs := [.d (eI (0 : Int)), .d (eI (0 : Int)), .d (eS ([] : List (BitVec 8))), .d (eB false), .d (eI (0 : Int))]))) rfl ?_
  refine stn 1408 rfl (mem' := [(1216, .var .mine [.d (eU64 y11.1.Secret), .d (eI y11.1.Count), .d ((eL 5 eTApiChallenge) y11.1.Open)]), (1280, .var .mine [.d (eI (0 : Int)), .d (eI (0 : Int)), .d (eS ([] : List (BitVec 8))), .d (eB false), .d (eI (0 : Int))]), (193, .row false 1 (y7.2.1.map eU8)), (512, .var .mine [.d (eU64 y7.1.Secret), .d (eI y7.1.Count), .d ((eL 5 eTApiChallenge) y7.1.Open)])]) (ok (sto_v (ps' := [.d (eU64 y11.1.Secret), .d (eI y11.1.Count), .d ((eL 5 eTApiChallenge) y11.1.Open)]) rfl rfl rfl rfl)) rfl ?_
  refine stn 1472 rfl (mem' := [(1280, .var .mine [.d (eI y11.2.1.Number), .d (eI y11.2.1.Kind), .d (eS y11.2.1.Account), .d (eB y11.2.1.Bound), .d (eI y11.2.1.Since)]), (1216, .var .mine [.d (eU64 y11.1.Secret), .d (eI y11.1.Count), .d ((eL 5 eTApiChallenge) y11.1.Open)]), (193, .row false 1 (y7.2.1.map eU8)), (512, .var .mine [.d (eU64 y7.1.Secret), .d (eI y7.1.Count), .d ((eL 5 eTApiChallenge) y7.1.Open)])]) (ok (sto_v (ps' := [.d (eI y11.2.1.Number), .d (eI y11.2.1.Kind), .d (eS y11.2.1.Account), .d (eB y11.2.1.Bound), .d (eI y11.2.1.Since)]) rfl rfl rfl rfl)) rfl ?_
  refine st0 1536 rfl (ok (mv (.d (eI y11.2.2)))) ?_
  refine hK10 _ _ ?_
  simp only [thenK, blockK, keepE, updM, List.filter_cons, List.filter_nil, List.nil_append, List.cons_append, List.map_cons, List.map_nil, envE, Mem.get, Nat.reduceEqDiff, reduceIte, Option.isNone_none, Option.isNone_some, Bool.false_eq_true, List.length_cons, List.length_nil, Nat.reduceAdd, Nat.reduceMul]
  refine hK9 _ _ _ ?_
  refine rwp_seq fun K13 hK13 => ?_
  refine rwp_region fun K14 hK14 => ?_
  refine st0 1600 rfl (ok (ld_v (v := .d (.agg [eU64 y11.1.Secret, eI y11.1.Count, (eL 5 eTApiChallenge) y11.1.Open])) rfl rfl rfl)) ?_
  refine st0 1664 rfl (ok (mv (.ref 193 y7.2.1.length 0 y7.2.1.length))) ?_
  obtain ⟨y15, h16, h⟩ := bind_inv h
  refine st1 1728 rfl (mem' := [(193, .row false 1 (y7.2.1.map eU8)), (1280, .var .mine [.d (eI y11.2.1.Number), .d (eI y11.2.1.Kind), .d (eS y11.2.1.Account), .d (eB y11.2.1.Bound), .d (eI y11.2.1.Since)]), (1216, .var .mine [.d (eU64 y11.1.Secret), .d (eI y11.1.Count), .d ((eL 5 eTApiChallenge) y11.1.Open)]), (512, .var .mine [.d (eU64 y7.1.Secret), .d (eI y7.1.Count), .d ((eL 5 eTApiChallenge) y7.1.Open)])]) (call_ok (v := .tup [.d (eTApiChallenges y15.1), .d (eTApiChallenge y15.2.1), .d (eI y15.2.2)]) (u := [(193, .row false 1 (y7.2.1.map eU8))]) (ar_d (eTApiChallenges (TApiChallenges.mk y11.1.Secret y11.1.Count y11.1.Open)) (ar_to rfl (to_1 rfl (ds_r (ys := y7.2.1) rfl rfl rfl ds_nil)) (ar_d (eI (2 : Int)) (ar_d (eI (70 : Int)) ar_nil)))) rfl (challengeUseOK (TApiChallenges.mk y11.1.Secret y11.1.Count y11.1.Open) y7.2.1 (2 : Int) (70 : Int) y15 h16) rfl) rfl ?_
  refine st0 1792 rfl (ok (mv (.tup [.d (eTApiChallenges y15.1), .d (eTApiChallenge y15.2.1), .d (eI y15.2.2)]))) ?_
  refine st0 1856 rfl (ok (extr (v := .d (eTApiChallenges y15.1)) rfl rfl)) ?_
  refine st0 1920 rfl (ok (extr (v := .d (eTApiChallenge y15.2.1)) rfl rfl)) ?_
  refine st0 1984 rfl (ok (extr (v := .d (eI y15.2.2)) rfl rfl)) ?_
  refine st1 2048 rfl (mem' := [(1984, .var .mine [.d (eU64 (0#64)), .d (eI (0 : Int)), .nil 5]), (193, .row false 1 (y7.2.1.map eU8)), (1280, .var .mine [.d (eI y11.2.1.Number), .d (eI y11.2.1.Kind), .d (eS y11.2.1.Account), .d (eB y11.2.1.Bound), .d (eI y11.2.1.Since)]), (1216, .var .mine [.d (eU64 y11.1.Secret), .d (eI y11.1.Count), .d ((eL 5 eTApiChallenge) y11.1.Open)]), (512, .var .mine [.d (eU64 y7.1.Secret), .d (eI y7.1.Count), .d ((eL 5 eTApiChallenge) y7.1.Open)])]) (ok (alc (zs := [.d (eU64 (0#64)), .d (eI (0 : Int)), .nil 5]))) rfl ?_
  refine st1 2112 rfl (mem' := [(2048, .var .mine [.d (eI (0 : Int)), .d (eI (0 : Int)), .d (eS ([] : List (BitVec 8))), .d (eB false), .d (eI (0 : Int))]), (1984, .var .mine [.d (eU64 (0#64)), .d (eI (0 : Int)), .nil 5]), (193, .row false 1 (y7.2.1.map eU8)), (1280, .var .mine [.d (eI y11.2.1.Number), .d (eI y11.2.1.Kind), .d (eS y11.2.1.Account), .d (eB y11.2.1.Bound), .d (eI y11.2.1.Since)]), (1216, .var .mine [.d (eU64 y11.1.Secret), .d (eI y11.1.Count), .d ((eL 5 eTApiChallenge) y11.1.Open)]), (512, .var .mine [.d (eU64 y7.1.Secret), .d (eI y7.1.Count), .d ((eL 5 eTApiChallenge) y7.1.Open)])]) (ok (alc (zs := [.d (eI (0 : Int)), .d (eI (0 : Int)), .d (eS ([] : List (BitVec 8))), .d (eB false), .d (eI (0 : Int))]))) rfl ?_
  refine stn 2176 rfl (mem' := [(1984, .var .mine [.d (eU64 y15.1.Secret), .d (eI y15.1.Count), .d ((eL 5 eTApiChallenge) y15.1.Open)]), (2048, .var .mine [.d (eI (0 : Int)), .d (eI (0 : Int)), .d (eS ([] : List (BitVec 8))), .d (eB false), .d (eI (0 : Int))]), (193, .row false 1 (y7.2.1.map eU8)), (1280, .var .mine [.d (eI y11.2.1.Number), .d (eI y11.2.1.Kind), .d (eS y11.2.1.Account), .d (eB y11.2.1.Bound), .d (eI y11.2.1.Since)]), (1216, .var .mine [.d (eU64 y11.1.Secret), .d (eI y11.1.Count), .d ((eL 5 eTApiChallenge) y11.1.Open)]), (512, .var .mine [.d (eU64 y7.1.Secret), .d (eI y7.1.Count), .d ((eL 5 eTApiChallenge) y7.1.Open)])]) (ok (sto_v (ps' := [.d (eU64 y15.1.Secret), .d (eI y15.1.Count), .d ((eL 5 eTApiChallenge) y15.1.Open)]) rfl rfl rfl rfl)) rfl ?_
  refine stn 2240 rfl (mem' := [(2048, .var .mine [.d (eI y15.2.1.Number), .d (eI y15.2.1.Kind), .d (eS y15.2.1.Account), .d (eB y15.2.1.Bound), .d (eI y15.2.1.Since)]), (1984, .var .mine [.d (eU64 y15.1.Secret), .d (eI y15.1.Count), .d ((eL 5 eTApiChallenge) y15.1.Open)]), (193, .row false 1 (y7.2.1.map eU8)), (1280, .var .mine [.d (eI y11.2.1.Number), .d (eI y11.2.1.Kind), .d (eS y11.2.1.Account), .d (eB y11.2.1.Bound), .d (eI y11.2.1.Since)]), (1216, .var .mine [.d (eU64 y11.1.Secret), .d (eI y11.1.Count), .d ((eL 5 eTApiChallenge) y11.1.Open)]), (512, .var .mine [.d (eU64 y7.1.Secret), .d (eI y7.1.Count), .d ((eL 5 eTApiChallenge) y7.1.Open)])]) (ok (sto_v (ps' := [.d (eI y15.2.1.Number), .d (eI y15.2.1.Kind), .d (eS y15.2.1.Account), .d (eB y15.2.1.Bound), .d (eI y15.2.1.Since)]) rfl rfl rfl rfl)) rfl ?_
  refine st0 2304 rfl (ok (mv (.d (eI y15.2.2)))) ?_
  refine hK14 _ _ ?_
  simp only [thenK, blockK, keepE, updM, List.filter_cons, List.filter_nil, List.nil_append, List.cons_append, List.map_cons, List.map_nil, envE, Mem.get, Nat.reduceEqDiff, reduceIte, Option.isNone_none, Option.isNone_some, Bool.false_eq_true, List.length_cons, List.length_nil, Nat.reduceAdd, Nat.reduceMul]
  refine hK13 _ _ _ ?_
  refine rwp_seq fun K17 hK17 => ?_
  refine rwp_region fun K18 hK18 => ?_
  refine st0 2368 rfl (ok (ld_v (v := .d (.agg [eU64 y7.1.Secret, eI y7.1.Count, (eL 5 eTApiChallenge) y7.1.Open])) rfl rfl rfl)) ?_
  refine st0 2432 rfl (ok (mv (.ref 193 y7.2.1.length 0 y7.2.1.length))) ?_
  obtain ⟨y19, h20, h⟩ := bind_inv h
  refine st1 2496 rfl (mem' := [(193, .row false 1 (y7.2.1.map eU8)), (2048, .var .mine [.d (eI y15.2.1.Number), .d (eI y15.2.1.Kind), .d (eS y15.2.1.Account), .d (eB y15.2.1.Bound), .d (eI y15.2.1.Since)]), (1984, .var .mine [.d (eU64 y15.1.Secret), .d (eI y15.1.Count), .d ((eL 5 eTApiChallenge) y15.1.Open)]), (1280, .var .mine [.d (eI y11.2.1.Number), .d (eI y11.2.1.Kind), .d (eS y11.2.1.Account), .d (eB y11.2.1.Bound), .d (eI y11.2.1.Since)]), (1216, .var .mine [.d (eU64 y11.1.Secret), .d (eI y11.1.Count), .d ((eL 5 eTApiChallenge) y11.1.Open)]), (512, .var .mine [.d (eU64 y7.1.Secret), .d (eI y7.1.Count), .d ((eL 5 eTApiChallenge) y7.1.Open)])]) (call_ok (v := .tup [.d (eTApiChallenges y19.1), .d (eTApiChallenge y19.2.1), .d (eI y19.2.2)]) (u := [(193, .row false 1 (y7.2.1.map eU8))]) (ar_d (eTApiChallenges (TApiChallenges.mk y7.1.Secret y7.1.Count y7.1.Open)) (ar_to rfl (to_1 rfl (ds_r (ys := y7.2.1) rfl rfl rfl ds_nil)) (ar_d (eI (2 : Int)) (ar_d (eI (71 : Int)) ar_nil)))) rfl (challengeUseOK (TApiChallenges.mk y7.1.Secret y7.1.Count y7.1.Open) y7.2.1 (2 : Int) (71 : Int) y19 h20) rfl) rfl ?_
  refine st0 2560 rfl (ok (mv (.tup [.d (eTApiChallenges y19.1), .d (eTApiChallenge y19.2.1), .d (eI y19.2.2)]))) ?_
  refine st0 2624 rfl (ok (extr (v := .d (eTApiChallenges y19.1)) rfl rfl)) ?_
  refine st0 2688 rfl (ok (extr (v := .d (eTApiChallenge y19.2.1)) rfl rfl)) ?_
  refine st0 2752 rfl (ok (extr (v := .d (eI y19.2.2)) rfl rfl)) ?_
  refine st1 2816 rfl (mem' := [(2752, .var .mine [.d (eU64 (0#64)), .d (eI (0 : Int)), .nil 5]), (193, .row false 1 (y7.2.1.map eU8)), (2048, .var .mine [.d (eI y15.2.1.Number), .d (eI y15.2.1.Kind), .d (eS y15.2.1.Account), .d (eB y15.2.1.Bound), .d (eI y15.2.1.Since)]), (1984, .var .mine [.d (eU64 y15.1.Secret), .d (eI y15.1.Count), .d ((eL 5 eTApiChallenge) y15.1.Open)]), (1280, .var .mine [.d (eI y11.2.1.Number), .d (eI y11.2.1.Kind), .d (eS y11.2.1.Account), .d (eB y11.2.1.Bound), .d (eI y11.2.1.Since)]), (1216, .var .mine [.d (eU64 y11.1.Secret), .d (eI y11.1.Count), .d ((eL 5 eTApiChallenge) y11.1.Open)]), (512, .var .mine [.d (eU64 y7.1.Secret), .d (eI y7.1.Count), .d ((eL 5 eTApiChallenge) y7.1.Open)])]) (ok (alc (zs := [.d (eU64 (0#64)), .d (eI (0 : Int)), .nil 5]))) rfl ?_
  refine st1 2880 rfl (mem' := [(2816, .var .mine [.d (eI (0 : Int)), .d (eI (0 : Int)), .d (eS ([] : List (BitVec 8))), .d (eB false), .d (eI (0 : Int))]), (2752, .var .mine [.d (eU64 (0#64)), .d (eI (0 : Int)), .nil 5]), (193, .row false 1 (y7.2.1.map eU8)), (2048, .var .mine [.d (eI y15.2.1.Number), .d (eI y15.2.1.Kind), .d (eS y15.2.1.Account), .d (eB y15.2.1.Bound), .d (eI y15.2.1.Since)]), (1984, .var .mine [.d (eU64 y15.1.Secret), .d (eI y15.1.Count), .d ((eL 5 eTApiChallenge) y15.1.Open)]), (1280, .var .mine [.d (eI y11.2.1.Number), .d (eI y11.2.1.Kind), .d (eS y11.2.1.Account), .d (eB y11.2.1.Bound), .d (eI y11.2.1.Since)]), (1216, .var .mine [.d (eU64 y11.1.Secret), .d (eI y11.1.Count), .d ((eL 5 eTApiChallenge) y11.1.Open)]), (512, .var .mine [.d (eU64 y7.1.Secret), .d (eI y7.1.Count), .d ((eL 5 eTApiChallenge) y7.1.Open)])]) (ok (alc (zs := [.d (eI (0 : Int)), .d (eI (0 : Int)), .d (eS ([] : List (BitVec 8))), .d (eB false), .d (eI (0 : Int))]))) rfl ?_
  refine stn 2944 rfl (mem' := [(2752, .var .mine [.d (eU64 y19.1.Secret), .d (eI y19.1.Count), .d ((eL 5 eTApiChallenge) y19.1.Open)]), (2816, .var .mine [.d (eI (0 : Int)), .d (eI (0 : Int)), .d (eS ([] : List (BitVec 8))), .d (eB false), .d (eI (0 : Int))]), (193, .row false 1 (y7.2.1.map eU8)), (2048, .var .mine [.d (eI y15.2.1.Number), .d (eI y15.2.1.Kind), .d (eS y15.2.1.Account), .d (eB y15.2.1.Bound), .d (eI y15.2.1.Since)]), (1984, .var .mine [.d (eU64 y15.1.Secret), .d (eI y15.1.Count), .d ((eL 5 eTApiChallenge) y15.1.Open)]), (1280, .var .mine [.d (eI y11.2.1.Number), .d (eI y11.2.1.Kind), .d (eS y11.2.1.Account), .d (eB y11.2.1.Bound), .d (eI y11.2.1.Since)]), (1216, .var .mine [.d (eU64 y11.1.Secret), .d (eI y11.1.Count), .d ((eL 5 eTApiChallenge) y11.1.Open)]), (512, .var .mine [.d (eU64 y7.1.Secret), .d (eI y7.1.Count), .d ((eL 5 eTApiChallenge) y7.1.Open)])]) (ok (sto_v (ps' := [.d (eU64 y19.1.Secret), .d (eI y19.1.Count), .d ((eL 5 eTApiChallenge) y19.1.Open)]) rfl rfl rfl rfl)) rfl ?_
  refine stn 3008 rfl (mem' := [(2816, .var .mine [.d (eI y19.2.1.Number), .d (eI y19.2.1.Kind), .d (eS y19.2.1.Account), .d (eB y19.2.1.Bound), .d (eI y19.2.1.Since)]), (2752, .var .mine [.d (eU64 y19.1.Secret), .d (eI y19.1.Count), .d ((eL 5 eTApiChallenge) y19.1.Open)]), (193, .row false 1 (y7.2.1.map eU8)), (2048, .var .mine [.d (eI y15.2.1.Number), .d (eI y15.2.1.Kind), .d (eS y15.2.1.Account), .d (eB y15.2.1.Bound), .d (eI y15.2.1.Since)]), (1984, .var .mine [.d (eU64 y15.1.Secret), .d (eI y15.1.Count), .d ((eL 5 eTApiChallenge) y15.1.Open)]), (1280, .var .mine [.d (eI y11.2.1.Number), .d (eI y11.2.1.Kind), .d (eS y11.2.1.Account), .d (eB y11.2.1.Bound), .d (eI y11.2.1.Since)]), (1216, .var .mine [.d (eU64 y11.1.Secret), .d (eI y11.1.Count), .d ((eL 5 eTApiChallenge) y11.1.Open)]), (512, .var .mine [.d (eU64 y7.1.Secret), .d (eI y7.1.Count), .d ((eL 5 eTApiChallenge) y7.1.Open)])]) (ok (sto_v (ps' := [.d (eI y19.2.1.Number), .d (eI y19.2.1.Kind), .d (eS y19.2.1.Account), .d (eB y19.2.1.Bound), .d (eI y19.2.1.Since)]) rfl rfl rfl rfl)) rfl ?_
  refine st0 3072 rfl (ok (mv (.d (eI y19.2.2)))) ?_
  refine hK18 _ _ ?_
  simp only [thenK, blockK, keepE, updM, List.filter_cons, List.filter_nil, List.nil_append, List.cons_append, List.map_cons, List.map_nil, envE, Mem.get, Nat.reduceEqDiff, reduceIte, Option.isNone_none, Option.isNone_some, Bool.false_eq_true, List.length_cons, List.length_nil, Nat.reduceAdd, Nat.reduceMul]
  refine hK17 _ _ _ ?_
  refine rwp_seq fun K21 hK21 => ?_
  refine rwp_region fun K22 hK22 => ?_
  refine st0 3136 rfl (ok (mv (.d (eI y7.2.2)))) ?_
  refine st0 3200 rfl (ok (eqlI _ (0 : Int))) ?_
  refine st0 3264 rfl (ok (mv (.d (eB (y7.2.2 == (0 : Int)))))) ?_
  rcases Bool.eq_false_or_eq_true ((y7.2.2 == (0 : Int))) with h23 | h23
  · replace h := ite_t h h23
    refine stG (isT h23) ?_
    refine st0 3328 rfl (ok (mv (.d (eI y11.2.2)))) ?_
    refine stG (isT h23) ?_
    refine st0 3392 rfl (ok (eqlI _ (0 : Int))) ?_
    refine st0 3456 rfl (ok (pick_t h23 (.d (eB (y11.2.2 == (0 : Int)))) _)) ?_
    refine st0 3520 rfl (ok (mv (.d (eB (y11.2.2 == (0 : Int)))))) ?_
    rcases Bool.eq_false_or_eq_true ((y11.2.2 == (0 : Int))) with h24 | h24
    · replace h := ite_t h h24
      refine stG (isT h24) ?_
      refine st0 3584 rfl (ok (mv (.ref 193 y7.2.1.length 0 y7.2.1.length))) ?_
      refine stG (isT h24) ?_
      refine st0 3648 rfl (ok (lenR _ _ _ _)) ?_
      refine stG (isT h24) ?_
      refine st0 3712 rfl (ok (eqlI _ (16 : Int))) ?_
      refine st0 3776 rfl (ok (pick_t h24 (.d (eB ((y7.2.1.length : Int) == (16 : Int)))) _)) ?_
      refine st0 3840 rfl (ok (mv (.d (eB ((y7.2.1.length : Int) == (16 : Int)))))) ?_
      rcases Bool.eq_false_or_eq_true (((y7.2.1.length : Int) == (16 : Int))) with h25 | h25
      · replace h := ite_t h h25
        refine stG (isT h25) ?_
        refine st0 3904 rfl (ok (fa_k 2 rfl)) ?_
        refine stG (isT h25) ?_
        refine st0 3968 rfl (ok (ld_v (v := .d (eS y11.2.1.Account)) rfl rfl rfl)) ?_
        refine stG (isT h25) ?_
        refine st0 4032 rfl (ok (eqlS y11.2.1.Account ([97#8, 108#8, 105#8, 99#8, 101#8] : List (BitVec 8)))) ?_
        refine st0 4096 rfl (ok (pick_t h25 (.d (eB (y11.2.1.Account == ([97#8, 108#8, 105#8, 99#8, 101#8] : List (BitVec 8))))) _)) ?_
        refine st0 4160 rfl (ok (mv (.d (eB (y11.2.1.Account == ([97#8, 108#8, 105#8, 99#8, 101#8] : List (BitVec 8))))))) ?_
        rcases Bool.eq_false_or_eq_true ((y11.2.1.Account == ([97#8, 108#8, 105#8, 99#8, 101#8] : List (BitVec 8)))) with h26 | h26
        · replace h := ite_t h h26
          refine stG (isT h26) ?_
          refine st0 4224 rfl (ok (fa_k 2 rfl)) ?_
          refine stG (isT h26) ?_
          refine st0 4288 rfl (ok (ld_v (v := .d ((eL 5 eTApiChallenge) y11.1.Open)) rfl rfl rfl)) ?_
          refine stG (isT h26) ?_
          refine st0 4352 rfl (ok (lenL _ _)) ?_
          refine stG (isT h26) ?_
          refine st0 4416 rfl (ok (eqlI _ (0 : Int))) ?_
          refine st0 4480 rfl (ok (pick_t h26 (.d (eB ((y11.1.Open.length : Int) == (0 : Int)))) _)) ?_
          refine st0 4544 rfl (ok (mv (.d (eB ((y11.1.Open.length : Int) == (0 : Int)))))) ?_
          rcases Bool.eq_false_or_eq_true (((y11.1.Open.length : Int) == (0 : Int))) with h27 | h27
          · replace h := ite_t h h27
            refine stG (isT h27) ?_
            refine st0 4608 rfl (ok (mv (.d (eI y15.2.2)))) ?_
            refine stG (isT h27) ?_
            refine st0 4672 rfl (ok (eqlI _ (35 : Int))) ?_
            refine st0 4736 rfl (ok (pick_t h27 (.d (eB (y15.2.2 == (35 : Int)))) _)) ?_
            refine st0 4800 rfl (ok (mv (.d (eB (y15.2.2 == (35 : Int)))))) ?_
            rcases Bool.eq_false_or_eq_true ((y15.2.2 == (35 : Int))) with h28 | h28
            · replace h := ite_t h h28
              refine stG (isT h28) ?_
              refine st0 4864 rfl (ok (mv (.d (eI y19.2.2)))) ?_
              refine stG (isT h28) ?_
              refine st0 4928 rfl (ok (eqlI _ (35 : Int))) ?_
              refine st0 4992 rfl (ok (pick_t h28 (.d (eB (y19.2.2 == (35 : Int)))) _)) ?_
              refine st0 5056 rfl (ok (mv (.d (eB (y19.2.2 == (35 : Int)))))) ?_
              refine hK22 _ _ ?_
              simp only [thenK, blockK, keepE, updM, List.filter_cons, List.filter_nil, List.nil_append, List.cons_append, List.map_cons, List.map_nil, envE, Mem.get, Nat.reduceEqDiff, reduceIte, Option.isNone_none, Option.isNone_some, Bool.false_eq_true, List.length_cons, List.length_nil, Nat.reduceAdd, Nat.reduceMul]
              refine hK21 _ _ _ ?_
              refine rwp_ret ?_
              obtain rfl := Option.some.inj h
              try simp only [thenK, blockK, reduceIte]
              exact Or.inl (end_ok trivial (rs_t (v := .d (eB (y19.2.2 == (35 : Int)))) rfl rs_nil) (en_d (to_d _) en_nil) ou_nil (by first | exact eok rfl rfl rfl rfl trivial | (refine eok ?_ ?_ ?_ ?_ ?_ <;> first | rfl | exact trivial | simp [retM, Mem.get, PV.renL, PV.ren, Blk.ren, comps, rhoR, rhoM, appN, PV.refsL, PV.refs, keys, nodupB, Blk.refs, allIn, Blk.bor])))
            · replace h := ite_f h h28
              refine stGN 4864 rfl rfl h28 ?_
              refine stGN 4928 rfl rfl h28 ?_
              refine st0 4992 rfl (ok (pick_f h28 _ (.d (eB false)))) ?_
              refine st0 5056 rfl (ok (mv (.d (eB false)))) ?_
              refine hK22 _ _ ?_
              simp only [thenK, blockK, keepE, updM, List.filter_cons, List.filter_nil, List.nil_append, List.cons_append, List.map_cons, List.map_nil, envE, Mem.get, Nat.reduceEqDiff, reduceIte, Option.isNone_none, Option.isNone_some, Bool.false_eq_true, List.length_cons, List.length_nil, Nat.reduceAdd, Nat.reduceMul]
              refine hK21 _ _ _ ?_
              refine rwp_ret ?_
              obtain rfl := Option.some.inj h
              try simp only [thenK, blockK, reduceIte]
              exact Or.inl (end_ok trivial (rs_t (v := .d (eB false)) rfl rs_nil) (en_d (to_d _) en_nil) ou_nil (by first | exact eok rfl rfl rfl rfl trivial | (refine eok ?_ ?_ ?_ ?_ ?_ <;> first | rfl | exact trivial | simp [retM, Mem.get, PV.renL, PV.ren, Blk.ren, comps, rhoR, rhoM, appN, PV.refsL, PV.refs, keys, nodupB, Blk.refs, allIn, Blk.bor])))
          · replace h := ite_f h h27
            refine stGN 4608 rfl rfl h27 ?_
            refine stGN 4672 rfl rfl h27 ?_
            refine st0 4736 rfl (ok (pick_f h27 _ (.d (eB false)))) ?_
            refine st0 4800 rfl (ok (mv (.d (eB false)))) ?_
            refine stGN 4864 rfl rfl rfl ?_
            refine stGN 4928 rfl rfl rfl ?_
            refine st0 4992 rfl (ok (pick_f rfl _ (.d (eB false)))) ?_
            refine st0 5056 rfl (ok (mv (.d (eB false)))) ?_
            refine hK22 _ _ ?_
            simp only [thenK, blockK, keepE, updM, List.filter_cons, List.filter_nil, List.nil_append, List.cons_append, List.map_cons, List.map_nil, envE, Mem.get, Nat.reduceEqDiff, reduceIte, Option.isNone_none, Option.isNone_some, Bool.false_eq_true, List.length_cons, List.length_nil, Nat.reduceAdd, Nat.reduceMul]
            refine hK21 _ _ _ ?_
            refine rwp_ret ?_
            obtain rfl := Option.some.inj h
            try simp only [thenK, blockK, reduceIte]
            exact Or.inl (end_ok trivial (rs_t (v := .d (eB false)) rfl rs_nil) (en_d (to_d _) en_nil) ou_nil (by first | exact eok rfl rfl rfl rfl trivial | (refine eok ?_ ?_ ?_ ?_ ?_ <;> first | rfl | exact trivial | simp [retM, Mem.get, PV.renL, PV.ren, Blk.ren, comps, rhoR, rhoM, appN, PV.refsL, PV.refs, keys, nodupB, Blk.refs, allIn, Blk.bor])))
        · replace h := ite_f h h26
          refine stGN 4224 rfl rfl h26 ?_
          refine stGN 4288 rfl rfl h26 ?_
          refine stGN 4352 rfl rfl h26 ?_
          refine stGN 4416 rfl rfl h26 ?_
          refine st0 4480 rfl (ok (pick_f h26 _ (.d (eB false)))) ?_
          refine st0 4544 rfl (ok (mv (.d (eB false)))) ?_
          refine stGN 4608 rfl rfl rfl ?_
          refine stGN 4672 rfl rfl rfl ?_
          refine st0 4736 rfl (ok (pick_f rfl _ (.d (eB false)))) ?_
          refine st0 4800 rfl (ok (mv (.d (eB false)))) ?_
          refine stGN 4864 rfl rfl rfl ?_
          refine stGN 4928 rfl rfl rfl ?_
          refine st0 4992 rfl (ok (pick_f rfl _ (.d (eB false)))) ?_
          refine st0 5056 rfl (ok (mv (.d (eB false)))) ?_
          refine hK22 _ _ ?_
          simp only [thenK, blockK, keepE, updM, List.filter_cons, List.filter_nil, List.nil_append, List.cons_append, List.map_cons, List.map_nil, envE, Mem.get, Nat.reduceEqDiff, reduceIte, Option.isNone_none, Option.isNone_some, Bool.false_eq_true, List.length_cons, List.length_nil, Nat.reduceAdd, Nat.reduceMul]
          refine hK21 _ _ _ ?_
          refine rwp_ret ?_
          obtain rfl := Option.some.inj h
          try simp only [thenK, blockK, reduceIte]
          exact Or.inl (end_ok trivial (rs_t (v := .d (eB false)) rfl rs_nil) (en_d (to_d _) en_nil) ou_nil (by first | exact eok rfl rfl rfl rfl trivial | (refine eok ?_ ?_ ?_ ?_ ?_ <;> first | rfl | exact trivial | simp [retM, Mem.get, PV.renL, PV.ren, Blk.ren, comps, rhoR, rhoM, appN, PV.refsL, PV.refs, keys, nodupB, Blk.refs, allIn, Blk.bor])))
      · replace h := ite_f h h25
        refine stGN 3904 rfl rfl h25 ?_
        refine stGN 3968 rfl rfl h25 ?_
        refine stGN 4032 rfl rfl h25 ?_
        refine st0 4096 rfl (ok (pick_f h25 _ (.d (eB false)))) ?_
        refine st0 4160 rfl (ok (mv (.d (eB false)))) ?_
        refine stGN 4224 rfl rfl rfl ?_
        refine stGN 4288 rfl rfl rfl ?_
        refine stGN 4352 rfl rfl rfl ?_
        refine stGN 4416 rfl rfl rfl ?_
        refine st0 4480 rfl (ok (pick_f rfl _ (.d (eB false)))) ?_
        refine st0 4544 rfl (ok (mv (.d (eB false)))) ?_
        refine stGN 4608 rfl rfl rfl ?_
        refine stGN 4672 rfl rfl rfl ?_
        refine st0 4736 rfl (ok (pick_f rfl _ (.d (eB false)))) ?_
        refine st0 4800 rfl (ok (mv (.d (eB false)))) ?_
        refine stGN 4864 rfl rfl rfl ?_
        refine stGN 4928 rfl rfl rfl ?_
        refine st0 4992 rfl (ok (pick_f rfl _ (.d (eB false)))) ?_
        refine st0 5056 rfl (ok (mv (.d (eB false)))) ?_
        refine hK22 _ _ ?_
        simp only [thenK, blockK, keepE, updM, List.filter_cons, List.filter_nil, List.nil_append, List.cons_append, List.map_cons, List.map_nil, envE, Mem.get, Nat.reduceEqDiff, reduceIte, Option.isNone_none, Option.isNone_some, Bool.false_eq_true, List.length_cons, List.length_nil, Nat.reduceAdd, Nat.reduceMul]
        refine hK21 _ _ _ ?_
        refine rwp_ret ?_
        obtain rfl := Option.some.inj h
        try simp only [thenK, blockK, reduceIte]
        exact Or.inl (end_ok trivial (rs_t (v := .d (eB false)) rfl rs_nil) (en_d (to_d _) en_nil) ou_nil (by first | exact eok rfl rfl rfl rfl trivial | (refine eok ?_ ?_ ?_ ?_ ?_ <;> first | rfl | exact trivial | simp [retM, Mem.get, PV.renL, PV.ren, Blk.ren, comps, rhoR, rhoM, appN, PV.refsL, PV.refs, keys, nodupB, Blk.refs, allIn, Blk.bor])))
    · replace h := ite_f h h24
      refine stGN 3584 rfl rfl h24 ?_
      refine stGN 3648 rfl rfl h24 ?_
      refine stGN 3712 rfl rfl h24 ?_
      refine st0 3776 rfl (ok (pick_f h24 _ (.d (eB false)))) ?_
      refine st0 3840 rfl (ok (mv (.d (eB false)))) ?_
      refine stGN 3904 rfl rfl rfl ?_
      refine stGN 3968 rfl rfl rfl ?_
      refine stGN 4032 rfl rfl rfl ?_
      refine st0 4096 rfl (ok (pick_f rfl _ (.d (eB false)))) ?_
      refine st0 4160 rfl (ok (mv (.d (eB false)))) ?_
      refine stGN 4224 rfl rfl rfl ?_
      refine stGN 4288 rfl rfl rfl ?_
      refine stGN 4352 rfl rfl rfl ?_
      refine stGN 4416 rfl rfl rfl ?_
      refine st0 4480 rfl (ok (pick_f rfl _ (.d (eB false)))) ?_
      refine st0 4544 rfl (ok (mv (.d (eB false)))) ?_
      refine stGN 4608 rfl rfl rfl ?_
      refine stGN 4672 rfl rfl rfl ?_
      refine st0 4736 rfl (ok (pick_f rfl _ (.d (eB false)))) ?_
      refine st0 4800 rfl (ok (mv (.d (eB false)))) ?_
      refine stGN 4864 rfl rfl rfl ?_
      refine stGN 4928 rfl rfl rfl ?_
      refine st0 4992 rfl (ok (pick_f rfl _ (.d (eB false)))) ?_
      refine st0 5056 rfl (ok (mv (.d (eB false)))) ?_
      refine hK22 _ _ ?_
      simp only [thenK, blockK, keepE, updM, List.filter_cons, List.filter_nil, List.nil_append, List.cons_append, List.map_cons, List.map_nil, envE, Mem.get, Nat.reduceEqDiff, reduceIte, Option.isNone_none, Option.isNone_some, Bool.false_eq_true, List.length_cons, List.length_nil, Nat.reduceAdd, Nat.reduceMul]
      refine hK21 _ _ _ ?_
      refine rwp_ret ?_
      obtain rfl := Option.some.inj h
      try simp only [thenK, blockK, reduceIte]
      exact Or.inl (end_ok trivial (rs_t (v := .d (eB false)) rfl rs_nil) (en_d (to_d _) en_nil) ou_nil (by first | exact eok rfl rfl rfl rfl trivial | (refine eok ?_ ?_ ?_ ?_ ?_ <;> first | rfl | exact trivial | simp [retM, Mem.get, PV.renL, PV.ren, Blk.ren, comps, rhoR, rhoM, appN, PV.refsL, PV.refs, keys, nodupB, Blk.refs, allIn, Blk.bor])))
  · replace h := ite_f h h23
    refine stGN 3328 rfl rfl h23 ?_
    refine stGN 3392 rfl rfl h23 ?_
    refine st0 3456 rfl (ok (pick_f h23 _ (.d (eB false)))) ?_
    refine st0 3520 rfl (ok (mv (.d (eB false)))) ?_
    refine stGN 3584 rfl rfl rfl ?_
    refine stGN 3648 rfl rfl rfl ?_
    refine stGN 3712 rfl rfl rfl ?_
    refine st0 3776 rfl (ok (pick_f rfl _ (.d (eB false)))) ?_
    refine st0 3840 rfl (ok (mv (.d (eB false)))) ?_
    refine stGN 3904 rfl rfl rfl ?_
    refine stGN 3968 rfl rfl rfl ?_
    refine stGN 4032 rfl rfl rfl ?_
    refine st0 4096 rfl (ok (pick_f rfl _ (.d (eB false)))) ?_
    refine st0 4160 rfl (ok (mv (.d (eB false)))) ?_
    refine stGN 4224 rfl rfl rfl ?_
    refine stGN 4288 rfl rfl rfl ?_
    refine stGN 4352 rfl rfl rfl ?_
    refine stGN 4416 rfl rfl rfl ?_
    refine st0 4480 rfl (ok (pick_f rfl _ (.d (eB false)))) ?_
    refine st0 4544 rfl (ok (mv (.d (eB false)))) ?_
    refine stGN 4608 rfl rfl rfl ?_
    refine stGN 4672 rfl rfl rfl ?_
    refine st0 4736 rfl (ok (pick_f rfl _ (.d (eB false)))) ?_
    refine st0 4800 rfl (ok (mv (.d (eB false)))) ?_
    refine stGN 4864 rfl rfl rfl ?_
    refine stGN 4928 rfl rfl rfl ?_
    refine st0 4992 rfl (ok (pick_f rfl _ (.d (eB false)))) ?_
    refine st0 5056 rfl (ok (mv (.d (eB false)))) ?_
    refine hK22 _ _ ?_
    simp only [thenK, blockK, keepE, updM, List.filter_cons, List.filter_nil, List.nil_append, List.cons_append, List.map_cons, List.map_nil, envE, Mem.get, Nat.reduceEqDiff, reduceIte, Option.isNone_none, Option.isNone_some, Bool.false_eq_true, List.length_cons, List.length_nil, Nat.reduceAdd, Nat.reduceMul]
    refine hK21 _ _ _ ?_
    refine rwp_ret ?_
    obtain rfl := Option.some.inj h
    try simp only [thenK, blockK, reduceIte]
    exact Or.inl (end_ok trivial (rs_t (v := .d (eB false)) rfl rs_nil) (en_d (to_d _) en_nil) ou_nil (by first | exact eok rfl rfl rfl rfl trivial | (refine eok ?_ ?_ ?_ ?_ ?_ <;> first | rfl | exact trivial | simp [retM, Mem.get, PV.renL, PV.ren, Blk.ren, comps, rhoR, rhoM, appN, PV.refsL, PV.refs, keys, nodupB, Blk.refs, allIn, Blk.bor])))

/-- passkey/passkeyref1.Words -/
def passkeyref1WordsH : Hints := ⟨[(0, [0]), (1, [0, 3]), (2, [0, 3, 4]), (3, [0, 3, 4, 9]), (5, [0, 3, 4, 5]), (6, [0, 3, 4, 5, 13]), (8, [0, 3, 4, 5]), (7, [0, 3, 4, 5]), (4, [0, 3, 4]), (9, [2])], []⟩
def passkeyref1WordsRc : RCode :=
  .seq (.region false [⟨some 2, .mv, [.k (.nil 1)], none, []⟩] [0]) (.seq (.region false [⟨some 3, .mv, [.k (.nil 1)], none, []⟩] [0, 3]) (.seq (.seq (.region false [⟨some 4, .mv,
  [.k (.d (.int .i64 0))], none, []⟩] [0, 3, 4]) (.block 0 (.loop [] (.seq (.seq (.region false [⟨some 6, .mv, [.t 4], none, []⟩, ⟨some 7, .mv, [.t 0], none, []⟩, ⟨some 8, .len,
  [.t 7], none, []⟩, ⟨some 9, .bin .lss, [.t 6, .t 8], none, []⟩] [0, 3, 4, 9]) (.cond (.t 9) .skip (.exit 0))) (.seq (.block 1 (.seq (.region false [⟨some 5, .mv, [.k (.d (.int
  .i64 7))], none, []⟩] [0, 3, 4, 5]) (.block 2 (.loop [] (.seq (.seq (.region false [⟨some 12, .mv, [.t 5], none, []⟩, ⟨some 13, .bin .geq, [.t 12, .k (.d (.int .i64 0))], none,
  []⟩] [0, 3, 4, 5, 13]) (.cond (.t 13) .skip (.exit 2))) (.seq (.block 3 (.region false [⟨some 16, .mv, [.t 3], none, []⟩, ⟨some 17, .mv, [.t 0], none, []⟩, ⟨some 18, .mv, [.t 4],
  none, []⟩, ⟨some 19, .ia 1, [.t 17, .t 18], none, []⟩, ⟨some 20, .load 1 false, [.t 19], none, []⟩, ⟨some 21, .mv, [.t 5], none, []⟩, ⟨some 22, .bin .mul, [.k (.d (.int .i64 8)),
  .t 21], none, []⟩, ⟨some 23, .cvt .u64, [.t 22], none, []⟩, ⟨some 24, .bin .shr, [.t 20, .t 23], none, []⟩, ⟨some 25, .cvt .u8, [.t 24], none, []⟩, ⟨some 26, .bslice 1 false 1
  [.d (.int .u8 0)] [0], [.t 25], none, []⟩, ⟨some 27, .app 1 140737488355328, [.t 16, .t 26], none, []⟩, ⟨some 3, .mv, [.t 27], none, []⟩] [0, 3, 4, 5])) (.region false [⟨some 14,
  .mv, [.t 5], none, []⟩, ⟨some 15, .bin .sub, [.t 14, .k (.d (.int .i64 1))], none, []⟩, ⟨some 5, .mv, [.t 15], none, []⟩] [0, 3, 4, 5]))))))) (.region false [⟨some 10, .mv, [.t
  4], none, []⟩, ⟨some 11, .bin .add, [.t 10, .k (.d (.int .i64 1))], none, []⟩, ⟨some 4, .mv, [.t 11], none, []⟩] [0, 3, 4])))))) (.seq (.region false [⟨some 28, .mv, [.t 3],
  none, []⟩, ⟨some 2, .mv, [.t 28], none, []⟩] [2]) .ret)))
def passkeyref1WordsRr : List RR := [.t 2]
theorem passkeyref1WordsC : compFn Try.prog 15 passkeyref1WordsH = some (passkeyref1WordsRc, passkeyref1WordsRr, 29) := by kernel_rfl
theorem passkeyref1WordsOK (a0 : List (BitVec 64)) (res : List (BitVec 8)) (h : passkeyref1Words a0 = some res) : CallOK Try.prog 15 [.d ((eL 1 eU64) a0)] [] (.ref 0 res.length 0 res.length) [(0, .row true 1 (res.map eU8))] := by
  unfold passkeyref1Words at h
  refine callOK passkeyref1WordsC fm rfl ?_
  simp only [initE, initM, nbor, List.map_cons, List.map_nil, Nat.reduceAdd]
  unfold passkeyref1WordsRc
  refine rwp_seq fun K1 hK1 => ?_
  refine rwp_region fun K2 hK2 => ?_
  refine st0 128 rfl (ok (mv (.nil 1))) ?_
  refine hK2 _ _ ?_
  simp only [thenK, blockK, keepE, updM, List.filter_cons, List.filter_nil, List.nil_append, List.cons_append, List.map_cons, List.map_nil, envE, Mem.get, Nat.reduceEqDiff, reduceIte, Option.isNone_none, Option.isNone_some, Bool.false_eq_true, List.length_cons, List.length_nil, Nat.reduceAdd, Nat.reduceMul]
  refine hK1 _ _ _ ?_
  refine rwp_seq fun K3 hK3 => ?_
  refine rwp_region fun K4 hK4 => ?_
  refine st0 192 rfl (ok (mv (.nil 1))) ?_
  refine hK4 _ _ ?_
  simp only [thenK, blockK, keepE, updM, List.filter_cons, List.filter_nil, List.nil_append, List.cons_append, List.map_cons, List.map_nil, envE, Mem.get, Nat.reduceEqDiff, reduceIte, Option.isNone_none, Option.isNone_some, Bool.false_eq_true, List.length_cons, List.length_nil, Nat.reduceAdd, Nat.reduceMul]
  refine hK3 _ _ _ ?_
  refine rwp_join ([], []) 2816 (fun env mem => ∃ (v5 : List (BitVec 8)), passkeyref1WordsJ1 v5 = some res ∧ env = [(3, .ref 2433 v5.length 0 v5.length)] ∧ mem = [(2433, .row true 1 (v5.map eU8))]) (fun _ _ hI => ?_) (fun K6 hK6 => ?_)
  · obtain ⟨v5, h, rfl, rfl⟩ := hI
    unfold passkeyref1WordsJ1 at h
    refine rwp_seq fun K7 hK7 => ?_
    refine rwp_region fun K8 hK8 => ?_
    refine st0 2880 rfl (ok (mv (.ref 2433 v5.length 0 v5.length))) ?_
    refine st0 2944 rfl (ok (mv (.ref 2433 v5.length 0 v5.length))) ?_
    refine hK8 _ _ ?_
    simp only [thenK, blockK, keepE, updM, List.filter_cons, List.filter_nil, List.nil_append, List.cons_append, List.map_cons, List.map_nil, envE, Mem.get, Nat.reduceEqDiff, reduceIte, Option.isNone_none, Option.isNone_some, Bool.false_eq_true, List.length_cons, List.length_nil, Nat.reduceAdd, Nat.reduceMul]
    refine hK7 _ _ _ ?_
    refine rwp_ret ?_
    obtain rfl := Option.some.inj h
    try simp only [thenK, blockK, reduceIte]
    exact Or.inl (end_ok trivial (rs_t (v := .ref 2433 v5.length 0 v5.length) rfl rs_nil) (en_ref en_nil) ou_nil (by first | exact eok rfl rfl rfl rfl (And.intro (And.intro rfl rfl) trivial) | (refine eok ?_ ?_ ?_ ?_ ?_ <;> first | rfl | exact (And.intro (And.intro rfl rfl) trivial) | simp [retM, Mem.get, PV.renL, PV.ren, Blk.ren, comps, rhoR, rhoM, appN, PV.refsL, PV.refs, keys, nodupB, Blk.refs, allIn, Blk.bor])))
  · refine rwp_seq fun K9 hK9 => ?_
    refine rwp_region fun K10 hK10 => ?_
    refine st0 256 rfl (ok (mv (.d (eI (0 : Int))))) ?_
    refine hK10 _ _ ?_
    simp only [thenK, blockK, keepE, updM, List.filter_cons, List.filter_nil, List.nil_append, List.cons_append, List.map_cons, List.map_nil, envE, Mem.get, Nat.reduceEqDiff, reduceIte, Option.isNone_none, Option.isNone_some, Bool.false_eq_true, List.length_cons, List.length_nil, Nat.reduceAdd, Nat.reduceMul]
    refine hK9 _ _ _ ?_
    refine rwp_block fun K11 hK11 => ?_
    refine rwp_loop ([(3, 2433)], []) 2496 (fun k env mem => ∃ (v12 : List (BitVec 8)) (v13 : Int), passkeyref1WordsL2 a0 k v12 v13 = some res ∧ env = [(0, .d ((eL 1 eU64) a0)), (3, .ref 2433 v12.length 0 v12.length), (4, .d (eI v13))] ∧ mem = [(2433, .row true 1 (v12.map eU8))]) FUEL ⟨_, _, Settled.refl, _, _, ⟨_, _, h, rfl, rfl⟩, ⟨rfl, ⟨⟨rfl, rfl⟩, ⟨⟨rfl, rfl⟩, ⟨⟨rfl, rfl⟩, trivial⟩⟩⟩, ⟨⟨rfl, rfl⟩, trivial⟩⟩, rfl⟩ (fun k2 env1 mem1 hI K14 hK14 => ?_)
    obtain ⟨v12, v13, h, rfl, rfl⟩ := hI
    cases k2 with
    | zero => simp [passkeyref1WordsL2] at h
    | succ k2 =>
      rw [passkeyref1WordsL2] at h
      refine rwp_seq fun K15 hK15 => ?_
      refine rwp_seq fun K16 hK16 => ?_
      refine rwp_region fun K17 hK17 => ?_
      refine st0 2560 rfl (ok (mv (.d (eI v13)))) ?_
      refine st0 2624 rfl (ok (mv (.d ((eL 1 eU64) a0)))) ?_
      refine st0 2688 rfl (ok (lenL _ _)) ?_
      refine st0 2752 rfl (ok (lssI _ _)) ?_
      refine hK17 _ _ ?_
      simp only [thenK, blockK, keepE, updM, List.filter_cons, List.filter_nil, List.nil_append, List.cons_append, List.map_cons, List.map_nil, envE, Mem.get, Nat.reduceEqDiff, reduceIte, Option.isNone_none, Option.isNone_some, Bool.false_eq_true, List.length_cons, List.length_nil, Nat.reduceAdd, Nat.reduceMul]
      refine hK16 _ _ _ ?_
      rcases Bool.eq_false_or_eq_true ((decide (v13 < (a0.length : Int)))) with h18 | h18
      · replace h := ite_t h h18
        refine rwp_t (isT h18) ?_
        refine rwp_skip ?_
        refine hK15 _ _ _ ?_
        refine rwp_join ([], []) 4288 (fun env mem => ∃ (v19 : List (BitVec 8)), passkeyref1WordsJ3 (passkeyref1WordsL2 a0 k2) v13 v19 = some res ∧ env = [(0, .d ((eL 1 eU64) a0)), (3, .ref 2433 v19.length 0 v19.length), (4, .d (eI v13))] ∧ mem = [(2433, .row true 1 (v19.map eU8))]) (fun _ _ hI => ?_) (fun K20 hK20 => ?_)
        · obtain ⟨v19, h, rfl, rfl⟩ := hI
          unfold passkeyref1WordsJ3 at h
          refine rwp_region fun K21 hK21 => ?_
          refine st0 4352 rfl (ok (mv (.d (eI v13)))) ?_
          refine st0 4416 rfl (ok (addI _ (1 : Int))) ?_
          refine st0 4480 rfl (ok (mv (.d (eI (w64 (v13 + (1 : Int))))))) ?_
          refine hK21 _ _ ?_
          simp only [thenK, blockK, keepE, updM, List.filter_cons, List.filter_nil, List.nil_append, List.cons_append, List.map_cons, List.map_nil, envE, Mem.get, Nat.reduceEqDiff, reduceIte, Option.isNone_none, Option.isNone_some, Bool.false_eq_true, List.length_cons, List.length_nil, Nat.reduceAdd, Nat.reduceMul]
          exact hK14.out _ _ _ k2 (Nat.lt_succ_self k2) ⟨_, _, Settled.refl, _, _, ⟨_, _, h, rfl, rfl⟩, ⟨rfl, ⟨⟨rfl, rfl⟩, ⟨⟨rfl, rfl⟩, ⟨⟨rfl, rfl⟩, trivial⟩⟩⟩, ⟨⟨rfl, rfl⟩, trivial⟩⟩, rfl⟩
        · refine rwp_block fun K22 hK22 => ?_
          refine rwp_seq fun K23 hK23 => ?_
          refine rwp_region fun K24 hK24 => ?_
          refine st0 2816 rfl (ok (mv (.d (eI (7 : Int))))) ?_
          refine hK24 _ _ ?_
          simp only [thenK, blockK, keepE, updM, List.filter_cons, List.filter_nil, List.nil_append, List.cons_append, List.map_cons, List.map_nil, envE, Mem.get, Nat.reduceEqDiff, reduceIte, Option.isNone_none, Option.isNone_some, Bool.false_eq_true, List.length_cons, List.length_nil, Nat.reduceAdd, Nat.reduceMul]
          refine hK23 _ _ _ ?_
          refine rwp_block fun K25 hK25 => ?_
          refine rwp_loop ([], []) 4096 (fun k env mem => ∃ (v26 : List (BitVec 8)) (v27 : Int), passkeyref1WordsL4 (passkeyref1WordsL2 a0 k2) a0 v13 k v26 v27 = some res ∧ env = [(0, .d ((eL 1 eU64) a0)), (3, .ref 2433 v26.length 0 v26.length), (4, .d (eI v13)), (5, .d (eI v27))] ∧ mem = [(2433, .row true 1 (v26.map eU8))]) FUEL ⟨_, _, Settled.refl, _, _, ⟨_, _, h, rfl, rfl⟩, ⟨rfl, ⟨⟨rfl, rfl⟩, ⟨⟨rfl, rfl⟩, ⟨⟨rfl, rfl⟩, ⟨⟨rfl, rfl⟩, trivial⟩⟩⟩⟩, ⟨⟨rfl, rfl⟩, trivial⟩⟩, rfl⟩ (fun k4 env1 mem1 hI K28 hK28 => ?_)
          obtain ⟨v26, v27, h, rfl, rfl⟩ := hI
          cases k4 with
          | zero => simp [passkeyref1WordsL4] at h
          | succ k4 =>
            rw [passkeyref1WordsL4] at h
            refine rwp_seq fun K29 hK29 => ?_
            refine rwp_seq fun K30 hK30 => ?_
            refine rwp_region fun K31 hK31 => ?_
            refine st0 4160 rfl (ok (mv (.d (eI v27)))) ?_
            refine st0 4224 rfl (ok (geqI _ (0 : Int))) ?_
            refine hK31 _ _ ?_
            simp only [thenK, blockK, keepE, updM, List.filter_cons, List.filter_nil, List.nil_append, List.cons_append, List.map_cons, List.map_nil, envE, Mem.get, Nat.reduceEqDiff, reduceIte, Option.isNone_none, Option.isNone_some, Bool.false_eq_true, List.length_cons, List.length_nil, Nat.reduceAdd, Nat.reduceMul]
            refine hK30 _ _ _ ?_
            rcases Bool.eq_false_or_eq_true ((decide ((0 : Int) ≤ v27))) with h32 | h32
            · replace h := ite_t h h32
              refine rwp_t (isT h32) ?_
              refine rwp_skip ?_
              refine hK29 _ _ _ ?_
              refine rwp_seq fun K33 hK33 => ?_
              refine rwp_block fun K34 hK34 => ?_
              refine rwp_region fun K35 hK35 => ?_
              refine st0 4288 rfl (ok (mv (.ref 2433 v26.length 0 v26.length))) ?_
              refine st0 4352 rfl (ok (mv (.d ((eL 1 eU64) a0)))) ?_
              refine st0 4416 rfl (ok (mv (.d (eI v13)))) ?_
              obtain ⟨h36, h⟩ := asq_inv h
              refine st0 4480 rfl (ok (iaL (e := eU64) (xs := a0) 0#64 h36)) ?_
              refine st0 4544 rfl (ok (ld_i (v := eU64 (a0.getD v13.toNat 0#64)) rfl rfl)) ?_
              refine st0 4608 rfl (ok (mv (.d (eI v27)))) ?_
              refine st0 4672 rfl (ok (mulI (8 : Int) _)) ?_
              refine st0 4736 rfl (ok (ofI64 _ (w64 ((8 : Int) * v27)))) ?_
              obtain ⟨v37, h38, h⟩ := lett_inv h
              refine st0e 4800 rfl (ok (shr64_64 _ _)) (congrArg (fun z => PV.d (eU64 z)) h38) ?_
              refine st0 4864 rfl (ok (cvt64_8 _)) ?_
              refine st1 4928 rfl (mem' := [(4864, .row true 1 (([(v37.setWidth 8)] : List (BitVec 8)).map eU8)), (2433, .row true 1 (v26.map eU8))]) (ok (bsl (e := eU8) (ys := ([(v37.setWidth 8)] : List (BitVec 8))) rfl rfl rfl)) rfl ?_
              obtain ⟨h39, h⟩ := asq_inv h
              refine st1 4992 rfl (mem' := [(2433, .row true 1 ((v26 ++ ([(v37.setWidth 8)] : List (BitVec 8))).map eU8)), (4864, .row true 1 (([(v37.setWidth 8)] : List (BitVec 8)).map eU8))]) (ok (appR (e := eU8) (xs := v26) (ys := ([(v37.setWidth 8)] : List (BitVec 8))) (contR (xs := ([(v37.setWidth 8)] : List (BitVec 8))) rfl rfl rfl) rfl rfl rfl h39)) rfl ?_
              refine st0 5056 rfl (ok (mv (.ref 2433 (((v26 ++ ([(v37.setWidth 8)] : List (BitVec 8)))).length) 0 (((v26 ++ ([(v37.setWidth 8)] : List (BitVec 8)))).length)))) ?_
              refine hK35 _ _ ?_
              simp only [thenK, blockK, keepE, updM, List.filter_cons, List.filter_nil, List.nil_append, List.cons_append, List.map_cons, List.map_nil, envE, Mem.get, Nat.reduceEqDiff, reduceIte, Option.isNone_none, Option.isNone_some, Bool.false_eq_true, List.length_cons, List.length_nil, Nat.reduceAdd, Nat.reduceMul]
              refine hK34 _ _ _ ?_
              refine hK33 _ _ _ ?_
              refine rwp_region fun K40 hK40 => ?_
              refine st0 5120 rfl (ok (mv (.d (eI v27)))) ?_
              refine st0 5184 rfl (ok (subI _ (1 : Int))) ?_
              refine st0 5248 rfl (ok (mv (.d (eI (w64 (v27 - (1 : Int))))))) ?_
              refine hK40 _ _ ?_
              simp only [thenK, blockK, keepE, updM, List.filter_cons, List.filter_nil, List.nil_append, List.cons_append, List.map_cons, List.map_nil, envE, Mem.get, Nat.reduceEqDiff, reduceIte, Option.isNone_none, Option.isNone_some, Bool.false_eq_true, List.length_cons, List.length_nil, Nat.reduceAdd, Nat.reduceMul]
              exact hK28.out _ _ _ k4 (Nat.lt_succ_self k4) ⟨_, _, Settled.refl, _, _, ⟨_, _, h, rfl, rfl⟩, ⟨rfl, ⟨⟨rfl, rfl⟩, ⟨⟨rfl, rfl⟩, ⟨⟨rfl, rfl⟩, ⟨⟨rfl, rfl⟩, trivial⟩⟩⟩⟩, ⟨⟨rfl, rfl⟩, trivial⟩⟩, rfl⟩
            · replace h := ite_f h h32
              refine rwp_f (isF h32) ?_
              refine rwp_exit ?_
              refine hK25 _ _ _ ?_
              refine hK22 _ _ _ ?_
              exact hK20 _ _ _ ⟨_, _, Settled.refl, _, _, ⟨_, h, rfl, rfl⟩, ⟨rfl, ⟨⟨rfl, rfl⟩, ⟨⟨rfl, rfl⟩, ⟨⟨rfl, rfl⟩, trivial⟩⟩⟩, ⟨⟨rfl, rfl⟩, trivial⟩⟩, rfl⟩
      · replace h := ite_f h h18
        refine rwp_f (isF h18) ?_
        refine rwp_exit ?_
        refine hK11 _ _ _ ?_
        exact hK6 _ _ _ ⟨_, _, Settled.refl, _, _, ⟨_, h, rfl, rfl⟩, ⟨rfl, ⟨⟨rfl, rfl⟩, trivial⟩, ⟨⟨rfl, rfl⟩, trivial⟩⟩, rfl⟩

/-- passkey/passkeyref1.rotl -/
def passkeyref1rotlH : Hints := ⟨[(0, [0, 1]), (1, [4])], []⟩
def passkeyref1rotlRc : RCode :=
  .seq (.region false [⟨some 4, .mv, [.k (.d (.int .u64 0))], none, []⟩] [0, 1]) (.seq (.region false [⟨some 5, .mv, [.t 0], none, []⟩, ⟨some 6, .mv, [.t 1], none, []⟩, ⟨some 7, .bin
  .shl, [.t 5, .t 6], none, []⟩, ⟨some 8, .mv, [.t 0], none, []⟩, ⟨some 9, .mv, [.t 1], none, []⟩, ⟨some 10, .bin .sub, [.k (.d (.int .u64 64)), .t 9], none, []⟩, ⟨some 11, .bin
  .shr, [.t 8, .t 10], none, []⟩, ⟨some 12, .bin .or, [.t 7, .t 11], none, []⟩, ⟨some 4, .mv, [.t 12], none, []⟩] [4]) .ret)
def passkeyref1rotlRr : List RR := [.t 4]
theorem passkeyref1rotlC : compFn Try.prog 26 passkeyref1rotlH = some (passkeyref1rotlRc, passkeyref1rotlRr, 13) := by kernel_rfl
theorem passkeyref1rotlOK (a0 : BitVec 64) (a1 : BitVec 64) (res : BitVec 64) (h : passkeyref1rotl a0 a1 = some res) : CallOK Try.prog 26 [.d (eU64 a0), .d (eU64 a1)] [] (.d (eU64 res)) [] := by
  unfold passkeyref1rotl at h
  refine callOK passkeyref1rotlC fm rfl ?_
  simp only [initE, initM, nbor, List.map_cons, List.map_nil, Nat.reduceAdd]
  unfold passkeyref1rotlRc
  refine rwp_seq fun K1 hK1 => ?_
  refine rwp_region fun K2 hK2 => ?_
  refine st0 128 rfl (ok (mv (.d (eU64 (0#64))))) ?_
  refine hK2 _ _ ?_
  simp only [thenK, blockK, keepE, updM, List.filter_cons, List.filter_nil, List.nil_append, List.cons_append, List.map_cons, List.map_nil, envE, Mem.get, Nat.reduceEqDiff, reduceIte, Option.isNone_none, Option.isNone_some, Bool.false_eq_true, List.length_cons, List.length_nil, Nat.reduceAdd, Nat.reduceMul]
  refine hK1 _ _ _ ?_
  refine rwp_seq fun K3 hK3 => ?_
  refine rwp_region fun K4 hK4 => ?_
  refine st0 192 rfl (ok (mv (.d (eU64 a0)))) ?_
  refine st0 256 rfl (ok (mv (.d (eU64 a1)))) ?_
  refine st0 320 rfl (ok (shl64_64 _ _)) ?_
  refine st0 384 rfl (ok (mv (.d (eU64 a0)))) ?_
  refine st0 448 rfl (ok (mv (.d (eU64 a1)))) ?_
  refine st0 512 rfl (ok (sub64 (64#64) _)) ?_
  refine st0 576 rfl (ok (shr64_64 _ _)) ?_
  refine st0 640 rfl (ok (or64 _ _)) ?_
  refine st0 704 rfl (ok (mv (.d (eU64 ((a0 <<< a1.toNat) ||| (a0 >>> ((64#64) - a1).toNat)))))) ?_
  refine hK4 _ _ ?_
  simp only [thenK, blockK, keepE, updM, List.filter_cons, List.filter_nil, List.nil_append, List.cons_append, List.map_cons, List.map_nil, envE, Mem.get, Nat.reduceEqDiff, reduceIte, Option.isNone_none, Option.isNone_some, Bool.false_eq_true, List.length_cons, List.length_nil, Nat.reduceAdd, Nat.reduceMul]
  refine hK3 _ _ _ ?_
  refine rwp_ret ?_
  obtain rfl := Option.some.inj h
  try simp only [thenK, blockK, reduceIte]
  exact Or.inl (end_ok trivial (rs_t (v := .d (eU64 ((a0 <<< a1.toNat) ||| (a0 >>> ((64#64) - a1).toNat)))) rfl rs_nil) (en_d (to_d _) en_nil) ou_nil (by first | exact eok rfl rfl rfl rfl trivial | (refine eok ?_ ?_ ?_ ?_ ?_ <;> first | rfl | exact trivial | simp [retM, Mem.get, PV.renL, PV.ren, Blk.ren, comps, rhoR, rhoM, appN, PV.refsL, PV.refs, keys, nodupB, Blk.refs, allIn, Blk.bor])))

end Go.Proofs.Ty
