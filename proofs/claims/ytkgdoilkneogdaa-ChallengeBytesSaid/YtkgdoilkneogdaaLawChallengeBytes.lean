/- ChallengeBytes: the law ChallengeBytes returns true for every input, and each argument reads behind the call as it read before; no further condition. -/
import Derived.Test.YtkgdoilkneogdaaRows
import Derived.Test.YtkgdoilkneogdaaS9
import Derived.Test.YtkgdoilkneogdaaPChal
import Derived.WalkKit
import Derived.ProofKit
import Derived.OpenShut
import Derived.ShutString
import Derived.ChangeOld
import Derived.Below
import Derived.SizedLaws
namespace Go.Proofs.Ytkgdoilkneogdaa.challengeBytes
open Go.ChangeShapes Go.WideShapes Go.ChangeAt Go.RowKit Go.RW
open Go.ChangeMaps (open_string shut_string)
set_option linter.unusedVariables false
theorem own : ownKnob Try.prog.godebug = none := by kernel_rfl
theorem laidOut : laidOutB Try.prog = true := by kernel_rfl
theorem op27 {H : Type} {enc : TypeId × Value → H} {W : World} {sp : Nat → Bool} {held : Bool} : OpenL enc Try.prog W sp held 27 (fun s : Ty.TApiChallenge => [eI s.Number, eI s.Kind, eS s.Account, eB s.Bound, eI s.Since]) Ty.okTApiChallenge := openL_st Try.underlying27 (openF_cons (o' := 1) rfl (by kernel_rfl) (openL_i Try.underlying3) (openF_cons (o' := 2) rfl (by kernel_rfl) (openL_i Try.underlying3) (openF_cons (o' := 3) rfl (by kernel_rfl) (openL_s Try.underlying9) (openF_cons (o' := 4) rfl (by kernel_rfl) (openL_b Try.underlying4) (openF_cons (o' := 5) rfl (by kernel_rfl) (openL_i Try.underlying3) openF_nil))))) (by kernel_rfl) (fun y => ⟨y.1, y.2.1, y.2.2.1, y.2.2.2.1, y.2.2.2.2.1⟩) (fun y => rfl) (fun y h => h)
theorem op23 {H : Type} {enc : TypeId × Value → H} {W : World} {sp : Nat → Bool} {held : Bool} : OpenL enc Try.prog W sp held 23 (fun s : List (Ty.TApiChallenge) => [(eL 5 Ty.eTApiChallenge) s]) (okL Ty.okTApiChallenge) := openL_sl Try.underlying23 (by kernel_rfl) (by decide) op27 (fun y cs h => RepL_cells h)
theorem op25 {H : Type} {enc : TypeId × Value → H} {W : World} {sp : Nat → Bool} {held : Bool} : OpenL enc Try.prog W sp held 25 (fun s : Ty.TApiChallenges => [eU64 s.Secret, eI s.Count, (eL 5 Ty.eTApiChallenge) s.Open]) Ty.okTApiChallenges := openL_st Try.underlying25 (openF_cons (o' := 1) rfl (by kernel_rfl) (openL_u64 Try.underlying22) (openF_cons (o' := 2) rfl (by kernel_rfl) (openL_i Try.underlying3) (openF_cons (o' := 3) rfl (by kernel_rfl) op23 openF_nil))) (by kernel_rfl) (fun y => ⟨y.1, y.2.1, y.2.2.1⟩) (fun y => rfl) (fun y h => h)
set_option maxRecDepth 100000 in
theorem lifted (os : Os) (started : os.Started) (H : Type) (enc : TypeId × Value → H) :
    ReturnsInHanded {} Try.checked os 3 .any (Rows.challengeBytesSpec.pre6 enc Try.prog Try.f3 Rows.challengeBytesRow.domain false) (Rows.challengeBytesSpec.post enc Try.prog Try.f3 false true false false) := by
  refine returnsInHanded_of_change_sized (C := Try.checked) own started (by kernel_rfl) Try.func3
    (ChangeSpec.witness6 (enc := enc) (C := Try.checked) false ⟨#[], #[.agg #[.int .u64 0, .int .i64 0, .slice none 0 0], .agg #[.int .i64 0, .int .i64 0, .string ByteArray.empty, .bool false, .int .i64 0]], []⟩ 8 (by kernel_rfl) (by kernel_rfl) (by kernel_rfl) (by kernel_rfl)) ?_
  intro W base args ds gs before hval0 hW hcnd hsz0 _
  have hsz : (DataW.weightsEach Try.prog (Try.f3.params.toList ++ Rows.challengeBytesSpec.plain.varTypes Try.prog) (ds ++ gs)).all (· ≤ reachBytes) = true := hsz0
  have hval : ∀ (j : Nat) t v, Try.f3.params[j]? = some t → args[j]? = some v → Value.okWide Try.prog W .any base t v := hval0
  have hW' := hW
  obtain ⟨p, q, hA0, hV, rfl, hfz, hnd⟩ := hW
  have hA : DataW.TrodAll enc Try.prog W 0 (fun _ => true) true Try.f3.params.toList args.toList ds p := hA0
  rw [Try.params3] at hA hval hsz
  obtain ⟨v0, vs0, d0, ds0, p0, q0, hargs, rfl, rfl, h0, r0⟩ := trodAll_cons hA
  obtain ⟨v1, vs1, d1, ds1, p1, q1, rfl, rfl, rfl, h1, r1⟩ := trodAll_cons r0
  obtain ⟨rfl, rfl, rfl⟩ := trodAll_nil r1
  obtain rfl : args = #[v0, v1] := by cases args; simp_all
  obtain ⟨rfl, rfl⟩ := trodVars_none hV
  have k0 := h0
  have lt0 : ∀ x ∈ p0, x.block < W.heap.size := by obtain ⟨m, hm⟩ := k0; exact DataW.trod_lt m _ _ _ hm
  obtain ⟨y0, w0, z0⟩ := arg_st Try.underlying25 (hval 0 25 v0 rfl rfl) op25 h0
  have k1 := h1
  have lt1 : ∀ x ∈ p1, x.block < W.heap.size := by obtain ⟨m, hm⟩ := k1; exact DataW.trod_lt m _ _ _ hm
  obtain ⟨y1, w1, z1⟩ := arg_st Try.underlying27 (hval 1 27 v1 rfl rfl) op27 h1
  clear hA0 hval0 hsz0 hsz
  refine (law_calls (vs := [v0, v1]) (Ty.passkeylaw29ChallengeBytesOK y0 y1 true (Ty.challengeBytes_holds y0 y1 z0 z1)) Try.func3 (by kernel_rfl) (by kernel_rfl) (args_cons w0 (args_cons w1 args_nil))).mono fun e W' ⟨he, bel⟩ => ?_
  subst he
  exact ⟨_, rfl, _, _, _, [], _, [], hW', trodAll_mk1 (shut_bool Try.underlying4 _), (trodAll_cons_mk (Below.trod laidOut (by kernel_rfl) (of_decide_eq_true (by kernel_rfl)) k0 bel lt0) (trodAll_cons_mk (Below.trod laidOut (by kernel_rfl) (of_decide_eq_true (by kernel_rfl)) k1 bel lt1) trodAll_mk0)), rfl, bel.frame _, fun h => by cases h⟩
theorem over : Rows.challengeBytesRow.holds Try.pinned (OpenSpec.ofChange Rows.challengeBytesSpec) :=
  OpenClaim.holds_of_wide 3 Try.f3 rfl rfl rfl rfl rfl rfl rfl ⟨rfl, rfl, rfl, rfl, rfl⟩ rfl rfl rfl rfl rfl (by kernel_rfl) Try.func3 (by kernel_rfl)
    (of_decide_eq_true (by kernel_rfl)) (by unfold Func.isWrapper; first | (rw [if_pos (by decide +kernel)]; kernel_rfl) | (rw [if_neg (by decide +kernel)]; exact ⟨rfl, rfl⟩))
    (fun os started H enc _ => lifted os started H enc)
theorem proved : Rows.ChallengeBytesSaid := over
#print axioms proved
end Go.Proofs.Ytkgdoilkneogdaa.challengeBytes
namespace Go.Proofs.Ytkgdoilkneogdaa
theorem challengeBytes_holds : Rows.ChallengeBytesSaid := challengeBytes.proved
end Go.Proofs.Ytkgdoilkneogdaa
