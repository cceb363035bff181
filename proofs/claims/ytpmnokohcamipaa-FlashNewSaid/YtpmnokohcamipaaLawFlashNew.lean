/- FlashNew: the law FlashNew returns true for every input, and each argument reads behind the call as it read before; no further condition. -/
import Derived.Test.YtpmnokohcamipaaRows
import Derived.Test.YtpmnokohcamipaaS4
import Derived.Test.YtpmnokohcamipaaLFlashNew
import Derived.WalkKit
import Derived.ProofKit
import Derived.OpenShut
import Derived.ShutString
import Derived.ChangeOld
import Derived.Below
import Derived.SizedLaws
namespace Go.Proofs.Ytpmnokohcamipaa.flashNew
open Go.ChangeShapes Go.WideShapes Go.ChangeAt Go.RowKit Go.RW
open Go.ChangeMaps (open_string shut_string)
set_option linter.unusedVariables false
theorem own : ownKnob Try.prog.godebug = none := by kernel_rfl
theorem laidOut : laidOutB Try.prog = true := by kernel_rfl
theorem op22 {H : Type} {enc : TypeId × Value → H} {W : World} {sp : Nat → Bool} {held : Bool} : OpenL enc Try.prog W sp held 22 (fun s : List (BitVec 8) => [(eL 1 eU8) s]) (okL okT) := openL_sl Try.underlying22 (by kernel_rfl) (by decide) (openL_u8 Try.underlying5) (fun y cs h => RepL_single h)
theorem op24 {H : Type} {enc : TypeId × Value → H} {W : World} {sp : Nat → Bool} {held : Bool} : OpenL enc Try.prog W sp held 24 (fun s : Ty.TApiFlash => [eI s.PageSize, (eL 1 eU8) s.Bytes]) Ty.okTApiFlash := openL_st Try.underlying24 (openF_cons (o' := 1) rfl (by kernel_rfl) (openL_i Try.underlying3) (openF_cons (o' := 2) rfl (by kernel_rfl) op22 openF_nil)) (by kernel_rfl) (fun y => ⟨y.1, y.2.1⟩) (fun y => rfl) (fun y h => h)
set_option maxRecDepth 100000 in
theorem lifted (os : Os) (started : os.Started) (H : Type) (enc : TypeId × Value → H) :
    ReturnsInHanded {} Try.checked os 3 .any (Rows.flashNewSpec.pre6 enc Try.prog Try.f3 Rows.flashNewRow.domain false) (Rows.flashNewSpec.post enc Try.prog Try.f3 false true false false) := by
  refine returnsInHanded_of_change_sized (C := Try.checked) own started (by kernel_rfl) Try.func3
    (ChangeSpec.witness6 (enc := enc) (C := Try.checked) false ⟨#[], #[.int .i64 0, .int .i64 0, .int .i64 0, .agg #[.int .i64 0, .slice none 0 0]], []⟩ 8 (by kernel_rfl) (by kernel_rfl) (by kernel_rfl) (by kernel_rfl)) ?_
  intro W base args ds gs before hval0 hW hcnd hsz0 _
  have hsz : (DataW.weightsEach Try.prog (Try.f3.params.toList ++ Rows.flashNewSpec.plain.varTypes Try.prog) (ds ++ gs)).all (· ≤ reachBytes) = true := hsz0
  have hval : ∀ (j : Nat) t v, Try.f3.params[j]? = some t → args[j]? = some v → Value.okWide Try.prog W .any base t v := hval0
  have hW' := hW
  obtain ⟨p, q, hA0, hV, rfl, hfz, hnd⟩ := hW
  have hA : DataW.TrodAll enc Try.prog W 0 (fun _ => true) true Try.f3.params.toList args.toList ds p := hA0
  rw [Try.params3] at hA hval hsz
  obtain ⟨v0, vs0, d0, ds0, p0, q0, hargs, rfl, rfl, h0, r0⟩ := trodAll_cons hA
  obtain ⟨v1, vs1, d1, ds1, p1, q1, rfl, rfl, rfl, h1, r1⟩ := trodAll_cons r0
  obtain ⟨v2, vs2, d2, ds2, p2, q2, rfl, rfl, rfl, h2, r2⟩ := trodAll_cons r1
  obtain ⟨v3, vs3, d3, ds3, p3, q3, rfl, rfl, rfl, h3, r3⟩ := trodAll_cons r2
  obtain ⟨rfl, rfl, rfl⟩ := trodAll_nil r3
  obtain rfl : args = #[v0, v1, v2, v3] := by cases args; simp_all
  obtain ⟨rfl, rfl⟩ := trodVars_none hV
  obtain ⟨a0, rfl, rfl, rfl, w0⟩ := open_int Try.underlying3 (hval 0 3 v0 rfl rfl) h0
  obtain ⟨a1, rfl, rfl, rfl, w1⟩ := open_int Try.underlying3 (hval 1 3 v1 rfl rfl) h1
  obtain ⟨a2, rfl, rfl, rfl, w2⟩ := open_int Try.underlying3 (hval 2 3 v2 rfl rfl) h2
  have k3 := h3
  have lt3 : ∀ x ∈ p3, x.block < W.heap.size := by obtain ⟨m, hm⟩ := k3; exact DataW.trod_lt m _ _ _ hm
  obtain ⟨y3, w3, z3⟩ := arg_st Try.underlying24 (hval 3 24 v3 rfl rfl) op24 h3
  clear hA0 hval0 hsz0 hsz
  refine (law_calls (vs := [.int .i64 a0, .int .i64 a1, .int .i64 a2, v3]) (Ty.passkeylaw7FlashNewOK a0 a1 a2 y3 true (Ty.flashNew_holds a0 a1 a2 y3 (i64_of_wf w0) (i64_of_wf w1) (i64_of_wf w2) z3)) Try.func3 (by kernel_rfl) (by kernel_rfl) (args_cons rep_i (args_cons rep_i (args_cons rep_i (args_cons w3 args_nil))))).mono fun e W' ⟨he, bel⟩ => ?_
  subst he
  exact ⟨_, rfl, _, _, _, [], _, [], hW', trodAll_mk1 (shut_bool Try.underlying4 _), (trodAll_cons_mk (shut_int Try.underlying3 w0) (trodAll_cons_mk (shut_int Try.underlying3 w1) (trodAll_cons_mk (shut_int Try.underlying3 w2) (trodAll_cons_mk (Below.trod laidOut (by kernel_rfl) (of_decide_eq_true (by kernel_rfl)) k3 bel lt3) trodAll_mk0)))), rfl, bel.frame _, fun h => by cases h⟩
theorem over : Rows.flashNewRow.holds Try.pinned (OpenSpec.ofChange Rows.flashNewSpec) :=
  OpenClaim.holds_of_wide 3 Try.f3 rfl rfl rfl rfl rfl rfl rfl ⟨rfl, rfl, rfl, rfl, rfl⟩ rfl rfl rfl rfl rfl (by kernel_rfl) Try.func3 (by kernel_rfl)
    (of_decide_eq_true (by kernel_rfl)) (by unfold Func.isWrapper; first | (rw [if_pos (by decide +kernel)]; kernel_rfl) | (rw [if_neg (by decide +kernel)]; exact ⟨rfl, rfl⟩))
    (fun os started H enc _ => lifted os started H enc)
theorem proved : Rows.FlashNewSaid := over
#print axioms proved
end Go.Proofs.Ytpmnokohcamipaa.flashNew
namespace Go.Proofs.Ytpmnokohcamipaa
theorem flashNew_holds : Rows.FlashNewSaid := flashNew.proved
end Go.Proofs.Ytpmnokohcamipaa
