/- SharingValues: the law SharingValues returns true for every input, and each argument reads behind the call as it read before; no further condition. -/
import Derived.Test.YtkiffaadahpbkaaRows
import Derived.Test.YtkiffaadahpbkaaS11
import Derived.Test.YtkiffaadahpbkaaPValues
import Derived.WalkKit
import Derived.ProofKit
import Derived.OpenShut
import Derived.ShutString
import Derived.ChangeOld
import Derived.Below
import Derived.SizedLaws
namespace Go.Proofs.Ytkiffaadahpbkaa.sharingValues
open Go.ChangeShapes Go.WideShapes Go.ChangeAt Go.RowKit Go.RW
open Go.ChangeMaps (open_string shut_string)
set_option linter.unusedVariables false
theorem own : ownKnob Try.prog.godebug = none := by kernel_rfl
theorem laidOut : laidOutB Try.prog = true := by kernel_rfl
theorem op26 {H : Type} {enc : TypeId × Value → H} {W : World} {sp : Nat → Bool} {held : Bool} : OpenL enc Try.prog W sp held 26 (fun s : List (BitVec 8) => [(eL 1 eU8) s]) (okL okT) := openL_sl Try.underlying26 (by kernel_rfl) (by decide) (openL_u8 Try.underlying5) (fun y cs h => RepL_single h)
theorem op37 {H : Type} {enc : TypeId × Value → H} {W : World} {sp : Nat → Bool} {held : Bool} : OpenL enc Try.prog W sp held 37 (fun s : Ty.TApiShare => [eI s.X, (eL 1 eU8) s.Data]) Ty.okTApiShare := openL_st Try.underlying37 (openF_cons (o' := 1) rfl (by kernel_rfl) (openL_i Try.underlying3) (openF_cons (o' := 2) rfl (by kernel_rfl) op26 openF_nil)) (by kernel_rfl) (fun y => ⟨y.1, y.2.1⟩) (fun y => rfl) (fun y h => h)
theorem op29 {H : Type} {enc : TypeId × Value → H} {W : World} {sp : Nat → Bool} {held : Bool} : OpenL enc Try.prog W sp held 29 (fun s : List (Ty.TApiShare) => [(eL 2 Ty.eTApiShare) s]) (okL Ty.okTApiShare) := openL_sl Try.underlying29 (by kernel_rfl) (by decide) op37 (fun y cs h => RepL_cells h)
set_option maxRecDepth 100000 in
theorem lifted (os : Os) (started : os.Started) (H : Type) (enc : TypeId × Value → H) :
    ReturnsInHanded {} Try.checked os 5 .any (Rows.sharingValuesSpec.pre6 enc Try.prog Try.f5 Rows.sharingValuesRow.domain false) (Rows.sharingValuesSpec.post enc Try.prog Try.f5 false true false false) := by
  refine returnsInHanded_of_change_sized (C := Try.checked) own started (by kernel_rfl) Try.func5
    (ChangeSpec.witness6 (enc := enc) (C := Try.checked) false ⟨#[], #[.slice none 0 0, .int .i64 0, .slice none 0 0], []⟩ 8 (by kernel_rfl) (by kernel_rfl) (by kernel_rfl) (by kernel_rfl)) ?_
  intro W base args ds gs before hval0 hW hcnd hsz0 _
  have hsz : (DataW.weightsEach Try.prog (Try.f5.params.toList ++ Rows.sharingValuesSpec.plain.varTypes Try.prog) (ds ++ gs)).all (· ≤ reachBytes) = true := hsz0
  have hval : ∀ (j : Nat) t v, Try.f5.params[j]? = some t → args[j]? = some v → Value.okWide Try.prog W .any base t v := hval0
  have hW' := hW
  obtain ⟨p, q, hA0, hV, rfl, hfz, hnd⟩ := hW
  have hA : DataW.TrodAll enc Try.prog W 0 (fun _ => true) true Try.f5.params.toList args.toList ds p := hA0
  rw [Try.params5] at hA hval hsz
  obtain ⟨v0, vs0, d0, ds0, p0, q0, hargs, rfl, rfl, h0, r0⟩ := trodAll_cons hA
  obtain ⟨v1, vs1, d1, ds1, p1, q1, rfl, rfl, rfl, h1, r1⟩ := trodAll_cons r0
  obtain ⟨v2, vs2, d2, ds2, p2, q2, rfl, rfl, rfl, h2, r2⟩ := trodAll_cons r1
  obtain ⟨rfl, rfl, rfl⟩ := trodAll_nil r2
  obtain rfl : args = #[v0, v1, v2] := by cases args; simp_all
  obtain ⟨rfl, rfl⟩ := trodVars_none hV
  have k0 := h0
  have lt0 : ∀ x ∈ p0, x.block < W.heap.size := by obtain ⟨m, hm⟩ := k0; exact DataW.trod_lt m _ _ _ hm
  obtain ⟨y0, w0, z0⟩ := arg_sl Try.underlying29 (fun _ => rfl) (hval 0 29 v0 rfl rfl) op29 h0
  obtain ⟨a1, rfl, rfl, rfl, w1⟩ := open_int Try.underlying3 (hval 1 3 v1 rfl rfl) h1
  obtain ⟨a2, len2, cap2, rfl⟩ := okWide_slice Try.underlying35 (hval 2 35 v2 rfl rfl)
  have k2 := h2
  have lt2 : ∀ x ∈ p2, x.block < W.heap.size := by obtain ⟨m, hm⟩ := k2; exact DataW.trod_lt m _ _ _ hm
  obtain ⟨z2, w2⟩ : ∃ zs, IsRow .i64 W a2 len2 cap2 zs := by
    obtain ⟨fuel, hf⟩ := h2
    rcases open_ints Try.underlying35 Try.underlying3 (by kernel_rfl) hf with ⟨hcs, _⟩ | ⟨x, l, c, zs, hcs, _, hl, hm, hz, _, hcell, hwz⟩
    · simp [Value.cells] at hcs
      obtain ⟨rfl, rfl, rfl⟩ := hcs
      exact ⟨[], .inl ⟨rfl, rfl, rfl, rfl⟩⟩
    · simp [Value.cells] at hcs
      obtain ⟨rfl, rfl, rfl⟩ := hcs
      exact ⟨zs, .inr ⟨_, rfl, hl, hm, by simpa using hz, hcell, hwz⟩⟩
  have y2 : len2 * 8 ≤ 140737488351232 := row_short hsz (j := 2) (t := 35) rfl rfl Try.underlying35 Try.underlying3 (by kernel_rfl) (by kernel_rfl) k2
  clear hA0 hval0 hsz0 hsz
  refine (law_calls (vs := [v0, .int .i64 a1, .slice a2 len2 cap2]) (Ty.passkeylaw37SharingValuesOK y0 a1 (z2.take len2) true (Ty.sharingValues_holds y0 a1 (z2.take len2) z0 (i64_of_wf w1) (by rw [w2.length]; omega))) Try.func5 (by kernel_rfl) (by kernel_rfl) (args_cons w0 (args_cons rep_i (args_cons (rep_li w2) args_nil)))).mono fun e W' ⟨he, bel⟩ => ?_
  subst he
  exact ⟨_, rfl, _, _, _, [], _, [], hW', trodAll_mk1 (shut_bool Try.underlying4 _), (trodAll_cons_mk (Below.trod laidOut (by kernel_rfl) (of_decide_eq_true (by kernel_rfl)) k0 bel lt0) (trodAll_cons_mk (shut_int Try.underlying3 w1) (trodAll_cons_mk (Below.trod laidOut (by kernel_rfl) (of_decide_eq_true (by kernel_rfl)) k2 bel lt2) trodAll_mk0))), rfl, bel.frame _, fun h => by cases h⟩
theorem over : Rows.sharingValuesRow.holds Try.pinned (OpenSpec.ofChange Rows.sharingValuesSpec) :=
  OpenClaim.holds_of_wide 5 Try.f5 rfl rfl rfl rfl rfl rfl rfl ⟨rfl, rfl, rfl, rfl, rfl⟩ rfl rfl rfl rfl rfl (by kernel_rfl) Try.func5 (by kernel_rfl)
    (of_decide_eq_true (by kernel_rfl)) (by unfold Func.isWrapper; first | (rw [if_pos (by decide +kernel)]; kernel_rfl) | (rw [if_neg (by decide +kernel)]; exact ⟨rfl, rfl⟩))
    (fun os started H enc _ => lifted os started H enc)
theorem proved : Rows.SharingValuesSaid := over
#print axioms proved
end Go.Proofs.Ytkiffaadahpbkaa.sharingValues
namespace Go.Proofs.Ytkiffaadahpbkaa
theorem sharingValues_holds : Rows.SharingValuesSaid := sharingValues.proved
end Go.Proofs.Ytkiffaadahpbkaa
