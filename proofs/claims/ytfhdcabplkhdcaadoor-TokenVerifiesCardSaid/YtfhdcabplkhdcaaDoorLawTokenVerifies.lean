/- TokenVerifies: the law TokenVerifies returns true for every input, and each argument reads behind the call as it read before; no further condition. -/
import Derived.Test.YtfhdcabplkhdcaaDoorRows
import Derived.Test.YtfhdcabplkhdcaaDoorCards
import Derived.Test.YtfhdcabplkhdcaaDoorTie
import Derived.Test.YtfhdcabplkhdcaaDoorSCb
import Derived.Test.YtfhdcabplkhdcaaDoorPTok
import Derived.WalkKit
import Derived.ProofKit
import Derived.OpenShut
import Derived.ShutString
import Derived.ChangeOld
import Derived.Below
import Derived.SizedLaws
import Derived.LaidMore
import Derived.LaidHandle
import Derived.LaidLaws
import Derived.Stop.Joined
import Derived.SevenTiedAt
import Derived.Handed
namespace Go.Proofs.YtfhdcabplkhdcaaDoor.tokenVerifies
open Go.ChangeShapes Go.WideShapes Go.ChangeAt Go.RowKit Go.RW
open Go.ChangeMaps (open_string shut_string)
set_option linter.unusedVariables false
theorem own : ownKnob Tryd.prog.godebug = none := by kernel_rfl
theorem laidOut : laidOutB Tryd.prog = true := by kernel_rfl
theorem op33 {H : Type} {enc : TypeId × Value → H} {W : World} {sp : Nat → Bool} {held : Bool} : OpenL enc Tryd.prog W sp held 33 (fun s : Ty.TApiToken => [eU64 s.Secret, eB s.Active, eU64 s.Value, eI s.Permissions, eS s.RP, eI s.Since]) Ty.okTApiToken := openL_st Tryd.underlying33 (openF_cons (o' := 1) rfl (by kernel_rfl) (openL_u64 Tryd.underlying22) (openF_cons (o' := 2) rfl (by kernel_rfl) (openL_b Tryd.underlying4) (openF_cons (o' := 3) rfl (by kernel_rfl) (openL_u64 Tryd.underlying22) (openF_cons (o' := 4) rfl (by kernel_rfl) (openL_i Tryd.underlying3) (openF_cons (o' := 5) rfl (by kernel_rfl) (openL_s Tryd.underlying9) (openF_cons (o' := 6) rfl (by kernel_rfl) (openL_i Tryd.underlying3) openF_nil)))))) (by kernel_rfl) (fun y => ⟨y.1, y.2.1, y.2.2.1, y.2.2.2.1, y.2.2.2.2.1, y.2.2.2.2.2.1⟩) (fun y => rfl) (fun y h => h)
set_option maxRecDepth 100000
noncomputable def litCells (d : DataW Unit) : Array Value := match d with
  | .agg l => (l.map fun | .lit (.int k z) => Value.int k z | _ => .bool false).toArray
  | _ => #[]
noncomputable def doorWorld (os : Os) : World := { World.doorLaid Tryd.prog 400 os with heap := ((World.doorLaid Tryd.prog 400 os).heap.modify 1 fun | .cells _ t fr => .cells (litCells Go.Pinned.utf8First) t fr | o => o) }
theorem door_met (os : Os) (args : Array Value) : laidMetH Tryd.prog Rows.tokenVerifiesRow.laid ((doorWorld os).forCall (fun _ _ => 0) ⟨#[], args, []⟩).memory :=
  laidMetH_of_parts3 (fuel := 8) (laidMet_of_run' 8 (by kernel_rfl) (by kernel_rfl)) (by kernel_rfl) (by kernel_rfl)
theorem lifted (os : Os) (started : os.Started) (H : Type) (enc : TypeId × Value → H) :
    ReturnsInHanded {} Tryd.checked os 5 .any (fun w args => (Rows.tokenVerifiesSpec.pre enc Tryd.prog Tryd.f5 Rows.tokenVerifiesRow.domain false w args ∧ laidMetH Tryd.prog Rows.tokenVerifiesRow.laid w) ∧ sizedMet enc Tryd.prog Tryd.f5 (OpenSpec.ofChange Rows.tokenVerifiesSpec) false w args) (Rows.tokenVerifiesSpec.post enc Tryd.prog Tryd.f5 false true false false) := by
  refine returnsInHanded_of_change_and (C := Tryd.checked) (X := fun w _ => laidMetH Tryd.prog Rows.tokenVerifiesRow.laid w) (fun _ _ _ hh h => h.of_heap hh) own started (by kernel_rfl) Tryd.func5
    (ChangeSpec.witness_shaped (enc := enc) (C := Tryd.checked) (os := os) (X := fun w _ => laidMetH Tryd.prog Rows.tokenVerifiesRow.laid w) false (doorWorld os) #[.agg #[.int .u64 0, .bool false, .int .u64 0, .int .i64 0, .string ByteArray.empty, .int .i64 0], .int .i64 0, .int .i64 0, .int .i64 0, .string ByteArray.empty, .int .u64 0, .int .u64 0] 8 rfl (World.shaped_of_RefB (by kernel_rfl) (by kernel_rfl)) (by kernel_rfl) (by kernel_rfl) (by kernel_rfl) (door_met os _)) ?_
  intro W base args ds gs before hval0 hW hcnd hsz0 hL _
  have hsz : (DataW.weightsEach Tryd.prog (Tryd.f5.params.toList ++ Rows.tokenVerifiesSpec.plain.varTypes Tryd.prog) (ds ++ gs)).all (· ≤ reachBytes) = true := hsz0
  have hval : ∀ (j : Nat) t v, Tryd.f5.params[j]? = some t → args[j]? = some v → Value.okWide Tryd.prog W .any base t v := hval0
  have hW' := hW
  obtain ⟨p, q, hA0, hV, rfl, hfz, hnd⟩ := hW
  have hA : DataW.TrodAll enc Tryd.prog W 0 (fun _ => true) true Tryd.f5.params.toList args.toList ds p := hA0
  rw [Tryd.params5] at hA hval hsz
  obtain ⟨v0, vs0, d0, ds0, p0, q0, hargs, rfl, rfl, h0, r0⟩ := trodAll_cons hA
  obtain ⟨v1, vs1, d1, ds1, p1, q1, rfl, rfl, rfl, h1, r1⟩ := trodAll_cons r0
  obtain ⟨v2, vs2, d2, ds2, p2, q2, rfl, rfl, rfl, h2, r2⟩ := trodAll_cons r1
  obtain ⟨v3, vs3, d3, ds3, p3, q3, rfl, rfl, rfl, h3, r3⟩ := trodAll_cons r2
  obtain ⟨v4, vs4, d4, ds4, p4, q4, rfl, rfl, rfl, h4, r4⟩ := trodAll_cons r3
  obtain ⟨v5, vs5, d5, ds5, p5, q5, rfl, rfl, rfl, h5, r5⟩ := trodAll_cons r4
  obtain ⟨v6, vs6, d6, ds6, p6, q6, rfl, rfl, rfl, h6, r6⟩ := trodAll_cons r5
  obtain ⟨rfl, rfl, rfl⟩ := trodAll_nil r6
  obtain rfl : args = #[v0, v1, v2, v3, v4, v5, v6] := by cases args; simp_all
  obtain ⟨rfl, rfl⟩ := trodVars_none hV
  have k0 := h0
  have lt0 : ∀ x ∈ p0, x.block < W.heap.size := by obtain ⟨m, hm⟩ := k0; exact DataW.trod_lt m _ _ _ hm
  obtain ⟨y0, w0, z0⟩ := arg_st Tryd.underlying33 (hval 0 33 v0 rfl rfl) op33 h0
  obtain ⟨a1, rfl, rfl, rfl, w1⟩ := open_int Tryd.underlying3 (hval 1 3 v1 rfl rfl) h1
  obtain ⟨a2, rfl, rfl, rfl, w2⟩ := open_int Tryd.underlying3 (hval 2 3 v2 rfl rfl) h2
  obtain ⟨a3, rfl, rfl, rfl, w3⟩ := open_int Tryd.underlying3 (hval 3 3 v3 rfl rfl) h3
  obtain ⟨a4, rfl, rfl, rfl, y4⟩ := open_string Tryd.underlying9 (hval 4 9 v4 rfl rfl) h4
  have w4 : a4.size ≤ 140737488351232 := by
    have z := sized_string hsz (j := 4) (t := 9) rfl rfl
    rw [Array.length_toList] at z
    exact z
  obtain ⟨a5, rfl, rfl, rfl, w5⟩ := open_int Tryd.underlying22 (hval 5 22 v5 rfl rfl) h5
  obtain ⟨a6, rfl, rfl, rfl, w6⟩ := open_int Tryd.underlying22 (hval 6 22 v6 rfl rfl) h6
  clear hA0 hval0 hsz0 hsz
  refine (law_calls (vs := [v0, .int .i64 a1, .int .i64 a2, .int .i64 a3, .string a4, .int .u64 a5, .int .u64 a6]) (Ty.passkeylaw12TokenVerifiesOK y0 a1 a2 a3 (strB a4) (BitVec.ofInt 64 a5) (BitVec.ofInt 64 a6) true (Ty.tokenVerifies_holds y0 a1 a2 a3 (strB a4) (BitVec.ofInt 64 a5) (BitVec.ofInt 64 a6) z0 (i64_of_wf w1) (i64_of_wf w2) (i64_of_wf w3) (by rw [strB_length]; exact w4))) Tryd.func5 (by kernel_rfl) (by kernel_rfl) (args_cons w0 (args_cons rep_i (args_cons rep_i (args_cons rep_i (args_cons rep_s (args_cons (rep_u64 w5) (args_cons (rep_u64 w6) args_nil)))))))).mono fun e W' ⟨he, bel⟩ => ?_
  subst he
  exact ⟨_, rfl, _, _, _, [], _, [], hW', trodAll_mk1 (shut_bool Tryd.underlying4 _), (trodAll_cons_mk (Below.trod laidOut (by kernel_rfl) (of_decide_eq_true (by kernel_rfl)) k0 bel lt0) (trodAll_cons_mk (shut_int Tryd.underlying3 w1) (trodAll_cons_mk (shut_int Tryd.underlying3 w2) (trodAll_cons_mk (shut_int Tryd.underlying3 w3) (trodAll_cons_mk (shut_string Tryd.underlying9 y4) (trodAll_cons_mk (shut_int Tryd.underlying22 w5) (trodAll_cons_mk (shut_int Tryd.underlying22 w6) trodAll_mk0))))))), rfl, bel.frame _, fun h => by cases h⟩
theorem over : Rows.tokenVerifiesRow.holds Tryd.pinned (OpenSpec.ofChange Rows.tokenVerifiesSpec) :=
  OpenClaim.holds_of_wide 5 Tryd.f5 rfl rfl rfl rfl rfl rfl rfl ⟨rfl, rfl, rfl, rfl, rfl⟩ rfl rfl rfl rfl rfl (by kernel_rfl) Tryd.func5 (by kernel_rfl)
    (of_decide_eq_true (by kernel_rfl)) (by unfold Func.isWrapper; first | (rw [if_pos (by decide +kernel)]; kernel_rfl) | (rw [if_neg (by decide +kernel)]; exact ⟨rfl, rfl⟩))
    (fun os started H enc _ => lifted os started H enc)
theorem proved : Rows.TokenVerifiesCardSaid :=
  Claim7.holds_tied_plain_at .later [] [.data, .pinned] true (true, "3f4a051287c18f8e0ee95265a18b84484ab8869b1aad588e8be678823d3b9702") false
    over (fun _ h => by cases h) (by kernel_rfl) (fun _ h => by cases h) tokenVerifies_row_tie rfl ⟨rfl, rfl⟩ (by kernel_rfl) rfl
    (fun f fn hf hfn => by
      obtain rfl : f = 5 := Option.some.inj ((show Tryd.prog.funcNamed "passkey/passkeylaw12.TokenVerifies" = some 5 by kernel_rfl).symm.trans hf) |>.symm
      obtain rfl : fn = Tryd.f5 := (Option.some.inj (Tryd.func5.symm.trans hfn)).symm
      exact ⟨by kernel_rfl, fun j t ht => by
        rw [Tryd.params5] at ht
        have hm : t ∈ [33, 3, 3, 3, 9, 22, 22] := by simpa using Array.mem_of_getElem? ht
        have hall : ([33, 3, 3, 3, 9, 22, 22].all fun u => !Tryd.prog.wantsStandIn u) = true := by kernel_rfl
        exact (show Tryd.prog.wantsStandIn t = false by simpa using List.all_eq_true.1 hall t hm)⟩)
    (by kernel_rfl)
#print axioms proved
end Go.Proofs.YtfhdcabplkhdcaaDoor.tokenVerifies
namespace Go.Proofs.YtfhdcabplkhdcaaDoor
theorem tokenVerifies_holds : Rows.TokenVerifiesCardSaid := tokenVerifies.proved
end Go.Proofs.YtfhdcabplkhdcaaDoor
