/- The law FlashNew, plain. -/
import Derived.Test.YtpmnokohcamipaaLFlash
set_option linter.unusedSimpArgs false
set_option linter.unusedVariables false
namespace Go.Proofs.Ty
open Go Go.RW
theorem newJ1 (a0 a1 : Int) (a3 : TApiFlash) (h3 : FOk a3) (p q : Int) (want : Int) (hw : want = (newOut a0 a1).2) (hl : want = 9 → (newOut a0 a1).1.Bytes = []) (hz : want = 0 ∨ want = 9) : passkeylaw7FlashNewJ1 a0 a1 a3 (newOut p q) (newOut p q) want = some true := by
  rw [passkeylaw7FlashNewJ1, new_eq, Option.bind_some, if_pos (beq_self_eq_true _)]
  have e : ∀ f : TApiFlash, TApiFlash.mk f.PageSize f.Bytes = f := fun f => rfl
  rw [e, same_refl, Option.bind_some, if_pos rfl, if_pos (by rw [beq_iff_eq]; exact hw.symm)]
  rcases hz with rfl | rfl
  · rw [if_pos (beq_self_eq_true _), e, validate_eq _ h3, Option.bind_some, ref_validate_eq _ h3, Option.bind_some, if_pos (beq_self_eq_true _), flash_awake]; rfl
  · rw [if_neg (by decide), hl rfl, if_pos (by decide), e, validate_eq _ h3, Option.bind_some, ref_validate_eq _ h3, Option.bind_some, if_pos (beq_self_eq_true _), flash_awake]; rfl
theorem flashNew_holds (a0 a1 a2 : Int) (a3 : TApiFlash) (h0 : -9223372036854775808 ≤ a0 ∧ a0 ≤ 9223372036854775807) (h1 : -9223372036854775808 ≤ a1 ∧ a1 ≤ 9223372036854775807) (h2 : -9223372036854775808 ≤ a2 ∧ a2 ≤ 9223372036854775807) (h3 : okTApiFlash a3) : passkeylaw7FlashNew a0 a1 a2 a3 = some true := by
  rw [passkeylaw7FlashNew]
  split
  · rw [flash_awake]; rfl
  rename_i hl
  rw [decide_eq_true_eq] at hl
  have hf : FOk a3 := by show a3.Bytes.length ≤ _; omega
  have hr := iand_range a2 7 (by omega) (by omega)
  have hm := tmod_range (ibits .and .i64 a2 7) 5 hr.1 (by omega)
  rw [asq_pos (by simp only [List.length_cons, List.length_nil]; omega), lett_def, new_eq, Option.bind_some, lett_def, ref_new_eq, Option.bind_some]
  have hin : ((512 ≤ a0 ∧ a0 ≤ 8192) ∧ 1 ≤ a1 ∧ a1 ≤ 8) → (newOut a0 a1).2 = 0 := fun h => by rw [newOut, if_pos h]
  have hout : ¬ ((512 ≤ a0 ∧ a0 ≤ 8192) ∧ 1 ≤ a1 ∧ a1 ≤ 8) → newOut a0 a1 = (⟨0, []⟩, 9) := fun h => by rw [newOut, if_neg h]
  have bad : ¬ ((512 ≤ a0 ∧ a0 ≤ 8192) ∧ 1 ≤ a1 ∧ a1 ≤ 8) → ∀ p q, passkeylaw7FlashNewJ2 a0 a1 a3 (newOut p q) (newOut p q) true = some true := fun h p q => by
    rw [passkeylaw7FlashNewJ2, if_pos rfl]
    exact newJ1 a0 a1 a3 hf p q 9 (by rw [hout h]) (fun _ => by rw [hout h]) (Or.inr rfl)
  split
  · rename_i h; rw [decide_eq_true_eq] at h; exact bad (by omega) _ _
  rename_i g1; rw [decide_eq_true_eq] at g1
  split
  · rename_i h; rw [decide_eq_true_eq] at h; exact bad (by omega) _ _
  rename_i g2; rw [decide_eq_true_eq] at g2
  split
  · rename_i h; rw [decide_eq_true_eq] at h; exact bad (by omega) _ _
  rename_i g3; rw [decide_eq_true_eq] at g3
  by_cases g4 : 8 < a1
  · rw [decide_eq_true g4]; exact bad (by omega) _ _
  · rw [decide_eq_false g4, passkeylaw7FlashNewJ2, if_neg (by simp)]
    exact newJ1 a0 a1 a3 hf _ _ 0 (by rw [hin (by omega)]) (fun h => by simp at h) (Or.inl rfl)
end Go.Proofs.Ty
