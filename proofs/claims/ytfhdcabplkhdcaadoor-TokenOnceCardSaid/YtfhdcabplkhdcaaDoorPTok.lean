/- The PIN protocol's tokens: Issue, Verify; laws TokenIssues, TokenVerifies. -/
import Derived.Test.YtfhdcabplkhdcaaDoorPMac
import Derived.Test.YtfhdcabplkhdcaaDoorPMath
import Derived.KernelRfl
set_option linter.unusedSimpArgs false
set_option linter.unusedVariables false
namespace Go.Proofs.Ty
open Go Go.RW
theorem awake_eq : passkeylaw12awake = some true := by kernel_rfl
def zTok : TApiToken := TApiToken.mk 0#64 false 0#64 0 [] 0
def issueS (t : TApiToken) (v : BitVec 64) (p : Int) (rp : List (BitVec 8)) (now : Int) : TApiToken × Int :=
  if p < 1 ∨ 7 < p ∨ now < 0 ∨ 1099511627776 < now then (zTok, 9) else if 64 < rp.length then (zTok, 8) else (TApiToken.mk t.Secret true v p rp now, 0)
theorem issueJ1_eq (t : TApiToken) (v : BitVec 64) (p : Int) (rp : List (BitVec 8)) (now : Int) (b : Bool) (hb : b = decide (p < 1 ∨ 7 < p ∨ now < 0 ∨ 1099511627776 < now)) : tokenIssueJ1 t v p rp now b = some (issueS t v p rp now) := by
  subst hb
  rw [tokenIssueJ1, issueS]
  by_cases h : p < 1 ∨ 7 < p ∨ now < 0 ∨ 1099511627776 < now
  · rw [if_pos (decide_eq_true h), if_pos h]; rfl
  · rw [if_neg (by simpa using h), if_neg h]
    by_cases h2 : 64 < rp.length
    · rw [if_pos (by rw [decide_eq_true_eq]; omega), if_pos h2]; rfl
    · rw [if_neg (by rw [decide_eq_true_eq]; omega), if_neg h2]
theorem issue_eq (t : TApiToken) (v : BitVec 64) (p : Int) (rp : List (BitVec 8)) (now : Int) : tokenIssue t v p rp now = some (issueS t v p rp now) := by
  rw [tokenIssue]
  split
  · rename_i h; rw [decide_eq_true_eq] at h
    exact issueJ1_eq _ _ _ _ _ _ (decide_eq_true (Or.inl h)).symm
  rename_i h1; rw [decide_eq_true_eq] at h1
  split
  · rename_i h; rw [decide_eq_true_eq] at h
    exact issueJ1_eq _ _ _ _ _ _ (decide_eq_true (Or.inr (Or.inl h))).symm
  rename_i h2; rw [decide_eq_true_eq] at h2
  split
  · rename_i h; rw [decide_eq_true_eq] at h
    exact issueJ1_eq _ _ _ _ _ _ (decide_eq_true (Or.inr (Or.inr (Or.inl h)))).symm
  rename_i h3; rw [decide_eq_true_eq] at h3
  refine issueJ1_eq _ _ _ _ _ _ ?_
  by_cases h4 : 1099511627776 < now
  · rw [decide_eq_true h4, decide_eq_true (Or.inr (Or.inr (Or.inr h4)))]
  · rw [decide_eq_false h4, decide_eq_false (by omega)]
theorem ref_issue (t : TApiToken) (v : BitVec 64) (p : Int) (rp : List (BitVec 8)) (now : Int) : passkeyref10Issue t v p rp now = some (issueS t v p rp now) := issue_eq t v p rp now
theorem made_eq (n : Int) : ∃ t, passkeylaw12made n = some t ∧ 0 ≤ t.Since ∧ t.Since ≤ 4095 := by
  rw [passkeylaw12made]
  have hr := iand_range (ishr .i64 n 8) 3 (by omega) (by omega)
  have hm := tmod_range (ibits .and .i64 (ishr .i64 n 8) 3) 3 hr.1 (by omega)
  have hs := iand_range (ishr .i64 n 10) 4095 (by omega) (by omega)
  rw [lett_def, lett_def, asq_pos (by simp only [List.length_cons, List.length_nil]; omega)]
  exact ⟨_, rfl, hs.1, hs.2⟩
theorem same_tok (t : TApiToken) : ((t.Secret == t.Secret) && ((t.Active == t.Active) && ((t.Value == t.Value) && ((t.Permissions == t.Permissions) && ((t.RP == t.RP) && ((t.Since == t.Since) && true)))))) = true := by simp
theorem tokenIssues_holds (a0 : Int) (a1 : BitVec 64) (a2 : Int) (a3 : List (BitVec 8)) (a4 : Int) (h0 : -9223372036854775808 ≤ a0 ∧ a0 ≤ 9223372036854775807) (h2 : -9223372036854775808 ≤ a2 ∧ a2 ≤ 9223372036854775807) (h3 : a3.length ≤ 140737488351232) (h4 : -9223372036854775808 ≤ a4 ∧ a4 ≤ 9223372036854775807) : passkeylaw12TokenIssues a0 a1 a2 a3 a4 = some true := by
  rw [passkeylaw12TokenIssues]
  split
  · rw [awake_eq]; rfl
  obtain ⟨t, ht, _, _⟩ := made_eq a0
  rw [ht, Option.bind_some, issue_eq, Option.bind_some, ref_issue, Option.bind_some, issue_eq, Option.bind_some, ref_issue, Option.bind_some, if_pos (same_tok _), if_pos (beq_self_eq_true _), if_pos (same_tok _), if_pos (beq_self_eq_true _), tokenStart, Option.bind_some, passkeyref10StartToken, Option.bind_some, if_pos (by simp), awake_eq]; rfl
def codeS (v q : BitVec 64) : BitVec 64 := smac v 12 (wordsBytes [q])
theorem auth_eq (v q : BitVec 64) : tokenAuthorize v q = some (codeS v q) := by
  rw [tokenAuthorize, words_n _ (Nat.le_of_ble_eq_true rfl), Option.bind_some, mac_eq _ _ _ (by have := words_short [q] (Nat.le_of_ble_eq_true rfl); omega)]; rfl
theorem ref_auth_eq (v q : BitVec 64) : passkeyref10Authorize v q = some (codeS v q) := by
  rw [passkeyref10Authorize, ref_words_n _ (Nat.le_of_ble_eq_true rfl), Option.bind_some, ref_mac_eq _ _ _ (by have := words_short [q] (Nat.le_of_ble_eq_true rfl); omega)]; rfl
def okV (t : TApiToken) (now p : Int) (rp : List (BitVec 8)) (q a : BitVec 64) : Bool :=
  t.Active && (decide (t.Since ≤ now) && decide (((BitVec.ofInt 64 now) - (BitVec.ofInt 64 t.Since)).toNat ≤ (100#64).toNat)) && (decide (1 ≤ p) && decide (p ≤ 7) && (ibits .and .i64 t.Permissions p == p)) && (t.RP == [] || t.RP == rp) && (a == codeS t.Value q)
theorem verify_eq (t : TApiToken) (now p : Int) (rp : List (BitVec 8)) (q a : BitVec 64) : tokenVerify t now p rp q a = some (if okV t now p rp q a then 0 else 29) := by
  unfold tokenVerify tokenVerifyJ1 tokenVerifyJ2 tokenVerifyJ3 okV
  rw [auth_eq, Option.bind_some]
  unfold bne
  generalize decide (t.Since ≤ now) = b1
  generalize decide (((BitVec.ofInt 64 now) - (BitVec.ofInt 64 t.Since)).toNat ≤ (100#64).toNat) = b2
  generalize decide (1 ≤ p) = b3
  generalize decide (p ≤ 7) = b4
  generalize (ibits .and .i64 t.Permissions p == p) = b5
  generalize (t.RP == []) = b6
  generalize (t.RP == rp) = b7
  generalize (a == codeS t.Value q) = b9
  generalize t.Active = b8
  cases b1 <;> cases b2 <;> cases b3 <;> cases b4 <;> cases b5 <;> cases b6 <;> cases b7 <;> cases b8 <;> cases b9 <;> rfl
theorem ref_verify_eq (t : TApiToken) (now p : Int) (rp : List (BitVec 8)) (q a : BitVec 64) : passkeyref10VerifyToken t now p rp q a = some (if okV t now p rp q a then 0 else 29) := by
  have e1 : decide (now < t.Since) = !decide (t.Since ≤ now) := by by_cases h : t.Since ≤ now <;> simp [h] <;> omega
  have e2 : decide ((100#64).toNat < ((BitVec.ofInt 64 now) - (BitVec.ofInt 64 t.Since)).toNat) = !decide (((BitVec.ofInt 64 now) - (BitVec.ofInt 64 t.Since)).toNat ≤ (100#64).toNat) := by
    rw [← decide_not]; exact decide_eq_decide.2 (by omega)
  have e3 : decide (p < 1) = !decide (1 ≤ p) := by rw [← decide_not]; exact decide_eq_decide.2 (by omega)
  have e4 : decide (7 < p) = !decide (p ≤ 7) := by rw [← decide_not]; exact decide_eq_decide.2 (by omega)
  unfold passkeyref10VerifyToken passkeyref10VerifyTokenJ1 passkeyref10VerifyTokenJ2 okV
  rw [ref_auth_eq, Option.bind_some, e1, e2, e3, e4]
  unfold bne
  generalize decide (t.Since ≤ now) = b1
  generalize decide (((BitVec.ofInt 64 now) - (BitVec.ofInt 64 t.Since)).toNat ≤ (100#64).toNat) = b2
  generalize decide (1 ≤ p) = b3
  generalize decide (p ≤ 7) = b4
  generalize (ibits .and .i64 t.Permissions p == p) = b5
  generalize (t.RP == []) = b6
  generalize (t.RP == rp) = b7
  generalize (a == codeS t.Value q) = b9
  generalize t.Active = b8
  cases b1 <;> cases b2 <;> cases b3 <;> cases b4 <;> cases b5 <;> cases b6 <;> cases b7 <;> cases b8 <;> cases b9 <;> rfl
theorem tokenVerifies_holds (t : TApiToken) (n now p : Int) (rp : List (BitVec 8)) (q a : BitVec 64) (ht : okTApiToken t) (h1 : -9223372036854775808 ≤ n ∧ n ≤ 9223372036854775807) (h2 : -9223372036854775808 ≤ now ∧ now ≤ 9223372036854775807) (h3 : -9223372036854775808 ≤ p ∧ p ≤ 9223372036854775807) (h4 : rp.length ≤ 140737488351232) : passkeylaw12TokenVerifies t n now p rp q a = some true := by
  have key : ∀ b, passkeylaw12TokenVerifiesJ1 t n now p rp q a b = some true := by
    intro b
    rw [passkeylaw12TokenVerifiesJ1]
    split
    · rw [awake_eq]; rfl
    obtain ⟨x, hx, _, _⟩ := made_eq n
    have hr := iand_range (ishr .i64 n 22) 3 (by omega) (by omega)
    have hm := tmod_range (ibits .and .i64 (ishr .i64 n 22) 3) 3 hr.1 (by omega)
    rw [hx, Option.bind_some, lett_def, ref_auth_eq, Option.bind_some, lett_def, asq_pos (by simp only [List.length_cons, List.length_nil]; omega)]
    simp only [verify_eq, ref_verify_eq, auth_eq, ref_auth_eq, Option.bind_some, beq_self_eq_true, if_true, awake_eq]
  rw [passkeylaw12TokenVerifies]
  split <;> exact key _
end Go.Proofs.Ty
