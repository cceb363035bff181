/- Challenges: bytes, expiry, issue, use, as plain functions; the laws ChallengeBytes and ChallengeFull. -/
import Derived.Test.YtkgdoilkneogdaaPMac
import Derived.Test.YtkgdoilkneogdaaPMath
set_option linter.unusedSimpArgs false
set_option linter.unusedVariables false
namespace Go.Proofs.Ty
open Go Go.RW
theorem awake_eq : passkeylaw29awake = some true := by kernel_rfl
def zC : TApiChallenge := TApiChallenge.mk 0 0 [] false 0
def cbytes (k : BitVec 64) (c : TApiChallenge) : List (BitVec 8) :=
  wordsBytes [BitVec.ofInt 64 c.Number, smac k 17 (wordsBytes [BitVec.ofInt 64 c.Number, BitVec.ofInt 64 c.Kind, (if c.Bound then 1#64 else 0#64), BitVec.ofInt 64 c.Since] ++ c.Account)]
theorem in_len (a b c d : BitVec 64) (s : List (BitVec 8)) (h : s.length ≤ 300) : (wordsBytes [a, b, c, d] ++ s).length ≤ 1000 := by
  have := words_short [a, b, c, d] (Nat.le_of_ble_eq_true rfl)
  rw [List.length_append]; omega
theorem bytes_eq (s : TApiChallenges) (c : TApiChallenge) (h : c.Account.length ≤ 300) : challengeBytes s c = some (cbytes s.Secret c) := by
  have hJ : ∀ v, challengeBytesJ1 s c v = some (wordsBytes [BitVec.ofInt 64 c.Number, smac s.Secret 17 (wordsBytes [BitVec.ofInt 64 c.Number, BitVec.ofInt 64 c.Kind, v, BitVec.ofInt 64 c.Since] ++ c.Account)]) := fun v => by
    have hl := in_len (BitVec.ofInt 64 c.Number) (BitVec.ofInt 64 c.Kind) v (BitVec.ofInt 64 c.Since) c.Account h
    rw [challengeBytesJ1, words_n _ (Nat.le_of_ble_eq_true rfl), Option.bind_some, asq_pos (by omega), mac_eq _ _ _ (by omega), Option.bind_some, words_n _ (Nat.le_of_ble_eq_true rfl)]; rfl
  rw [challengeBytes, cbytes]
  split
  · rw [hJ]
  · rw [hJ]
theorem ref_bytes_eq (s : TApiChallenges) (c : TApiChallenge) (h : c.Account.length ≤ 300) : passkeyref29ChallengeBytes s c = some (cbytes s.Secret c) := by
  have hJ : ∀ v, passkeyref29ChallengeBytesJ1 s c v = some (wordsBytes [BitVec.ofInt 64 c.Number, smac s.Secret 17 (wordsBytes [BitVec.ofInt 64 c.Number, BitVec.ofInt 64 c.Kind, v, BitVec.ofInt 64 c.Since] ++ c.Account)]) := fun v => by
    have hl := in_len (BitVec.ofInt 64 c.Number) (BitVec.ofInt 64 c.Kind) v (BitVec.ofInt 64 c.Since) c.Account h
    rw [passkeyref29ChallengeBytesJ1, ref_words_n _ (Nat.le_of_ble_eq_true rfl), Option.bind_some, asq_pos (by omega), ref_mac_eq _ _ _ (by omega), Option.bind_some, ref_words_n _ (Nat.le_of_ble_eq_true rfl)]; rfl
  rw [passkeyref29ChallengeBytes, cbytes]
  split
  · rw [hJ]
  · rw [hJ]
theorem challengeBytes_holds (s : TApiChallenges) (c : TApiChallenge) (_ : okTApiChallenges s) (_ : okTApiChallenge c) : passkeylaw29ChallengeBytes s c = some true := by
  rw [passkeylaw29ChallengeBytes]
  split
  · rw [awake_eq]; rfl
  · rename_i h
    rw [decide_eq_true_eq] at h
    have e1 : TApiChallenges.mk s.Secret s.Count s.Open = s := rfl
    have e2 : TApiChallenge.mk c.Number c.Kind c.Account c.Bound c.Since = c := rfl
    rw [e1, e2, bytes_eq _ _ (by omega), Option.bind_some, ref_bytes_eq _ _ (by omega), Option.bind_some, if_pos (beq_self_eq_true _), awake_eq]; rfl
/-! ### expiry -/
def keep (now : Int) (c : TApiChallenge) : Bool := decide (w64 (now - c.Since) ≤ 60)
theorem expire_loop (s : TApiChallenges) (now : Int) (h0 : 0 ≤ now) (h1 : now ≤ 1099511627776) (hl : s.Open.length ≤ 1000) : ∀ (m f i : Nat) (out : List TApiChallenge), i + m = s.Open.length → out.length ≤ i → m < f → challengeExpireOwnL2 s now f out (i : Int) = some ⟨s.Secret, s.Count, out ++ (s.Open.drop i).filter (keep now)⟩
  | m, f, i, out, hm, ho, hf => by
    obtain ⟨f, rfl⟩ : ∃ g, f = g + 1 := ⟨f - 1, by omega⟩
    rw [challengeExpireOwnL2]
    cases m with
    | zero => rw [if_neg (by rw [decide_eq_true_eq]; omega), challengeExpireOwnJ1, List.drop_of_length_le (by omega)]; simp
    | succ m =>
      have hi : i < s.Open.length := by omega
      have e : s.Open.getD i (TApiChallenge.mk 0 0 [] false 0) = s.Open[i] := by rw [List.getD_eq_getElem?_getD, List.getElem?_eq_getElem hi]; rfl
      have e1 : w64 ((i : Int) + 1) = ((i + 1 : Nat) : Int) := by rw [w64_of (by omega) (by omega)]; omega
      rw [if_pos (by rw [decide_eq_true_eq]; omega), asq_pos (by omega), if_neg (by rw [decide_eq_true_eq]; omega), if_neg (by rw [decide_eq_true_eq]; omega), lett_def, Int.toNat_natCast, e, challengeExpireOwnJ4, Int.toNat_natCast, e, challengeExpireOwnJ3, challengeExpireOwnJ3, e1, List.drop_eq_getElem_cons hi]
      by_cases hk : w64 (now - s.Open[i].Since) ≤ 60
      · rw [if_pos (decide_eq_true hk), asq_pos (by rw [List.length_append]; simp only [List.length_cons, List.length_nil]; omega), List.filter_cons_of_pos (by rw [keep, decide_eq_true hk])]
        have := expire_loop s now h0 h1 hl m f (i + 1) (out ++ [s.Open[i]]) (by omega) (by rw [List.length_append]; simp only [List.length_cons, List.length_nil]; omega) (by omega)
        rw [List.append_assoc] at this
        exact this
      · rw [if_neg (by rw [decide_eq_true_eq]; exact hk), List.filter_cons_of_neg (by rw [keep, decide_eq_false hk]; simp)]
        exact expire_loop s now h0 h1 hl m f (i + 1) out (by omega) (by omega) (by omega)
theorem expire_eq (s : TApiChallenges) (now : Int) (h0 : 0 ≤ now) (h1 : now ≤ 1099511627776) (hl : s.Open.length ≤ 1000) : challengeExpireOwn s now = some ⟨s.Secret, s.Count, s.Open.filter (keep now)⟩ := by
  rw [challengeExpireOwn]
  have := expire_loop s now h0 h1 hl s.Open.length FUEL 0 [] (by omega) (by simp) (by simp only [FUEL]; omega)
  simpa using this
/-! ### issue -/
def issueS (s : TApiChallenges) (kind : Int) (acc : List (BitVec 8)) (bd : Bool) (now : Int) : TApiChallenges × List (BitVec 8) × Int :=
  if 32 ≤ (s.Open.filter (keep now)).length then (s, [], 12) else (⟨s.Secret, w64 (s.Count + 1), s.Open.filter (keep now) ++ [⟨s.Count, kind, acc, bd, now⟩]⟩, cbytes s.Secret ⟨s.Count, kind, acc, bd, now⟩, 0)
theorem issue_eq (s : TApiChallenges) (kind : Int) (acc : List (BitVec 8)) (bd : Bool) (now : Int) (hk : kind = 1 ∨ kind = 2) (ha : acc.length ≤ 32) (h0 : 0 ≤ now) (h1 : now ≤ 1099511627776) (hl : s.Open.length ≤ 1000) : challengeIssue s kind acc bd now = some (issueS s kind acc bd now) := by
  have hJ : challengeIssueJ2 s kind acc bd now false = some (issueS s kind acc bd now) := by
    rw [challengeIssueJ2, if_neg (by simp), if_neg (by rw [decide_eq_true_eq]; omega)]
    have e1 : TApiChallenges.mk s.Secret s.Count s.Open = s := rfl
    rw [e1, expire_eq s now h0 h1 hl, Option.bind_some, issueS]
    simp only
    by_cases h : 32 ≤ (s.Open.filter (keep now)).length
    · rw [if_pos (by rw [decide_eq_true_eq]; omega), if_pos h]
    · rw [if_neg (by rw [decide_eq_true_eq]; omega), if_neg h, asq_pos (by rw [List.length_append]; simp only [List.length_cons, List.length_nil]; omega), bytes_eq _ _ (by simp only; omega), Option.bind_some]
  rw [challengeIssue, if_neg (by rw [decide_eq_true_eq]; omega), decide_eq_false (by omega), challengeIssueJ1, if_neg (by simp)]
  rcases hk with rfl | rfl
  · rw [if_neg (by decide)]; exact hJ
  · rw [if_pos (by decide)]; exact hJ
/-! ### at most MaxOpen -/
theorem count_loop (q : BitVec 64 → Int → List TApiChallenge → Int → Option Bool) (l : List TApiChallenge) (hl : l.length ≤ 1000) (i now : Int) (y : TApiChallenges × List (BitVec 8) × Int) : ∀ (m f j n : Nat), j + m = l.length → n ≤ j → m < f →
    passkeylaw29ChallengeFullL6 q l i now y f (n : Int) (j : Int) = passkeylaw29ChallengeFullJ4 q i y ((n + ((l.drop j).filter (keep now)).length : Nat) : Int)
  | m, f, j, n, hm, hn, hf => by
    obtain ⟨f, rfl⟩ : ∃ g, f = g + 1 := ⟨f - 1, by omega⟩
    rw [passkeylaw29ChallengeFullL6]
    cases m with
    | zero => rw [if_neg (by rw [decide_eq_true_eq]; omega), List.drop_of_length_le (by omega)]; rfl
    | succ m =>
      have hj : j < l.length := by omega
      have e : l.getD j (TApiChallenge.mk 0 0 [] false 0) = l[j] := by rw [List.getD_eq_getElem?_getD, List.getElem?_eq_getElem hj]; rfl
      have e1 : w64 ((j : Int) + 1) = ((j + 1 : Nat) : Int) := by rw [w64_of (by omega) (by omega)]; omega
      have e2 : w64 ((n : Int) + 1) = ((n + 1 : Nat) : Int) := by rw [w64_of (by omega) (by omega)]; omega
      rw [if_pos (by rw [decide_eq_true_eq]; omega), asq_pos (by omega), lett_def, Int.toNat_natCast, e, passkeylaw29ChallengeFullJ7, passkeylaw29ChallengeFullJ7, e1, e2, List.drop_eq_getElem_cons hj]
      by_cases hk : w64 (now - l[j].Since) ≤ 60
      · rw [if_pos (decide_eq_true hk), List.filter_cons_of_pos (by rw [keep, decide_eq_true hk]), count_loop q l hl i now y m f (j + 1) (n + 1) (by omega) (by omega) (by omega), List.length_cons]
        congr 2; omega
      · rw [if_neg (by rw [decide_eq_true_eq]; exact hk), List.filter_cons_of_neg (by rw [keep, decide_eq_false hk]; simp)]
        exact count_loop q l hl i now y m f (j + 1) n (by omega) (by omega) (by omega)
theorem full_loop (a1 a2 : BitVec 8) (K N : Nat) (hK : w64 (1 + ((a1 % 5#8).toNat : Int)) = (K : Int)) (hK1 : K ≤ 5) (hN : w64 (40 + ((a2 % 40#8).toNat : Int)) = (N : Int)) (hN1 : N ≤ 80) (sec : BitVec 64) : ∀ (m f i : Nat) (cnt : Int) (o : List TApiChallenge), i + m = N → o.length ≤ 32 → m < f →
    passkeylaw29ChallengeFullL2 a1 a2 f sec cnt o (i : Int) = some true
  | m, f, i, cnt, o, hm, ho, hf => by
    obtain ⟨f, rfl⟩ : ∃ g, f = g + 1 := ⟨f - 1, by omega⟩
    rw [passkeylaw29ChallengeFullL2, hN]
    cases m with
    | zero => rw [if_neg (by rw [decide_eq_true_eq]; omega), passkeylaw29ChallengeFullJ1, awake_eq]; rfl
    | succ m =>
      have hik : i * K ≤ 80 * 5 := Nat.mul_le_mul (by omega) hK1
      have e1 : w64 ((i : Int) + 1) = ((i + 1 : Nat) : Int) := by rw [w64_of (by omega) (by omega)]; omega
      have e2 : (i : Int) * K = ((i * K : Nat) : Int) := by simp
      rw [if_pos (by rw [decide_eq_true_eq]; omega), lett_def, hK, e2, w64_of (by omega) (by omega), issue_eq _ _ _ _ _ (Or.inr rfl) (by simp) (by omega) (by omega) (by simp only; omega), Option.bind_some]
      have hc := count_loop (passkeylaw29ChallengeFullL2 a1 a2 f) o (by omega) (i : Int) ((i * K : Nat) : Int) (issueS ⟨sec, cnt, o⟩ 2 [] false ((i * K : Nat) : Int)) o.length FUEL 0 0 (by omega) (by omega) (by simp only [FUEL]; omega)
      refine hc.trans ?_
      rw [List.drop_zero, Nat.zero_add, passkeylaw29ChallengeFullJ4, issueS]
      simp only
      by_cases h : 32 ≤ (o.filter (keep ((i * K : Nat) : Int))).length
      · rw [if_pos h, decide_eq_false (by omega)]
        simp only
        rw [if_neg (by decide), if_pos (by decide), if_neg (by decide), passkeylaw29ChallengeFullJ5, decide_eq_false (by omega), if_neg (by simp), passkeylaw29ChallengeFullJ3, e1]
        exact full_loop a1 a2 K N hK hK1 hN hN1 sec m f (i + 1) _ _ (by omega) ho (by omega)
      · rw [if_neg h, decide_eq_true (by omega)]
        simp only
        rw [if_neg (by decide), if_neg (by decide), passkeylaw29ChallengeFullJ5, decide_eq_false (by rw [List.length_append]; simp only [List.length_cons, List.length_nil]; omega), if_neg (by simp), passkeylaw29ChallengeFullJ3, e1]
        exact full_loop a1 a2 K N hK hK1 hN hN1 sec m f (i + 1) _ _ (by omega) (by rw [List.length_append]; simp only [List.length_cons, List.length_nil]; omega) (by omega)
theorem challengeFull_holds (a0 : BitVec 64) (a1 a2 : BitVec 8) : passkeylaw29ChallengeFull a0 a1 a2 = some true := by
  have h1 : (a1 % 5#8).toNat < 5 := by rw [BitVec.toNat_umod]; exact Nat.mod_lt _ (by decide)
  have h2 : (a2 % 40#8).toNat < 40 := by rw [BitVec.toNat_umod]; exact Nat.mod_lt _ (by decide)
  rw [passkeylaw29ChallengeFull, challengeNew, Option.bind_some]
  exact full_loop a1 a2 (1 + (a1 % 5#8).toNat) (40 + (a2 % 40#8).toNat) (by rw [w64_of (by omega) (by omega)]; omega) (by omega) (by rw [w64_of (by omega) (by omega)]; omega) (by omega) a0 (40 + (a2 % 40#8).toNat) FUEL 0 0 [] (by omega) (by simp) (by simp only [FUEL]; omega)
end Go.Proofs.Ty
