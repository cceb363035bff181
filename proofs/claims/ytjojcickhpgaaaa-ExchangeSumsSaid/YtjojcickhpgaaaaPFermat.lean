/- Every number but the multiples of 2^61 - 1 has power 1 at 2^61 - 2: 37 generates them all. -/
import Derived.KernelRfl
set_option linter.unusedSimpArgs false
set_option linter.unusedVariables false
namespace Go.Proofs.Fer
def Pr (p : Nat) : Prop := 2 ≤ p ∧ ∀ d, d ∣ p → d = 1 ∨ d = p
theorem exists_pr : ∀ n, 2 ≤ n → ∃ q, Pr q ∧ q ∣ n := by
  intro n
  induction n using Nat.strongRecOn with
  | _ n ih =>
    intro hn
    by_cases h : ∀ d, d ∣ n → d = 1 ∨ d = n
    · exact ⟨n, ⟨hn, h⟩, Nat.dvd_refl n⟩
    · obtain ⟨d, hd⟩ := Classical.not_forall.1 h
      have ⟨h1, h2⟩ := Classical.not_imp.1 hd
      have hd0 : 0 < d := Nat.pos_of_dvd_of_pos h1 (by omega)
      have hle := Nat.le_of_dvd (by omega) h1
      obtain ⟨q, hq, hqd⟩ := ih d (by omega) (by omega)
      exact ⟨q, hq, Nat.dvd_trans hqd h1⟩
theorem Pr.coprime {p a : Nat} (h : Pr p) (ha : ¬ p ∣ a) : Nat.Coprime p a := by
  rcases h.2 (Nat.gcd p a) (Nat.gcd_dvd_left p a) with h1 | h1
  · exact h1
  · exact absurd (h1 ▸ Nat.gcd_dvd_right p a) ha
theorem Pr.mul {p a b : Nat} (h : Pr p) (hd : p ∣ a * b) : p ∣ a ∨ p ∣ b := by
  by_cases ha : p ∣ a
  · exact Or.inl ha
  · exact Or.inr ((h.coprime ha).dvd_of_dvd_mul_left hd)
/-- Products of lists. -/
def prod : List Nat → Nat
  | [] => 1
  | x :: xs => x * prod xs
theorem Pr.prod {p : Nat} (h : Pr p) : ∀ l : List Nat, p ∣ prod l → ∃ x ∈ l, p ∣ x
  | [], hd => by
    have := Nat.le_of_dvd (by decide) hd
    have := h.1
    simp only [Fer.prod] at *; omega
  | x :: l, hd => by
    rcases h.mul hd with h1 | h1
    · exact ⟨x, List.mem_cons_self, h1⟩
    · obtain ⟨y, hy, hyd⟩ := h.prod l h1
      exact ⟨y, List.mem_cons_of_mem _ hy, hyd⟩
/-- A small prime, by trial. -/
def small (r : Nat) : Bool := decide (0 < r) && (List.range (r + 1)).all fun d => d == 0 || r % d != 0 || d == 1 || d == r
theorem small_eq {q r : Nat} (hr : small r = true) (hq : Pr q) (h : q ∣ r) : q = r := by
  simp only [small, Bool.and_eq_true, decide_eq_true_eq, List.all_eq_true, List.mem_range] at hr
  have hle := Nat.le_of_dvd hr.1 h
  have := hr.2 q (by omega)
  have h2 := hq.1
  have hm : r % q = 0 := Nat.mod_eq_zero_of_dvd h
  simp only [Bool.or_eq_true, beq_iff_eq, bne_iff_ne, hm] at this
  omega
/-- Powers by squaring. -/
def mp (p : Nat) : Nat → Nat → Nat → Nat
  | 0, _, _ => 1 % p
  | k + 1, b, e => if e = 0 then 1 % p else if e % 2 = 1 then b * mp p k (b * b % p) (e / 2) % p else mp p k (b * b % p) (e / 2)
theorem mp_eq (p : Nat) : ∀ (k b e : Nat), e < 2 ^ k → mp p k b e = b ^ e % p
  | 0, b, e, h => by
    have : e = 0 := by simpa using h
    subst this; simp [mp]
  | k + 1, b, e, h => by
    have hp : 2 ^ (k + 1) = 2 ^ k * 2 := Nat.pow_succ ..
    rw [mp]
    split
    · rename_i h0; subst h0; rfl
    · have hs : (b * b % p) ^ (e / 2) % p = b ^ (2 * (e / 2)) % p := by
        rw [← Nat.pow_mod, Nat.pow_mul, Nat.pow_two]
      rw [mp_eq p k _ _ (by omega), hs]
      split
      · rw [Nat.mul_mod_mod, ← Nat.pow_succ', show (2 * (e / 2)).succ = e by omega]
      · rw [show 2 * (e / 2) = e by omega]
section
variable {P N g : Nat}
theorem pow_one_mul (h : g ^ N % P = 1 % P) (k : Nat) : g ^ (N * k) % P = 1 % P := by
  rw [Nat.pow_mul, Nat.pow_mod, h, ← Nat.pow_mod, Nat.one_pow]
/-- No smaller exponent, if none of these quotients has power 1. -/
theorem order (hP : 1 < P) (hN : 0 < N) (hg : g ^ N % P = 1 % P) (l : List Nat) (hl : ∀ r ∈ l, small r = true ∧ g ^ (N / r) % P ≠ 1 % P) (hp : prod l = N) : ∀ d, 0 < d → d < N → g ^ d % P ≠ 1 % P := by
  intro d
  induction d using Nat.strongRecOn with
  | _ d ih =>
    intro h0 h1 h
    by_cases hr : N % d = 0
    · have hd : N = d * (N / d) := (Nat.mul_div_cancel' (Nat.dvd_of_mod_eq_zero hr)).symm
      have h2 : 2 ≤ N / d := by
        generalize N / d = e at hd
        match e, hd with
        | 0, hd => rw [Nat.mul_zero] at hd; omega
        | 1, hd => rw [Nat.mul_one] at hd; omega
        | e + 2, _ => omega
      obtain ⟨q, hq, hqd⟩ := exists_pr (N / d) h2
      have hqN : q ∣ prod l := by
        rw [hp]; exact Nat.dvd_trans hqd (Nat.div_dvd_of_dvd (Nat.dvd_of_mod_eq_zero hr))
      obtain ⟨r, hrl, hqr⟩ := hq.prod l hqN
      have hs := hl r hrl
      have e := small_eq hs.1 hq hqr
      subst e
      obtain ⟨m, hm⟩ := hqd
      have hq0 : 0 < q := by have := hq.1; omega
      have hNq : N / q = d * m := by
        rw [hd, hm, ← Nat.mul_assoc, Nat.mul_comm d q, Nat.mul_assoc, Nat.mul_div_cancel_left _ hq0]
      exact hs.2 (by rw [hNq]; exact pow_one_mul h m)
    · have hlt : N % d < d := Nat.mod_lt _ h0
      refine ih (N % d) hlt (by omega) (by omega) ?_
      have hd := Nat.div_add_mod N d
      have := hg
      rw [← hd, Nat.pow_add, Nat.mul_mod, pow_one_mul h, ← Nat.mul_mod, Nat.one_mul] at this
      exact this
theorem nodup_le : ∀ {l m : List Nat}, l.Nodup → (∀ x ∈ l, x ∈ m) → l.length ≤ m.length
  | [], _, _, _ => Nat.zero_le _
  | x :: l, m, hn, hs => by
    rw [List.nodup_cons] at hn
    have hx : x ∈ m := hs x List.mem_cons_self
    have := nodup_le (l := l) (m := m.erase x) hn.2 fun y hy => by
      have hne : y ≠ x := fun e => hn.1 (e ▸ hy)
      exact (List.mem_erase_of_ne hne).2 (hs y (List.mem_cons_of_mem _ hy))
    rw [List.length_erase_of_mem hx] at this
    have := List.length_pos_of_mem hx
    simp only [List.length_cons]; omega
/-- A generator's powers are all that is not 0, and so Fermat's theorem. -/
theorem cyc (hP : P = N + 1) (hN : 0 < N) (hg : g ^ N % P = 1 % P) (hm : ∀ d, 0 < d → d < N → g ^ d % P ≠ 1 % P) {a : Nat} (ha : a % P ≠ 0) : a ^ N % P = 1 % P := by
  have h1 : 1 % P = 1 := Nat.mod_eq_of_lt (by omega)
  have hne : ∀ i, i < N → g ^ i % P ≠ 0 := by
    intro i hi h
    have := hg
    rw [show N = i + (N - i) by omega, Nat.pow_add, Nat.mul_mod, h, Nat.zero_mul, Nat.zero_mod] at this
    omega
  have hinj : ∀ i j, i < j → j < N → g ^ i % P ≠ g ^ j % P := by
    intro i j hij hj h
    refine hm (j - i) (by omega) (by omega) ?_
    have e : g ^ (j - i) % P = (g ^ j * g ^ (N - i)) % P := by
      rw [← Nat.pow_add, show j + (N - i) = (j - i) + N by omega, Nat.pow_add, Nat.mul_mod (g ^ (j - i)), hg, ← Nat.mul_mod, Nat.mul_one]
    rw [e, Nat.mul_mod, ← h, ← Nat.mul_mod, ← Nat.pow_add, show i + (N - i) = N by omega, hg]
  let L := (List.range N).map fun i => g ^ i % P
  let R := (List.range N).map fun i => i + 1
  have hL : L.Nodup := by
    rw [List.nodup_iff_pairwise_ne, List.pairwise_map]
    exact List.Pairwise.imp_of_mem (fun {i j} hi hj (hij : i < j) => hinj i j hij (List.mem_range.1 hj)) List.pairwise_lt_range
  have hall : ∀ x, x ∈ R ↔ 0 < x ∧ x < P := by
    intro x
    simp only [R, List.mem_map, List.mem_range]
    constructor
    · rintro ⟨i, hi, rfl⟩; omega
    · rintro ⟨h2, h3⟩; exact ⟨x - 1, by omega, by omega⟩
  have hLR : ∀ x ∈ L, x ∈ R := by
    intro x hx
    simp only [L, List.mem_map, List.mem_range] at hx
    obtain ⟨i, hi, rfl⟩ := hx
    exact (hall _).2 ⟨Nat.pos_of_ne_zero (hne i hi), Nat.mod_lt _ (by omega)⟩
  have hmem : a % P ∈ L := by
    apply Classical.byContradiction
    intro hn
    have := nodup_le (l := a % P :: L) (m := R) (List.nodup_cons.2 ⟨hn, hL⟩) fun x hx => by
      rcases List.mem_cons.1 hx with rfl | hx
      · exact (hall _).2 ⟨Nat.pos_of_ne_zero ha, Nat.mod_lt _ (by omega)⟩
      · exact hLR x hx
    simp only [L, R, List.length_cons, List.length_map, List.length_range] at this
    omega
  simp only [L, List.mem_map, List.mem_range] at hmem
  obtain ⟨i, _, hi⟩ := hmem
  rw [Nat.pow_mod, ← hi, ← Nat.pow_mod, ← Nat.pow_mul, Nat.mul_comm i N]
  exact pow_one_mul hg i
end
/-- The whole test, as a computation. -/
theorem tested {P N g : Nat} {l : List Nat} (hP : P = N + 1) (hN : 0 < N) (hb : N < 2 ^ 64) (h1 : mp P 64 g N = 1 % P) (hl : (l.all fun r => small r && mp P 64 g (N / r) != 1 % P) = true) (hp : prod l = N) {a : Nat} (ha : a % P ≠ 0) : a ^ N % P = 1 % P := by
  have hg : g ^ N % P = 1 % P := by rw [← mp_eq P 64 g N hb]; exact h1
  refine cyc (g := g) hP hN hg (order (by omega) hN hg l (fun r hr => ?_) hp) ha
  have := List.all_eq_true.1 hl r hr
  simp only [Bool.and_eq_true, bne_iff_ne] at this
  refine ⟨this.1, fun h => this.2 ?_⟩
  rw [mp_eq _ _ _ _ (Nat.lt_of_le_of_lt (Nat.div_le_self _ _) hb), h]
def primes : List Nat := [2, 3, 3, 5, 5, 7, 11, 13, 31, 41, 61, 151, 331, 1321]
theorem fermat {a N : Nat} (hN : N = 2305843009213693950) (ha : a % 2305843009213693951 ≠ 0) : a ^ N % 2305843009213693951 = 1 :=
  tested (P := 2305843009213693951) (N := N) (g := 37) (l := primes) (by rw [hN]) (by omega) (by omega) (by rw [hN]; kernel_rfl) (by rw [hN]; kernel_rfl) (by rw [hN]; kernel_rfl) ha
end Go.Proofs.Fer
