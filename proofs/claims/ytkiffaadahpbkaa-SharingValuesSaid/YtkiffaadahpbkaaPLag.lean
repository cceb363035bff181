/- Interpolation: the value that shares say a place has. -/
import Derived.Test.YtkiffaadahpbkaaPAdds
set_option linter.unusedSimpArgs false
set_option linter.unusedVariables false
namespace Go.Proofs.Ty
open Go Go.RW
/-! ### polynomial functions -/
/-- A polynomial's function, of degree less than n. -/
def PolF : Nat → (BitVec 8 → BitVec 8) → Prop
  | 0, f => ∀ x, f x = 0#8
  | n + 1, f => ∀ a, ∃ q, PolF n q ∧ ∀ x, f x = f a ^^^ gm (x ^^^ a) (q x)
theorem PolF.zero : ∀ n, PolF n fun _ => 0#8
  | 0 => fun _ => rfl
  | n + 1 => fun a => ⟨fun _ => 0#8, PolF.zero n, fun x => by rw [gm_zero, BitVec.xor_zero]⟩
theorem PolF.xor : ∀ {n : Nat} {f g : BitVec 8 → BitVec 8}, PolF n f → PolF n g → PolF n fun x => f x ^^^ g x
  | 0, f, g, hf, hg => fun x => by simp only [hf x, hg x]; rfl
  | n + 1, f, g, hf, hg => fun a => by
    obtain ⟨q, h1, h2⟩ := hf a
    obtain ⟨r, h3, h4⟩ := hg a
    refine ⟨_, h1.xor h3, fun x => ?_⟩
    rw [gm_xor, xor4, ← h2, ← h4]
theorem PolF.scale : ∀ {n : Nat} {f : BitVec 8 → BitVec 8} (c : BitVec 8), PolF n f → PolF n fun x => gm c (f x)
  | 0, f, c, hf => fun x => by simp only [hf x, gm_zero]
  | n + 1, f, c, hf => fun a => by
    obtain ⟨q, h1, h2⟩ := hf a
    refine ⟨_, h1.scale c, fun x => ?_⟩
    simp only
    rw [h2 x, gm_xor, ← gm_assoc, ← gm_assoc, gm_comm c (x ^^^ a)]
theorem PolF.succ : ∀ {n : Nat} {f : BitVec 8 → BitVec 8}, PolF n f → PolF (n + 1) f
  | 0, f, hf => fun a => ⟨fun _ => 0#8, fun _ => rfl, fun x => by rw [hf x, hf a, gm_zero]; rfl⟩
  | n + 1, f, hf => fun a => by
    obtain ⟨q, h1, h2⟩ := hf a
    exact ⟨q, h1.succ, h2⟩
theorem PolF.mono {n m : Nat} {f : BitVec 8 → BitVec 8} (h : PolF n f) (hm : n ≤ m) : PolF m f := by
  induction hm with
  | refl => exact h
  | step _ ih => exact ih.succ
theorem PolF.const (c : BitVec 8) : PolF 1 fun _ => c := fun a => ⟨fun _ => 0#8, fun _ => rfl, fun x => by rw [gm_zero, BitVec.xor_zero]⟩
theorem PolF.mul : ∀ {n : Nat} {f : BitVec 8 → BitVec 8} (b : BitVec 8), PolF n f → PolF (n + 1) fun x => gm (x ^^^ b) (f x)
  | 0, f, b, hf => fun a => ⟨fun _ => 0#8, fun _ => rfl, fun x => by simp only [hf x, hf a, gm_zero]; rfl⟩
  | n + 1, f, b, hf => fun a => by
    obtain ⟨q, h1, h2⟩ := hf a
    refine ⟨fun x => f x ^^^ gm (a ^^^ b) (q x), hf.xor (h1.scale (a ^^^ b)).succ, fun x => ?_⟩
    simp only
    rw [gm_xor, ← gm_assoc, gm_comm (x ^^^ a) (a ^^^ b), gm_assoc, ← BitVec.xor_assoc]
    have e : gm (x ^^^ a) (q x) = f x ^^^ f a := by
      rw [h2 x]
      rw [show f a ^^^ gm (x ^^^ a) (q x) ^^^ f a = gm (x ^^^ a) (q x) ^^^ (f a ^^^ f a) by ac_rfl, BitVec.xor_self, BitVec.xor_zero]
    rw [e, gm_xor]
    rw [show gm (a ^^^ b) (f a) ^^^ gm (x ^^^ a) (f x) ^^^ (gm (a ^^^ b) (f x) ^^^ gm (a ^^^ b) (f a)) = (gm (x ^^^ a) (f x) ^^^ gm (a ^^^ b) (f x)) ^^^ (gm (a ^^^ b) (f a) ^^^ gm (a ^^^ b) (f a)) by ac_rfl, BitVec.xor_self, BitVec.xor_zero, ← xor_gm]
    rw [show x ^^^ a ^^^ (a ^^^ b) = x ^^^ b ^^^ (a ^^^ a) by ac_rfl, BitVec.xor_self, BitVec.xor_zero]
theorem xor_ne {a b : BitVec 8} (h : a ≠ b) : a ^^^ b ≠ 0#8 := by
  intro h0
  apply h
  have : a ^^^ b ^^^ b = 0#8 ^^^ b := by rw [h0]
  rwa [BitVec.xor_assoc, BitVec.xor_self, BitVec.xor_zero, BitVec.zero_xor] at this
theorem gm_nz {a b : BitVec 8} (h : gm a b = 0#8) (ha : a ≠ 0#8) : b = 0#8 := by
  have : gm (gi a) (gm a b) = gm (gi a) 0#8 := by rw [h]
  rwa [← gm_assoc, gm_comm (gi a) a, gi_mul a ha, one_gm, gm_zero] at this
theorem PolF.roots : ∀ {rs : List (BitVec 8)} {f : BitVec 8 → BitVec 8}, PolF rs.length f → rs.Nodup → (∀ r ∈ rs, f r = 0#8) → ∀ x, f x = 0#8
  | [], f, hf, _, _ => hf
  | a :: rs, f, hf, hn, hr => fun x => by
    obtain ⟨q, h1, h2⟩ := hf a
    rw [List.nodup_cons] at hn
    have hq : ∀ r ∈ rs, q r = 0#8 := by
      intro r hrs
      have h3 := h2 r
      rw [hr r (List.mem_cons_of_mem _ hrs), hr a List.mem_cons_self, BitVec.zero_xor] at h3
      exact gm_nz h3.symm (xor_ne fun e => hn.1 (e ▸ hrs))
    rw [h2 x, hr a List.mem_cons_self, h1.roots hn.2 hq x, gm_zero]; rfl
theorem gp_pol : ∀ m, PolF (m + 1) fun x => gp x m
  | 0 => PolF.const 1#8
  | m + 1 => by
    have := (gp_pol m).mul 0#8
    simp only [BitVec.xor_zero] at this
    have e : (fun x => gp x (m + 1)) = fun x => gm x (gp x m) := by funext x; rw [gp, gm_comm]
    rw [e]; exact this
theorem poly_pol (c : Nat → BitVec 8) : ∀ m, PolF (m + 1) fun x => poly c x m
  | 0 => (PolF.zero 0).succ
  | m + 1 => ((poly_pol c m).succ).xor ((gp_pol (m + 1)).scale (c m))
theorem share_pol (s co : List (BitVec 8)) (t j : Nat) (ht : 1 ≤ t) : PolF t fun x => shareB s co t x j := by
  have h := ((PolF.const (s.getD j 0#8)).mono (m := t - 1 + 1) (by omega)).xor (poly_pol (cof co s.length j) (t - 1))
  rw [Nat.sub_add_cancel ht] at h
  exact h
theorem gp_zero : ∀ m, gp 0#8 (m + 1) = 0#8 := fun m => by rw [gp, gm_zero]
theorem poly_zero (c : Nat → BitVec 8) : ∀ m, poly c 0#8 m = 0#8
  | 0 => rfl
  | m + 1 => by rw [poly, poly_zero c m, gp_zero, gm_zero]; rfl
/-! ### weights -/
section
variable (X : Nat → BitVec 8) (Y : Nat → BitVec 8)
def fac (x : BitVec 8) (i j : Nat) : BitVec 8 := if j = i then 1#8 else gm (x ^^^ X j) (gi (X i ^^^ X j))
def wt (x : BitVec 8) (i : Nat) : Nat → BitVec 8
  | 0 => 1#8
  | j + 1 => gm (wt x i j) (fac X x i j)
def valN (x : BitVec 8) (n : Nat) : Nat → BitVec 8
  | 0 => 0#8
  | i + 1 => valN x n i ^^^ gm (wt X x i n) (Y i)
theorem wt_pol (i : Nat) : ∀ m, PolF (if i < m then m else m + 1) fun x => wt X x i m
  | 0 => PolF.const 1#8
  | m + 1 => by
    have h := wt_pol i m
    by_cases hm : m = i
    · subst hm
      rw [if_neg (by omega)] at h
      rw [if_pos (by omega)]
      have e : (fun x => wt X x m (m + 1)) = fun x => wt X x m m := by funext x; rw [wt, fac, if_pos rfl, gm_one]
      rw [e]; exact h
    · have e : (fun x => wt X x i (m + 1)) = fun x => gm (x ^^^ X m) (gm (gi (X i ^^^ X m)) (wt X x i m)) := by
        funext x
        rw [wt, fac, if_neg hm, gm_comm (gi _) (wt ..), ← gm_assoc, ← gm_assoc, gm_comm (x ^^^ X m)]
      rw [e]
      have h2 := (h.scale (gi (X i ^^^ X m))).mul (X m)
      refine h2.mono ?_
      split <;> split <;> omega
theorem val_pol (n : Nat) : ∀ i, i ≤ n → PolF n fun x => valN X Y x n i
  | 0, _ => PolF.zero n
  | i + 1, h => by
    have h2 := wt_pol X i n
    rw [if_pos (by omega)] at h2
    have e : (fun x => valN X Y x n (i + 1)) = fun x => valN X Y x n i ^^^ gm (Y i) (wt X x i n) := by funext x; rw [valN, gm_comm]
    rw [e]
    exact (val_pol n i (by omega)).xor (h2.scale (Y i))
theorem wt_self (n i : Nat) (hi : i < n) (hd : ∀ i j, i < n → j < n → i ≠ j → X i ≠ X j) : ∀ m, m ≤ n → wt X (X i) i m = 1#8
  | 0, _ => rfl
  | m + 1, hm => by
    rw [wt, wt_self n i hi hd m (by omega), one_gm, fac]
    split
    · rfl
    · rename_i h
      exact gi_mul _ (xor_ne (hd i m hi (by omega) (fun e => h e.symm)))
theorem wt_other (i j : Nat) (h : j ≠ i) : ∀ m, j < m → wt X (X j) i m = 0#8
  | m + 1, hm => by
    rw [wt]
    by_cases e : m = j
    · subst e; rw [fac, if_neg h, BitVec.xor_self, zero_gm, gm_zero]
    · rw [wt_other i j h m (by omega), zero_gm]
theorem val_at (n j : Nat) (hj : j < n) (hd : ∀ i j, i < n → j < n → i ≠ j → X i ≠ X j) : ∀ m, m ≤ n → valN X Y (X j) n m = if j < m then Y j else 0#8
  | 0, _ => by rw [if_neg (by omega)]; rfl
  | m + 1, hm => by
    rw [valN, val_at n j hj hd m (by omega)]
    by_cases e : m = j
    · subst e; rw [if_neg (by omega), if_pos (by omega), wt_self X n m hj hd n (Nat.le_refl _), one_gm, BitVec.zero_xor]
    · rw [wt_other X m j (fun h => e h.symm) n hj, zero_gm, BitVec.xor_zero]
      by_cases h : j < m
      · rw [if_pos h, if_pos (by omega)]
      · rw [if_neg h, if_neg (by omega)]
theorem nodup_map_range {n : Nat} (hd : ∀ i j, i < n → j < n → i ≠ j → X i ≠ X j) : ((List.range n).map X).Nodup := by
  rw [List.nodup_iff_pairwise_ne, List.pairwise_map]
  refine List.Pairwise.imp_of_mem ?_ (List.nodup_iff_pairwise_ne.1 List.nodup_range)
  intro a b ha hb h
  exact hd a b (List.mem_range.1 ha) (List.mem_range.1 hb) h
theorem lagrange {n : Nat} {f : BitVec 8 → BitVec 8} (hf : PolF n f) (hd : ∀ i j, i < n → j < n → i ≠ j → X i ≠ X j) (hy : ∀ i, i < n → Y i = f (X i)) (x : BitVec 8) : valN X Y x n n = f x := by
  have h := (val_pol X Y n n (Nat.le_refl _)).xor hf
  have h2 := PolF.roots (rs := (List.range n).map X) (by rw [List.length_map, List.length_range]; exact h) (nodup_map_range X hd) (by
    intro r hr
    obtain ⟨j, hj, rfl⟩ := List.mem_map.1 hr
    have hj := List.mem_range.1 hj
    show valN X Y (X j) n n ^^^ f (X j) = 0#8
    rw [val_at X Y n j hj hd n (Nat.le_refl _), if_pos hj, hy j hj, BitVec.xor_self]) x
  have h3 : valN X Y x n n ^^^ f x ^^^ f x = 0#8 ^^^ f x := by rw [h2]
  rwa [BitVec.xor_assoc, BitVec.xor_self, BitVec.xor_zero, BitVec.zero_xor] at h3
end
end Go.Proofs.Ty
