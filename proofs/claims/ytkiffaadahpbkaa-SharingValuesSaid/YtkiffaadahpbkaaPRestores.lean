/- Enough shares restore what was shared. -/
import Derived.Test.YtkiffaadahpbkaaPAt
set_option linter.unusedSimpArgs false
set_option linter.unusedVariables false
namespace Go.Proofs.Ty
open Go Go.RW
/-- Shares of the indices of a list. -/
def pick (s co : List (BitVec 8)) (t : Nat) (ix : List Nat) : List TApiShare := ix.map fun i => shareAt s co t (i + 1)
theorem pick_getD (s co : List (BitVec 8)) (t : Nat) (ix : List Nat) (i : Nat) (h : i < ix.length) : (pick s co t ix).getD i zS = shareAt s co t (ix.getD i 0 + 1) := by
  simp [pick, List.getD_eq_getElem?_getD, h]
theorem nodup_getD {ix : List Nat} (h : ix.Nodup) {i j : Nat} (hij : i < j) (hj : j < ix.length) : ix.getD i 0 ≠ ix.getD j 0 := by
  rw [List.nodup_iff_pairwise_ne, List.pairwise_iff_getElem] at h
  have := h i j (by omega) hj hij
  simpa [List.getD_eq_getElem?_getD, hj, show i < ix.length by omega] using this
theorem mem_getD {ix : List Nat} {i : Nat} (h : i < ix.length) : ix.getD i 0 ∈ ix := by
  simp [List.getD_eq_getElem?_getD, h]
theorem ofInt_inj {a b : Nat} (ha : a ≤ 255) (hb : b ≤ 255) (h : BitVec.ofInt 8 (a : Int) = BitVec.ofInt 8 (b : Int)) : a = b := by
  have := congrArg BitVec.toNat h
  rw [BitVec.toNat_ofInt, BitVec.toNat_ofInt] at this
  omega
theorem pick_ok (s co : List (BitVec 8)) (t : Nat) (ix : List Nat) (hs : s.length ≤ 64) (hne : 0 < ix.length) (hl : ix.length ≤ 255) (hn : ix.Nodup) (hx : ∀ i ∈ ix, i < 10) : OkS (pick s co t ix) s.length where
  ne := by simpa [pick] using hne
  short := by simpa [pick] using hl
  rng := by
    intro i hi
    have hi : i < ix.length := by simpa [pick] using hi
    rw [pick_getD s co t ix i hi]
    have := hx _ (mem_getD hi)
    simp only [shareAt]; omega
  dis := by
    intro i j hij hj
    have hj : j < ix.length := by simpa [pick] using hj
    rw [pick_getD s co t ix i (by omega), pick_getD s co t ix j hj]
    have := nodup_getD hn hij hj
    simp only [shareAt]; omega
  dat := by
    intro i hi
    have hi : i < ix.length := by simpa [pick] using hi
    rw [pick_getD s co t ix i hi, shareD]
  l64 := hs
theorem pick_at (s co : List (BitVec 8)) (t : Nat) (ix : List Nat) (hs : s.length ≤ 64) (ht : 1 ≤ t) (hl : ix.length ≤ 255) (htn : t ≤ ix.length) (hn : ix.Nodup) (hx : ∀ i ∈ ix, i < 10) (a : Int) (h0 : 0 ≤ a) (h1 : a ≤ 255) :
    sharingAt (pick s co t ix) a = some ((List.range s.length).map (shareB s co t (BitVec.ofInt 8 a)), 0) := by
  have ok := pick_ok s co t ix hs (by omega) hl hn hx
  rw [at_eq _ _ ok a h0 h1]
  congr 2
  apply List.map_congr_left
  intro d hd
  have hd := List.mem_range.1 hd
  have hlen : (pick s co t ix).length = ix.length := by simp [pick]
  rw [hlen]
  have hbx : ∀ i, i < ix.length → bx (pick s co t ix) i = BitVec.ofInt 8 ((ix.getD i 0 + 1 : Nat) : Int) := by
    intro i hi
    rw [bx, pick_getD s co t ix i hi]; rfl
  refine lagrange (bx (pick s co t ix)) (dat (pick s co t ix) d) (n := ix.length) (f := fun x => shareB s co t x d) ((share_pol s co t d ht).mono htn) ?_ ?_ _
  · intro i j hi hj hij e
    rw [hbx i hi, hbx j hj] at e
    have h1 := hx _ (mem_getD hi)
    have h2 := hx _ (mem_getD hj)
    have := ofInt_inj (by omega) (by omega) e
    rcases Nat.lt_or_gt_of_ne hij with h | h
    · exact nodup_getD hn h hj (by omega)
    · exact nodup_getD hn h hi (by omega)
  · intro i hi
    rw [hbx i hi, dat, pick_getD s co t ix i hi]
    simp [shareAt, List.getD_eq_getElem?_getD, hd]
theorem pick_join (s co : List (BitVec 8)) (t : Nat) (ix : List Nat) (hs : s.length ≤ 64) (ht : 1 ≤ t) (hl : ix.length ≤ 255) (htn : t ≤ ix.length) (hn : ix.Nodup) (hx : ∀ i ∈ ix, i < 10) : sharingJoin (pick s co t ix) = some (s, 0) := by
  rw [sharingJoin, pick_at s co t ix hs ht hl htn hn hx 0 (by omega) (by omega), Option.bind_some]
  congr 2
  apply List.ext_getElem
  · simp
  · intro i h1 h2
    simp only [List.getElem_map, List.getElem_range, shareB]
    rw [show BitVec.ofInt 8 0 = 0#8 from rfl, poly_zero, BitVec.xor_zero]
    simp [List.getD_eq_getElem?_getD, h2]
/-- A list that holds all below n is at least n long. -/
theorem holds_len : ∀ (n : Nat) (l : List Nat), (∀ j, j < n → j ∈ l) → n ≤ l.length
  | 0, l, _ => Nat.zero_le _
  | n + 1, l, h => by
    have h1 := h n (by omega)
    have h2 := holds_len n (l.erase n) (fun j hj => (List.mem_erase_of_ne (by omega)).2 (h j (by omega)))
    rw [List.length_erase_of_mem h1] at h2
    have : 0 < l.length := List.length_pos_of_mem h1
    omega
section
variable (a0 a1 : List (BitVec 8)) (a3 : BitVec 8) (a4 : List (BitVec 8)) (t n : Nat)
/-- The law's last part. -/
theorem res_J5 : passkeylaw37SharingRestoresJ5 a0 (a0, 0) = some true := by
  rw [passkeylaw37SharingRestoresJ5, if_pos (by rfl), if_pos (by simp), awake_eq]; rfl
variable {a0 a1 a3 t n}
variable (hn : w64 ((1 : Int) + ((a3 % (10#8)).toNat : Int)) = (n : Int)) (hs : a0.length ≤ 64) (ht : 1 ≤ t) (htn : t ≤ n) (hn10 : n ≤ 10)
include hn hs ht htn hn10
theorem res_L6 (ix : List Nat) (hl : ix.length ≤ 255) (htx : t ≤ ix.length) (hd : ix.Nodup) (hx : ∀ i ∈ ix, i < 10) : ∀ (m i k : Nat), i + m = n → m < k →
    passkeylaw37SharingRestoresL6 a0 a3 (shares a0 a1 t n, 0) (pick a0 a1 t ix) (a0, 0) k i = some true
  | 0, i, k + 1, h, hk => by
    rw [passkeylaw37SharingRestoresL6, hn, if_neg (by simp; omega)]; exact res_J5 a0
  | m + 1, i, k + 1, h, hk => by
    have e2 : w64 ((i : Int) + 1) = ((i + 1 : Nat) : Int) := by rw [w64_of (by omega) (by omega)]; omega
    have g : (shares a0 a1 t n).getD (0 + (i : Int).toNat) (TApiShare.mk (0 : Int) ([] : List (BitVec 8))) = shareAt a0 a1 t (i + 1) := by
      rw [Int.toNat_natCast, Nat.zero_add]
      exact shares_getD a0 a1 t n i (by omega)
    have hlen : 0 ≤ (i : Int) ∧ (i : Int) < ((shares a0 a1 t n).length : Int) := by simp [shares]; omega
    rw [passkeylaw37SharingRestoresL6, hn, if_pos (by simp; omega)]
    simp only [g]
    have hat := pick_at a0 a1 t ix hs ht hl htx hd hx ((i + 1 : Nat) : Int) (by omega) (by omega)
    rw [asq_pos hlen, show (shareAt a0 a1 t (i + 1)).X = ((i + 1 : Nat) : Int) from rfl, hat, Option.bind_some, if_neg (by simp), asq_pos hlen, show (shareAt a0 a1 t (i + 1)).Data = (List.range a0.length).map (shareB a0 a1 t (BitVec.ofInt 8 ((i + 1 : Nat) : Int))) from rfl, passkeylaw37SharingRestoresJ7, if_neg (by simp), e2]
    exact res_L6 ix hl htx hd hx m (i + 1) k (by omega) (by omega)
theorem res_J4 (ix : List Nat) (hl : ix.length ≤ 255) (htx : t ≤ ix.length) (hd : ix.Nodup) (hx : ∀ i ∈ ix, i < 10) : passkeylaw37SharingRestoresJ4 a0 a3 (shares a0 a1 t n, 0) (pick a0 a1 t ix) = some true := by
  rw [passkeylaw37SharingRestoresJ4, pick_join a0 a1 t ix hs ht hl htx hd hx, Option.bind_some]
  exact res_L6 hn hs ht htn hn10 ix hl htx hd hx n 0 FUEL (by omega) (by simp only [FUEL]; omega)
/-- The rest of the shares, in order. -/
theorem res_L8 (seen : List Bool) (ix0 : List Nat) (h10 : seen.length = 10) (hseen : ∀ i, i < 10 → (seen.getD i false = true ↔ i ∈ ix0)) (v8 : Int) (hv : w64 ((1 : Int) + v8) = (t : Int)) : ∀ (m i k : Nat) (ix : List Nat), i + m = n → m < k → ix.length ≤ 30 + i → ix.Nodup → (∀ j ∈ ix, j < n) → (∀ j ∈ ix, i ≤ j → j ∈ ix0) → (∀ j ∈ ix0, j ∈ ix) → (t ≤ ix.length ∨ ∀ j, j < i → j ∈ ix) →
    passkeylaw37SharingRestoresL8 a0 a3 v8 (shares a0 a1 t n, 0) seen k (pick a0 a1 t ix) i = some true
  | 0, i, k + 1, ix, h, hk, hl, hd, hx, hi0, h0i, hc => by
    rw [passkeylaw37SharingRestoresL8, hn, if_neg (by simp; omega), passkeylaw37SharingRestoresJ9, if_neg (by simp)]
    refine res_J4 hn hs ht htn hn10 ix (by omega) ?_ hd (fun j hj => by have := hx j hj; omega)
    rcases hc with h1 | h1
    · exact h1
    · have := holds_len n ix (fun j hj => h1 j (by omega)); omega
  | m + 1, i, k + 1, ix, h, hk, hl, hd, hx, hi0, h0i, hc => by
    have e2 : w64 ((i : Int) + 1) = ((i + 1 : Nat) : Int) := by rw [w64_of (by omega) (by omega)]; omega
    rw [passkeylaw37SharingRestoresL8, hn, if_pos (by simp; omega), hv]
    have hpl : (pick a0 a1 t ix).length = ix.length := by simp [pick]
    rw [hpl, passkeylaw37SharingRestoresJ9]
    by_cases ht2 : ix.length < t
    · rw [if_pos (by simp; omega), asq_pos (by omega), asq_pos (by rw [h10, Int.toNat_natCast]; omega), Int.toNat_natCast]
      have hc' : ∀ j, j < i → j ∈ ix := by rcases hc with h1 | h1; exact absurd h1 (by omega); exact h1
      cases hb : seen.getD i false with
      | true =>
        have hm := h0i i ((hseen i (by omega)).1 hb)
        rw [if_neg (by simp), passkeylaw37SharingRestoresJ10, e2]
        refine res_L8 seen ix0 h10 hseen v8 hv m (i + 1) k ix (by omega) (by omega) (by omega) hd hx (fun j hj hij => hi0 j hj (by omega)) h0i (Or.inr fun j hj => ?_)
        by_cases e : j = i
        · rw [e]; exact hm
        · exact hc' j (by omega)
      | false =>
        have hm : i ∉ ix0 := fun hm => by rw [(hseen i (by omega)).2 hm] at hb; cases hb
        have hni : i ∉ ix := fun hm' => hm (hi0 i hm' (Nat.le_refl _))
        have g : (shares a0 a1 t n).getD (0 + i) (TApiShare.mk (0 : Int) ([] : List (BitVec 8))) = shareAt a0 a1 t (i + 1) := by
          rw [Nat.zero_add]; exact shares_getD a0 a1 t n i (by omega)
        have e5 : pick a0 a1 t ix ++ [shareAt a0 a1 t (i + 1)] = pick a0 a1 t (ix ++ [i]) := by simp [pick]
        rw [if_pos (by simp)]
        simp only [Int.toNat_natCast, g, e5]
        rw [asq_pos (by simp [shares]; omega), asq_pos (by simp [pick]; omega), passkeylaw37SharingRestoresJ10, e2]
        refine res_L8 seen ix0 h10 hseen v8 hv m (i + 1) k (ix ++ [i]) (by omega) (by omega) (by simp; omega) ?_ ?_ ?_ ?_ ?_
        · rw [List.nodup_append]
          refine ⟨hd, by simp, ?_⟩
          intro a ha b hb e
          rw [List.mem_singleton.1 hb] at e
          exact hni (e ▸ ha)
        · intro j hj
          rcases List.mem_append.1 hj with h1 | h1
          · exact hx j h1
          · rw [List.mem_singleton.1 h1]; omega
        · intro j hj hij
          rcases List.mem_append.1 hj with h1 | h1
          · exact hi0 j h1 (by omega)
          · rw [List.mem_singleton.1 h1] at hij; omega
        · intro j hj; exact List.mem_append_left _ (h0i j hj)
        · right
          intro j hj
          by_cases e : j = i
          · rw [e]; exact List.mem_append_right _ (List.mem_singleton.2 rfl)
          · exact List.mem_append_left _ (hc' j (by omega))
    · rw [if_neg (by simp; omega)]
      exact res_J4 hn hs ht htn hn10 ix (by omega) (by omega) hd (fun j hj => by have := hx j hj; omega)
theorem res_L11 (a4 : List (BitVec 8)) (v8 : Int) (hv : w64 ((1 : Int) + v8) = (t : Int)) : ∀ (m i k : Nat) (ix : List Nat) (seen : List Bool), i + m = 30 → m < k → ix.length ≤ i → ix.Nodup → (∀ j ∈ ix, j < n) → seen.length = 10 → (∀ j, j < 10 → (seen.getD j false = true ↔ j ∈ ix)) →
    passkeylaw37SharingRestoresL11 a0 a3 a4 v8 (shares a0 a1 t n, 0) k (pick a0 a1 t ix) seen i = some true
  | m, i, k + 1, ix, seen, h, hk, hl, hd, hx, h10, hseen => by
    have hend : passkeylaw37SharingRestoresJ3 a0 a3 v8 (shares a0 a1 t n, 0) (pick a0 a1 t ix) seen = some true :=
      res_L8 hn hs ht htn hn10 seen ix h10 hseen v8 hv n 0 FUEL ix (by omega) (by simp only [FUEL]; omega) (by omega) hd hx (fun j hj _ => hj) (fun j hj => hj) (Or.inr fun j hj => absurd hj (by omega))
    rw [passkeylaw37SharingRestoresL11]
    by_cases hc : i < a4.length
    · rw [if_pos (by simp; omega), passkeylaw37SharingRestoresJ12]
      by_cases hc2 : i < 30
      · rw [if_pos (by simp; omega), asq_pos (by omega), hn, asq_pos (by omega), lett_def, Int.toNat_natCast]
        have e2 : w64 ((i : Int) + 1) = ((i + 1 : Nat) : Int) := by rw [w64_of (by omega) (by omega)]; omega
        obtain ⟨u, hu, hun⟩ : ∃ u : Nat, ((a4.getD i 0#8).toNat : Int).tmod (n : Int) = (u : Int) ∧ u < n := by
          refine ⟨(a4.getD i 0#8).toNat % n, ?_, Nat.mod_lt _ (by omega)⟩
          rw [Int.tmod_eq_emod_of_nonneg (by omega)]; omega
        rw [hu, asq_pos (by omega), Int.toNat_natCast, asq_pos (by omega)]
        match m, h, hk with
        | 0, h, hk => omega
        | m + 1, h, hk =>
        cases hb : seen.getD u false with
        | true =>
          rw [if_neg (by simp), passkeylaw37SharingRestoresJ13, e2]
          exact res_L11 a4 v8 hv m (i + 1) k ix seen (by omega) (by omega) (by omega) hd hx h10 hseen
        | false =>
          have hni : u ∉ ix := fun hm => by rw [(hseen u (by omega)).2 hm] at hb; cases hb
          have g : (shares a0 a1 t n).getD (0 + u) (TApiShare.mk (0 : Int) ([] : List (BitVec 8))) = shareAt a0 a1 t (u + 1) := by
            rw [Nat.zero_add]; exact shares_getD a0 a1 t n u hun
          have e5 : pick a0 a1 t ix ++ [shareAt a0 a1 t (u + 1)] = pick a0 a1 t (ix ++ [u]) := by simp [pick]
          rw [if_pos (by simp), asq_pos (by omega), asq_pos (by omega)]
          simp only [g, e5]
          rw [asq_pos (by simp [shares]; omega), asq_pos (by simp [pick]; omega), passkeylaw37SharingRestoresJ13, e2]
          refine res_L11 a4 v8 hv m (i + 1) k (ix ++ [u]) _ (by omega) (by omega) (by simp; omega) ?_ ?_ (by simpa using h10) ?_
          · rw [List.nodup_append]
            refine ⟨hd, by simp, ?_⟩
            intro a ha b hb e
            rw [List.mem_singleton.1 hb] at e
            exact hni (e ▸ ha)
          · intro j hj
            rcases List.mem_append.1 hj with h1 | h1
            · exact hx j h1
            · rw [List.mem_singleton.1 h1]; exact hun
          · intro j hj
            rw [List.mem_append, List.mem_singleton, ← hseen j hj]
            by_cases e : u = j
            · subst e
              simp [List.getD_eq_getElem?_getD, List.getElem?_set, h10, hj]
            · have : (seen.set u true).getD j false = seen.getD j false := by
                simp [List.getD_eq_getElem?_getD, List.getElem?_set, e]
              rw [this]
              constructor
              · exact Or.inl
              · rintro (h1 | h1)
                · exact h1
                · exact absurd h1.symm e
      · rw [if_neg (by simp; omega)]; exact hend
    · rw [if_neg (by simp; omega), passkeylaw37SharingRestoresJ12, if_neg (by simp)]; exact hend
end
theorem sharingRestores_holds (a0 a1 : List (BitVec 8)) (a2 a3 : BitVec 8) (a4 : List (BitVec 8)) (_ : a0.length ≤ 140737488351232) (_ : a1.length ≤ 140737488351232) (_ : a4.length ≤ 140737488351232) : passkeylaw37SharingRestores a0 a1 a2 a3 a4 = some true := by
  obtain ⟨u, hu⟩ : ∃ u, (a3 % 10#8).toNat = u := ⟨_, rfl⟩
  have hu10 : u < 10 := by rw [← hu, BitVec.toNat_umod]; exact Nat.mod_lt _ (by decide)
  have hn : w64 ((1 : Int) + ((a3 % (10#8)).toNat : Int)) = ((u + 1 : Nat) : Int) := by rw [hu, w64_of (by omega) (by omega)]; omega
  obtain ⟨v, hv, hvn⟩ : ∃ v : Nat, (a2.toNat : Int).tmod ((u + 1 : Nat) : Int) = (v : Int) ∧ v < u + 1 := by
    refine ⟨a2.toNat % (u + 1), ?_, Nat.mod_lt _ (by omega)⟩
    rw [Int.tmod_eq_emod_of_nonneg (by omega)]; omega
  have hT : passkeylaw37SharingRestoresJ1 a0 a1 a3 a4 v true = some true := by
    rw [passkeylaw37SharingRestoresJ1, if_pos rfl, awake_eq]; rfl
  have e1 : w64 (1 + (v : Int)) = ((v + 1 : Nat) : Int) := by rw [w64_of (by omega) (by omega)]; omega
  have e2 : w64 (((v + 1 : Nat) : Int) - 1) = (v : Int) := by rw [w64_of (by omega) (by omega)]; omega
  rw [passkeylaw37SharingRestores, hn, asq_pos (by omega), lett_def, hv]
  split
  · exact hT
  rename_i h1
  have h1' : a0.length ≤ 20 := by simp at h1; omega
  have hb : v * a0.length ≤ 10 * 20 := Nat.mul_le_mul (by omega) (by omega)
  have e3 : (v : Int) * (a0.length : Int) = ((v * a0.length : Nat) : Int) := by omega
  rw [lett_def, e1, e2, e3, w64_of (by omega) (by omega)]
  split
  · exact hT
  rename_i h2
  have h2' : v * a0.length ≤ a1.length := by simp only [decide_eq_true_eq] at h2; omega
  by_cases h5 : (400 : Int) < (a1.length : Int)
  · rw [decide_eq_true h5]; exact hT
  have k1 := split_ok a0 a1 (v + 1) (u + 1) (by omega) (by omega) (by omega) (by omega) (by rw [Nat.add_sub_cancel]; exact h2')
  rw [decide_eq_false h5, passkeylaw37SharingRestoresJ1, if_neg (by simp), e1, hn, k1, Option.bind_some, if_neg (by simp), show (shares a0 a1 (v + 1) (u + 1)).length = u + 1 by simp [shares], passkeylaw37SharingRestoresJ2, if_neg (by simp)]
  exact res_L11 hn (by omega) (by omega) (by omega) (by omega) a4 v e1 30 0 FUEL [] _ (by omega) (by simp only [FUEL]; omega) (by simp) (by simp) (by simp) rfl (by
    intro j hj
    match j, hj with
    | 0, _ | 1, _ | 2, _ | 3, _ | 4, _ | 5, _ | 6, _ | 7, _ | 8, _ | 9, _ => simp)
end Go.Proofs.Ty
