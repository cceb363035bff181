/- The laws of the chapter seal. -/
import Derived.Test.YtkcbojjoellloaaPOpen
import Derived.Test.YtkcbojjoellloaaPMath
set_option linter.unusedSimpArgs false
set_option linter.unusedVariables false
namespace Go.Proofs.Ty
open Go Go.RW
theorem awake_eq : passkeylaw6awake = some true := by kernel_rfl
theorem take_take_len {S : List (BitVec 8)} (hS : S.length = 1024) {a b : Nat} (ha : a ≤ 1024) (hb : b ≤ 1024) (h : b ≤ a) : (S.take a).take b = S.take b := by
  rw [List.take_take, Nat.min_eq_left h]
theorem sealStreams_holds (k n : BitVec 64) (z : Int) (m : BitVec 8) (hz : -9223372036854775808 ≤ z ∧ z ≤ 9223372036854775807) : passkeylaw6SealStreams k n z m = some true := by
  have hS := sall_length k n
  have ha := clip_le z
  have hb := clip_le (m.toNat : Int)
  have la : ((sall k n).take (clip z)).length = clip z := by rw [List.length_take, hS]; omega
  have lb : ((sall k n).take (clip (m.toNat : Int))).length = clip (m.toNat : Int) := by rw [List.length_take, hS]; omega
  rw [passkeylaw6SealStreams, stream_eq, Option.bind_some, stream_eq, Option.bind_some, refStream_eq, Option.bind_some, if_pos (beq_self_eq_true _), refStream_eq, Option.bind_some, if_pos (beq_self_eq_true _), la, lb]
  by_cases h : clip z < clip (m.toNat : Int)
  · rw [if_pos (by rw [decide_eq_true_eq]; omega), awake_eq]; rfl
  · rw [if_neg (by rw [decide_eq_true_eq]; omega), asq_pos (by omega), dropTake_zero, Int.toNat_natCast, take_take_len hS ha hb (by omega), if_pos (beq_self_eq_true _), awake_eq]; rfl
theorem short_loop (l : List (List (BitVec 8))) (hl : l.length ≤ 1000) : ∀ (m f i : Nat), i + m = l.length → m < f → passkeylaw6shortL2 l f (i : Int) = some ((l.drop i).all fun x => decide (x.length ≤ 300))
  | m, f, i, hm, hf => by
    obtain ⟨f, rfl⟩ : ∃ g, f = g + 1 := ⟨f - 1, by omega⟩
    rw [passkeylaw6shortL2]
    cases m with
    | zero => rw [if_neg (by rw [decide_eq_true_eq]; omega), passkeylaw6shortJ1, List.drop_of_length_le (by omega)]; rfl
    | succ m =>
      have e : l.getD i [] = l[i]'(by omega) := by rw [List.getD_eq_getElem?_getD, List.getElem?_eq_getElem (by omega)]; rfl
      rw [if_pos (by rw [decide_eq_true_eq]; omega), asq_pos (by omega), Int.toNat_natCast, e, List.drop_eq_getElem_cons (i := i) (by omega), List.all_cons]
      by_cases h : (l[i]'(by omega)).length ≤ 300
      · rw [if_neg (by rw [decide_eq_true_eq]; omega), w64_of (by omega) (by omega), decide_eq_true h, Bool.true_and]
        exact short_loop l hl m f (i + 1) (by omega) (by omega)
      · rw [if_pos (by rw [decide_eq_true_eq]; omega), decide_eq_false h, Bool.false_and]
theorem short_eq (l : List (List (BitVec 8))) (hl : l.length ≤ 1000) : passkeylaw6short l = some (l.all fun x => decide (x.length ≤ 300)) := by
  rw [passkeylaw6short]
  exact short_loop l hl l.length FUEL 0 (by omega) (by simp only [FUEL]; omega)
theorem short2 (a b : List (BitVec 8)) : passkeylaw6short [a, b] = some (decide (a.length ≤ 300) && decide (b.length ≤ 300)) := by
  rw [short_eq _ (Nat.le_of_ble_eq_true rfl)]; simp
theorem short3 (a b c : List (BitVec 8)) : passkeylaw6short [a, b, c] = some (decide (a.length ≤ 300) && (decide (b.length ≤ 300) && decide (c.length ≤ 300))) := by
  rw [short_eq _ (Nat.le_of_ble_eq_true rfl)]; simp
theorem sealCloses_holds (k n : BitVec 64) (bound text : List (BitVec 8)) (h1 : bound.length ≤ 140737488351232) (h2 : text.length ≤ 140737488351232) : passkeylaw6SealCloses k n bound text = some true := by
  rw [passkeylaw6SealCloses, short2, Option.bind_some]
  split
  · rw [awake_eq]; rfl
  · rw [seal_eq, Option.bind_some, refSeal_eq, Option.bind_some, if_pos (beq_self_eq_true _), if_pos (beq_self_eq_true _), awake_eq]; rfl
theorem sealS_in (k n : BitVec 64) (bound text : List (BitVec 8)) (h1 : bound.length ≤ 300) (h2 : text.length ≤ 300) : sealS k n bound text = (sbox k n bound text, 0) := by
  rw [sealS, if_neg (by omega)]
theorem sealBack_holds (k n : BitVec 64) (bound text : List (BitVec 8)) (h1 : bound.length ≤ 140737488351232) (h2 : text.length ≤ 140737488351232) : passkeylaw6SealBack k n bound text = some true := by
  rw [passkeylaw6SealBack, short2, Option.bind_some]
  split
  · rw [awake_eq]; rfl
  · rename_i h
    simp only [Bool.not_eq_true', Bool.not_eq_false, Bool.and_eq_true, decide_eq_true_eq] at h
    obtain ⟨hb, ht⟩ := h
    rw [seal_eq, sealS_in _ _ _ _ hb ht, Option.bind_some]
    simp only
    rw [open_eq, open_box _ _ _ _ (by omega) (by omega), Option.bind_some, if_pos (beq_self_eq_true _), if_pos (beq_self_eq_true _), sbox_length _ _ _ _ (by omega), w64_of (by omega) (by omega), if_pos (by rw [beq_iff_eq]; omega), if_pos (beq_self_eq_true _), awake_eq]; rfl
theorem opens_eq (k : BitVec 64) (bound box : List (BitVec 8)) : passkeylaw6opens k bound box = some true := by
  rw [passkeylaw6opens, open_eq, Option.bind_some, refOpen_eq, Option.bind_some, if_pos (beq_self_eq_true _), beq_self_eq_true]
theorem sealOpens_holds (k : BitVec 64) (bound box : List (BitVec 8)) (n : BitVec 64) (text : List (BitVec 8)) (at_ : Int) (by_ : BitVec 8) (h1 : bound.length ≤ 140737488351232) (h2 : box.length ≤ 140737488351232) (h3 : text.length ≤ 140737488351232) (h4 : -9223372036854775808 ≤ at_ ∧ at_ ≤ 9223372036854775807) : passkeylaw6SealOpens k bound box n text at_ by_ = some true := by
  rw [passkeylaw6SealOpens, short3, Option.bind_some]
  split
  · rw [awake_eq]; rfl
  · rename_i h
    simp only [Bool.not_eq_true', Bool.not_eq_false, Bool.and_eq_true, decide_eq_true_eq] at h
    obtain ⟨hb, hx, ht⟩ := h
    have hl := sbox_length k n bound text (by omega)
    have hr := iand_range at_ 65535 (by omega) (by omega)
    have hm := tmod_range (ibits .and .i64 at_ 65535) ((sbox k n bound text).length : Int) hr.1 (by omega)
    rw [refSeal_eq, sealS_in _ _ _ _ hb ht, Option.bind_some]
    simp only
    rw [asq_pos (by omega), asq_pos (by omega), lett_def, asq_pos hm, asq_pos hm, opens_eq, Option.bind_some, if_pos rfl, opens_eq, Option.bind_some, if_pos rfl, asq_pos (by omega), lett_def, asq_pos ⟨hm.1, by omega⟩, opens_eq, Option.bind_some, if_pos rfl, opens_eq, Option.bind_some, if_pos rfl,
      asq_pos (by simp only [List.length_append, List.length_cons, List.length_nil]; omega), opens_eq, Option.bind_some, if_pos rfl, awake_eq]; rfl
theorem only_step (k : BitVec 64) (bound box : List (BitVec 8)) (y : List (BitVec 8) × Int) (f : Nat) (i : Nat) (hi : i < 2) (x : List (BitVec 8)) (hx : ([box, y.1] : List (List (BitVec 8))).getD (0 + i) [] = x) : passkeylaw6SealOnlyL2 k bound box y (f + 1) (i : Int) = passkeylaw6SealOnlyL2 k bound box y f ((i + 1 : Nat) : Int) := by
  have e : w64 ((i : Int) + 1) = ((i + 1 : Nat) : Int) := by rw [w64_of (by omega) (by omega)]; omega
  rw [passkeylaw6SealOnlyL2, if_pos (by rw [decide_eq_true_eq]; omega), asq_pos (by simp only [List.length_cons, List.length_nil]; omega), Int.toNat_natCast, hx, open_eq, Option.bind_some]
  by_cases h : (openS k bound x).2 = 0
  · have h' : openS k bound x = ((openS k bound x).1, 0) := by rw [← h]
    obtain ⟨g1, g2⟩ := open_only k bound x _ h'
    rw [if_neg (by rw [h]; simp), if_neg (by rw [decide_eq_true_eq]; omega), asq_pos (by omega), lett_def, dropTake_zero, refWord_eq _ (by rw [List.length_take]; have : (8 : Int).toNat = 8 := rfl; omega), Option.bind_some, seal_eq, show (8 : Int).toNat = 8 from rfl, g2, Option.bind_some]
    simp only
    rw [if_neg (by simp), passkeylaw6SealOnlyJ4, if_neg (by simp), passkeylaw6SealOnlyJ3, e]
  · rw [if_pos (by rw [bne_iff_ne]; exact h), passkeylaw6SealOnlyJ3, e]
theorem sealOnly_holds (k : BitVec 64) (bound box : List (BitVec 8)) (n : Int) (nonce : BitVec 64) (h1 : bound.length ≤ 140737488351232) (h2 : box.length ≤ 140737488351232) (hn : -9223372036854775808 ≤ n ∧ n ≤ 9223372036854775807) : passkeylaw6SealOnly k bound box n nonce = some true := by
  rw [passkeylaw6SealOnly, short2, Option.bind_some]
  split
  · rw [awake_eq]; rfl
  · rw [refSeal_eq, Option.bind_some]
    have e : FUEL = 18446744073709551613 + 1 + 1 + 1 := rfl
    rw [e]
    have s0 := only_step k bound box (sealS k nonce bound box) (18446744073709551613 + 1 + 1) 0 (by omega) _ rfl
    have s1 := only_step k bound box (sealS k nonce bound box) (18446744073709551613 + 1) 1 (by omega) _ rfl
    refine (s0.trans s1).trans ?_
    rw [passkeylaw6SealOnlyL2, if_neg (by rw [decide_eq_true_eq]; omega), passkeylaw6SealOnlyJ1, awake_eq]; rfl
theorem limitsJ (a0 : BitVec 8) (K : Nat) (hK : w64 (1022 + ((a0 % 5#8).toNat : Int)) = (K : Int)) (h1 : K ≤ 2000) (v w : Int) (hv : (v = 8 ∧ w = 8 ∧ 1024 < K) ∨ (v = 0 ∧ w = 14 ∧ K ≤ 1024)) :
    passkeylaw6SealLimitsJ1 a0 (sealS 3#64 4#64 (List.replicate K 0#8) (List.replicate 5 0#8)) (sealS 3#64 4#64 (List.replicate 5 0#8) (List.replicate K 0#8)) (openS 3#64 [] (List.replicate (K + 16) 0#8)) (openS 3#64 (List.replicate K 0#8) (List.replicate 20 0#8)) v w = some true := by
  have hK16 : w64 ((K : Int) + 16) = ((K + 16 : Nat) : Int) := by rw [w64_of (by omega) (by omega)]; omega
  rw [passkeylaw6SealLimitsJ1, hK, hK16, lett_def, asq_pos (by omega), Int.toNat_natCast, refOpen_eq, Option.bind_some, asq_pos (by omega), asq_pos (by omega), Int.toNat_natCast, show (20 : Int).toNat = 20 from rfl, refOpen_eq, Option.bind_some]
  rcases hv with ⟨rfl, rfl, h⟩ | ⟨rfl, rfl, h⟩
  · have s1 : (sealS 3#64 4#64 (List.replicate K 0#8) (List.replicate 5 0#8)) = ([], 8) := by rw [sealS, if_pos (by simp only [List.length_replicate]; omega)]
    have s2 : (sealS 3#64 4#64 (List.replicate 5 0#8) (List.replicate K 0#8)) = ([], 8) := by rw [sealS, if_pos (by simp only [List.length_replicate]; omega)]
    have o1 : openS 3#64 [] (List.replicate (K + 16) 0#8) = ([], 8) := by rw [openS, if_neg (by simp only [List.length_replicate]; omega), if_pos (by simp only [List.length_replicate]; omega)]
    have o2 : openS 3#64 (List.replicate K 0#8) (List.replicate 20 0#8) = ([], 8) := by rw [openS, if_neg (by simp only [List.length_replicate]; omega), if_pos (by simp only [List.length_replicate]; omega)]
    rw [s1, s2, o1, o2]
    simp only [awake_eq]; rfl
  · have s1 : (sealS 3#64 4#64 (List.replicate K 0#8) (List.replicate 5 0#8)) = (sbox 3#64 4#64 (List.replicate K 0#8) (List.replicate 5 0#8), 0) := by rw [sealS, if_neg (by simp only [List.length_replicate]; omega)]
    have s2 : (sealS 3#64 4#64 (List.replicate 5 0#8) (List.replicate K 0#8)) = (sbox 3#64 4#64 (List.replicate 5 0#8) (List.replicate K 0#8), 0) := by rw [sealS, if_neg (by simp only [List.length_replicate]; omega)]
    have l1 : (sbox 3#64 4#64 (List.replicate K 0#8) (List.replicate 5 0#8)).length = 21 := by rw [sbox_length _ _ _ _ (by simp only [List.length_replicate]; omega), List.length_replicate]
    have l2 : (sbox 3#64 4#64 (List.replicate 5 0#8) (List.replicate K 0#8)).length = K + 16 := by rw [sbox_length _ _ _ _ (by simp only [List.length_replicate]; omega), List.length_replicate]
    rw [s1, s2]
    simp only
    rw [if_pos (beq_self_eq_true _), if_pos (beq_self_eq_true _), if_pos (beq_self_eq_true _), if_pos (beq_self_eq_true _), if_pos (beq_self_eq_true _), if_neg (by decide), l1, if_pos (by decide), lett_def, l2, if_pos (beq_self_eq_true _), awake_eq]; rfl
theorem sealLimits_holds (a0 : BitVec 8) : passkeylaw6SealLimits a0 = some true := by
  have h5 : (a0 % 5#8).toNat < 5 := by rw [BitVec.toNat_umod]; exact Nat.mod_lt _ (by decide)
  obtain ⟨K, hKd⟩ : ∃ K, K = 1022 + (a0 % 5#8).toNat := ⟨_, rfl⟩
  have hK : w64 (1022 + ((a0 % 5#8).toNat : Int)) = (K : Int) := by rw [w64_of (by omega) (by omega)]; omega
  have hK16 : w64 ((K : Int) + 16) = ((K + 16 : Nat) : Int) := by rw [w64_of (by omega) (by omega)]; omega
  have h20 : (20 : Int).toNat = 20 := rfl
  have h5' : (5 : Int).toNat = 5 := rfl
  rw [passkeylaw6SealLimits, hK, asq_pos (by omega), asq_pos (by omega), seal_eq, Option.bind_some, asq_pos (by omega), asq_pos (by omega), seal_eq, Option.bind_some, hK16, lett_def, asq_pos (by omega), open_eq, Option.bind_some, asq_pos (by omega), asq_pos (by omega), open_eq, Option.bind_some, Int.toNat_natCast, Int.toNat_natCast, h20, h5']
  by_cases h : 1024 < K
  · rw [if_pos (by rw [decide_eq_true_eq]; omega)]
    exact limitsJ a0 K hK (by omega) _ _ (Or.inl ⟨rfl, rfl, h⟩)
  · rw [if_neg (by rw [decide_eq_true_eq]; omega)]
    exact limitsJ a0 K hK (by omega) _ _ (Or.inr ⟨rfl, rfl, by omega⟩)
end Go.Proofs.Ty
