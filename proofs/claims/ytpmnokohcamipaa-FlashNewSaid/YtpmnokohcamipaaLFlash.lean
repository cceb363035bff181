/- The plain laws of the flash. -/
import Derived.Test.YtpmnokohcamipaaPFlash
set_option linter.unusedSimpArgs false
set_option linter.unusedVariables false
namespace Go.Proofs.Ty
open Go Go.RW
/-! ### new flashes -/
theorem newOwn_loop (ps pages n : Nat) (hn : n = ps * pages) (hl : n ≤ 70000) (hps : (w64 ((ps : Int) * pages)) = (n : Int)) : ∀ (m i k : Nat), i + m = n → m < k →
    passkeyref7NewFlashOwnL3 ps pages k (List.replicate i 255#8) i = some (⟨ps, List.replicate n 255#8⟩, 0)
  | 0, i, k + 1, h, _ => by
    rw [passkeyref7NewFlashOwnL3, hps, if_neg (by simp; omega), passkeyref7NewFlashOwnJ2]
    rw [show i = n by omega]
  | m + 1, i, k + 1, h, hk => by
    have e2 : w64 ((i : Int) + 1) = ((i + 1 : Nat) : Int) := by rw [w64_of (by omega) (by omega)]; omega
    rw [passkeyref7NewFlashOwnL3, hps, if_pos (by simp; omega), asq_pos (by simp; omega), e2, ← List.replicate_succ', newOwn_loop ps pages n hn hl hps m (i + 1) k (by omega) (by omega)]
theorem new_loop (ps pages n : Nat) (hn : n = ps * pages) (hl : n ≤ 70000) (hps : (w64 ((ps : Int) * pages)) = (n : Int)) : ∀ (m i k : Nat), i + m = n → m < k →
    passkeyref7NewFlashL3 ps pages k (List.replicate i 255#8) i = some (⟨ps, List.replicate n 255#8⟩, 0)
  | 0, i, k + 1, h, _ => by
    rw [passkeyref7NewFlashL3, hps, if_neg (by simp; omega), passkeyref7NewFlashJ2]
    rw [show i = n by omega]
  | m + 1, i, k + 1, h, hk => by
    have e2 : w64 ((i : Int) + 1) = ((i + 1 : Nat) : Int) := by rw [w64_of (by omega) (by omega)]; omega
    rw [passkeyref7NewFlashL3, hps, if_pos (by simp; omega), asq_pos (by simp; omega), e2, ← List.replicate_succ', new_loop ps pages n hn hl hps m (i + 1) k (by omega) (by omega)]
theorem fill_loop (ps pages n : Nat) (hn : n = ps * pages) (hl : n ≤ 70000) (hps : (w64 ((ps : Int) * pages)) = (n : Int)) : ∀ (m i k : Nat), i + m = n → m < k →
    flashNewL3 ps pages k (List.replicate i 255#8 ++ List.replicate m 0#8) i = some (⟨ps, List.replicate n 255#8⟩, 0)
  | 0, i, k + 1, h, _ => by
    rw [flashNewL3, hps, if_neg (by simp; omega), flashNewJ2]
    rw [show i = n by omega]; simp
  | m + 1, i, k + 1, h, hk => by
    have e2 : w64 ((i : Int) + 1) = ((i + 1 : Nat) : Int) := by rw [w64_of (by omega) (by omega)]; omega
    have e3 : (List.replicate i 255#8 ++ List.replicate (m + 1) 0#8).set (0 + (i : Int).toNat) 255#8 = List.replicate (i + 1) 255#8 ++ List.replicate m 0#8 := by
      rw [Int.toNat_natCast, Nat.zero_add, List.set_append_right _ _ (by simp), List.length_replicate, Nat.sub_self, List.replicate_succ, List.set_cons_zero, List.replicate_succ' (n := i), List.append_assoc]; rfl
    rw [flashNewL3, hps, if_pos (by simp; omega), asq_pos (by simp; omega), e2, e3, fill_loop ps pages n hn hl hps m (i + 1) k (by omega) (by omega)]
def newOut (ps pages : Int) : TApiFlash × Int := if (512 ≤ ps ∧ ps ≤ 8192) ∧ 1 ≤ pages ∧ pages ≤ 8 then (⟨ps, List.replicate (ps * pages).toNat 255#8⟩, 0) else (⟨0, []⟩, 9)
theorem new_sizes {ps pages : Int} (h : (512 ≤ ps ∧ ps ≤ 8192) ∧ 1 ≤ pages ∧ pages ≤ 8) : ∃ p q : Nat, ps = p ∧ pages = q ∧ (p : Int) * q = ((p * q : Nat) : Int) ∧ p * q ≤ 70000 ∧ w64 ((p : Int) * q) = ((p * q : Nat) : Int) := by
  obtain ⟨p, rfl⟩ := Int.eq_ofNat_of_zero_le (show 0 ≤ ps by omega)
  obtain ⟨q, rfl⟩ := Int.eq_ofNat_of_zero_le (show 0 ≤ pages by omega)
  have h1 : p * q ≤ 8192 * 8 := Nat.mul_le_mul (by omega) (by omega)
  have h2 : (p : Int) * q = ((p * q : Nat) : Int) := by omega
  refine ⟨p, q, rfl, rfl, h2, by omega, ?_⟩
  rw [h2, w64_of (by omega) (by omega)]
theorem new_eq (ps pages : Int) : flashNew ps pages = some (newOut ps pages) := by
  rw [flashNew, sized_eq, Option.bind_some]
  by_cases h : (512 ≤ ps ∧ ps ≤ 8192) ∧ 1 ≤ pages ∧ pages ≤ 8
  · obtain ⟨p, q, rfl, rfl, h2, h3, h4⟩ := new_sizes h
    rw [newOut, if_pos h, decide_eq_true h.1]
    rw [if_neg (by simp), if_neg (by simp; omega), flashNewJ1, if_neg (by simp; omega), h4, asq_pos (by omega)]
    have := fill_loop p q (p * q) rfl h3 h4 (p * q) 0 FUEL (by omega) (by simp only [FUEL]; omega)
    rw [h2, Int.toNat_natCast]
    exact this
  · rw [newOut, if_neg h]
    by_cases h1 : 512 ≤ ps ∧ ps ≤ 8192
    · rw [decide_eq_true h1, if_neg (by simp)]
      by_cases h2 : pages < 1
      · rw [if_pos (by simpa using h2)]; rfl
      · rw [if_neg (by simpa using h2), flashNewJ1, if_pos (by simp; omega)]
    · rw [decide_eq_false h1, if_pos (by simp)]; rfl
theorem ref_new_eq (ps pages : Int) : passkeyref7NewFlash ps pages = some (newOut ps pages) := by
  rw [passkeyref7NewFlash]
  by_cases h : (512 ≤ ps ∧ ps ≤ 8192) ∧ 1 ≤ pages ∧ pages ≤ 8
  · obtain ⟨p, q, rfl, rfl, h2, h3, h4⟩ := new_sizes h
    rw [newOut, if_pos h, if_neg (by simp; omega), if_neg (by simp; omega), if_neg (by simp; omega), passkeyref7NewFlashJ1, if_neg (by simp; omega)]
    have := new_loop p q (p * q) rfl h3 h4 (p * q) 0 FUEL (by omega) (by simp only [FUEL]; omega)
    rw [h2, Int.toNat_natCast]
    exact this
  · rw [newOut, if_neg h]
    by_cases h1 : ps < 512
    · rw [if_pos (by simpa using h1)]; rfl
    rw [if_neg (by simpa using h1)]
    by_cases h2 : 8192 < ps
    · rw [if_pos (by simpa using h2)]; rfl
    rw [if_neg (by simpa using h2)]
    by_cases h3 : pages < 1
    · rw [if_pos (by simpa using h3)]; rfl
    rw [if_neg (by simpa using h3), passkeyref7NewFlashJ1, if_pos (by simp; omega)]
theorem newOwn_eq (ps pages : Int) (h : (512 ≤ ps ∧ ps ≤ 8192) ∧ 1 ≤ pages ∧ pages ≤ 8) : passkeyref7NewFlashOwn ps pages = some (newOut ps pages) := by
  obtain ⟨p, q, rfl, rfl, h2, h3, h4⟩ := new_sizes h
  rw [passkeyref7NewFlashOwn, newOut, if_pos h, if_neg (by simp; omega), if_neg (by simp; omega), if_neg (by simp; omega), passkeyref7NewFlashOwnJ1, if_neg (by simp; omega)]
  have := newOwn_loop p q (p * q) rfl h3 h4 (p * q) 0 FUEL (by omega) (by simp only [FUEL]; omega)
  rw [h2, Int.toNat_natCast]
  exact this
theorem flash_awake : passkeylaw7awake = some true := by
  have i1 : FOk (newOut 512 2).1 := of_decide_eq_true (by kernel_rfl)
  have i2 : FOk (progOut (newOut 512 2).1 1 3 [15#8] (-1)).1 := of_decide_eq_true (by kernel_rfl)
  have i3 : FOk (progOut (progOut (newOut 512 2).1 1 3 [15#8] (-1)).1 1 3 [240#8] (-1)).1 := of_decide_eq_true (by kernel_rfl)
  rw [passkeylaw7awake, new_eq, Option.bind_some, show TApiFlash.mk (newOut 512 2).1.PageSize (newOut 512 2).1.Bytes = (newOut 512 2).1 from rfl, program_eq _ i1 1 3 [15#8] (-1) (by omega) (by omega) (by simp) (by omega), Option.bind_some,
    show ∀ f : TApiFlash, TApiFlash.mk f.PageSize f.Bytes = f from fun _ => rfl, program_eq _ i2 1 3 [240#8] (-1) (by omega) (by omega) (by simp) (by omega), Option.bind_some,
    show ∀ f : TApiFlash, TApiFlash.mk f.PageSize f.Bytes = f from fun _ => rfl, read_eq _ i3 1 3 1 (by omega) (by omega) (by omega), Option.bind_some]
  refine Eq.trans ?_ (Eq.refl (some true))
  kernel_rfl
/-! ### what the laws try -/
theorem made_loop (l : List Int) (y : TApiFlash × Int) (hl : l.length ≤ 140737488351232) : ∀ (m i k : Nat) (bs : List (BitVec 8)), l.length ≤ i + m → i ≤ l.length → m < k → bs.length ≠ 0 → bs.length ≤ 140737488351232 → ∃ bs' : List (BitVec 8), bs'.length = bs.length ∧ passkeylaw7madeL2 l y k bs i = some ⟨y.1.PageSize, bs'⟩
  | m, i, k + 1, bs, h, hi, hk, h0, hb => by
    have e2 : w64 ((i : Int) + 1) = ((i + 1 : Nat) : Int) := by rw [w64_of (by omega) (by omega)]; omega
    rw [passkeylaw7madeL2]
    by_cases h1 : i < l.length
    · rw [if_pos (by simpa using h1), passkeylaw7madeJ3]
      by_cases h2 : (i : Int) < 12
      · obtain ⟨r1, r2⟩ := iand_range (l.getD (i : Int).toNat 0) 65535 (by omega) (by omega)
        obtain ⟨r3, r4⟩ := tmod_range _ (bs.length : Int) r1 (by omega)
        rw [if_pos (by simpa using h2), asq_pos (by omega), lett_def, asq_pos (by omega), asq_pos ⟨r3, r4⟩, asq_pos (by omega), lett_def, lett_def, asq_pos ⟨r3, r4⟩, e2]
        cases m with
        | zero => omega
        | succ m =>
          obtain ⟨bs', q1, q2⟩ := made_loop l y hl m (i + 1) k (bs.set (0 + ((ibits .and .i64 (l.getD (i : Int).toNat 0) 65535).tmod (bs.length : Int)).toNat) ((bs.getD (0 + ((ibits .and .i64 (l.getD (i : Int).toNat 0) 65535).tmod (bs.length : Int)).toNat) 0#8) &&& BitVec.ofInt 8 (ishr .i64 (l.getD (i : Int).toNat 0) 8))) (by omega) (by omega) (by omega) (by simpa using h0) (by simpa using hb)
          exact ⟨bs', by simpa using q1, q2⟩
      · rw [if_neg (by simpa using h2)]
        exact ⟨bs, rfl, rfl⟩
    · rw [if_neg (by simpa using h1), passkeylaw7madeJ3, if_neg (by simp)]
      exact ⟨bs, rfl, rfl⟩
theorem pick3 (r : Int) (h0 : 0 ≤ r) (h : r < 3) : ([(512 : Int), 513, 600] : List Int).getD (0 + r.toNat) 0 = 512 ∨ ([(512 : Int), 513, 600] : List Int).getD (0 + r.toNat) 0 = 513 ∨ ([(512 : Int), 513, 600] : List Int).getD (0 + r.toNat) 0 = 600 := by
  have : r = 0 ∨ r = 1 ∨ r = 2 := by omega
  rcases this with rfl | rfl | rfl <;> simp
theorem made_ok (n : Int) (l : List Int) (hl : l.length * 8 ≤ 140737488351232) : ∃ f, passkeylaw7made n l = some f ∧ f.Bytes.length ≤ 70000 ∧ validE f = 0 := by
  obtain ⟨r1, r2⟩ := iand_range n 65535 (by omega) (by omega)
  obtain ⟨r3, r4⟩ := tmod_range _ 3 r1 (by omega)
  obtain ⟨s1, s2⟩ := iand_range (ishr .i64 n 2) 3 (by omega) (by omega)
  rw [passkeylaw7made, asq_pos ⟨r3, by simpa using r4⟩, lett_def, w64_of (by omega) (by omega)]
  have hp := pick3 _ r3 r4
  generalize ([(512 : Int), 513, 600] : List Int).getD (0 + ((ibits .and .i64 n 65535).tmod 3).toNat) 0 = ps at hp ⊢
  generalize hq : 1 + ibits .and .i64 (ishr .i64 n 2) 3 = pages at *
  have hc : (512 ≤ ps ∧ ps ≤ 8192) ∧ 1 ≤ pages ∧ pages ≤ 8 := by omega
  rw [newOwn_eq ps pages hc, Option.bind_some]
  obtain ⟨p, q, rfl, rfl, h2, h3, h4⟩ := new_sizes hc
  have e : newOut p q = (⟨p, List.replicate (p * q) 255#8⟩, 0) := by rw [newOut, if_pos hc, h2, Int.toNat_natCast]
  rw [e]
  have hpos : p * q ≠ 0 := Nat.mul_ne_zero (by omega) (by omega)
  obtain ⟨bs', b1, b2⟩ := made_loop l (⟨p, List.replicate (p * q) 255#8⟩, 0) (by omega) l.length 0 FUEL (List.replicate (p * q) 255#8) (by omega) (by omega) (by simp only [FUEL]; omega) (by simpa using hpos) (by simp; omega)
  refine ⟨_, b2, by simpa [b1] using h3, ?_⟩
  have hb : bs'.length = p * q := by simpa using b1
  rw [validE, if_pos (by simpa using hc.1)]
  simp only [hb]
  have hm : ((p * q : Nat) : Int) % (p : Int) = 0 := by rw [← h2]; exact Int.mul_emod_right _ _
  have hge : (p : Int) ≤ ((p * q : Nat) : Int) := by
    have := Nat.mul_le_mul_left p (show 1 ≤ q by omega)
    omega
  have hle : ((p * q : Nat) : Int) ≤ 8 * (p : Int) := by
    have := Nat.mul_le_mul_left p (show q ≤ 8 by omega)
    omega
  rw [if_neg (by rw [hm]; omega)]
theorem pick5 (r : Int) (l : List Int) (h0 : 0 ≤ r) (h : r < l.length) : (0 : Int) ≤ r ∧ r < ((l.length : Nat) : Int) := ⟨h0, h⟩
theorem spoil_ok (f : TApiFlash) (n : Int) (hf : f.Bytes.length ≤ 70000) (h0 : f.Bytes.length ≠ 0) : ∃ g, passkeylaw7spoil f n = some g ∧ g.Bytes.length ≤ 70000 := by
  rw [passkeylaw7spoil]
  split
  · obtain ⟨r1, r2⟩ := iand_range (ishr .i64 n 4) 255 (by omega) (by omega)
    obtain ⟨r3, r4⟩ := tmod_range _ 5 r1 (by omega)
    rw [lett_def, asq_pos ⟨r3, by simpa using r4⟩]
    exact ⟨_, rfl, hf⟩
  · split
    · rw [w64_of (by omega) (by omega), asq_pos (by omega), lett_def]
      exact ⟨_, rfl, by rw [dropTake_length _ _ _ (by omega) (by omega)]; omega⟩
    · split
      · exact ⟨_, rfl, by simp⟩
      · exact ⟨_, rfl, hf⟩
theorem valid_ne {f : TApiFlash} (h : validE f = 0) : f.Bytes.length ≠ 0 := by
  obtain ⟨v1, v2, v3, v4⟩ := validE_zero h
  omega
theorem band (x m : Int) (h0 : 0 ≤ m) (h : m ≤ 65535) : I64 (ibits .and .i64 x m) ∧ I64 (w64 (ibits .and .i64 x m - 1)) ∧ I64 (w64 (ibits .and .i64 x m - 5)) ∧ I64 (w64 (ibits .and .i64 x m - 20)) := by
  obtain ⟨r1, r2⟩ := iand_range x m h0 (by omega)
  rw [w64_of (by omega) (by omega), w64_of (by omega) (by omega), w64_of (by omega) (by omega)]
  omega
theorem reads_holds (n : Int) (l : List Int) (page at' k s : Int) (_ : I64 n) (hl : l.length * 8 ≤ 140737488351232) (hp : I64 page) (ha : I64 at') (hk : I64 k) (_ : I64 s) : passkeylaw7FlashReads n l page at' k s = some true := by
  obtain ⟨f, m1, m2, m3⟩ := made_ok n l hl
  obtain ⟨g, s1, s2⟩ := spoil_ok f s m2 (valid_ne m3)
  have hg : FOk g := by unfold FOk; omega
  rw [passkeylaw7FlashReads, m1, Option.bind_some, s1, Option.bind_some, show TApiFlash.mk g.PageSize g.Bytes = g from rfl,
    read_eq g hg _ _ _ (band page 7 (by omega) (by omega)).2.1 (band at' 1023 (by omega) (by omega)).2.2.1 (band k 1023 (by omega) (by omega)).2.2.1, Option.bind_some,
    ref_read_eq g hg _ _ _ (band page 7 (by omega) (by omega)).2.1 (band at' 1023 (by omega) (by omega)).2.2.1 (band k 1023 (by omega) (by omega)).2.2.1, Option.bind_some,
    read_eq g hg page at' k hp ha hk, Option.bind_some, ref_read_eq g hg page at' k hp ha hk, Option.bind_some, flash_awake]
  simp
theorem programs_eq (g : TApiFlash) (hg : FOk g) (page at' : Int) (b : List (BitVec 8)) (budget : Int) (hp : I64 page) (ha : I64 at') (hb : b.length ≤ 140737488351232) (hB : I64 budget) : passkeylaw7programs g page at' b budget = some true := by
  rw [passkeylaw7programs, show TApiFlash.mk g.PageSize g.Bytes = g from rfl, program_eq g hg page at' b budget hp ha hb hB, Option.bind_some, ref_program_eq g hg page at' b budget hp ha hb hB, Option.bind_some]
  rw [show TApiFlash.mk (progOut g page at' b budget).1.PageSize (progOut g page at' b budget).1.Bytes = (progOut g page at' b budget).1 from rfl, same_refl]
  simp
theorem programs_holds (n : Int) (l : List Int) (page at' : Int) (b : List (BitVec 8)) (budget s : Int) (_ : I64 n) (hl : l.length * 8 ≤ 140737488351232) (hp : I64 page) (ha : I64 at') (hb : b.length ≤ 140737488351232) (hB : I64 budget) (_ : I64 s) : passkeylaw7FlashPrograms n l page at' b budget s = some true := by
  rw [passkeylaw7FlashPrograms, flash_awake]
  split
  · rfl
  · obtain ⟨f, m1, m2, m3⟩ := made_ok n l hl
    obtain ⟨g, s1, s2⟩ := spoil_ok f s m2 (valid_ne m3)
    have hg : FOk g := by unfold FOk; omega
    rw [m1, Option.bind_some, s1, Option.bind_some, show TApiFlash.mk g.PageSize g.Bytes = g from rfl, programs_eq g hg _ _ b _ (band page 3 (by omega) (by omega)).1 (band at' 511 (by omega) (by omega)).1 hb (band budget 255 (by omega) (by omega)).2.2.2, Option.bind_some, if_pos rfl, programs_eq g hg page at' b budget hp ha hb hB]
    simp
theorem erases_eq (g : TApiFlash) (hg : FOk g) (page : Int) (budget : Int) (hp : I64 page) (hB : I64 budget) : passkeylaw7erases g page budget = some true := by
  rw [passkeylaw7erases, show TApiFlash.mk g.PageSize g.Bytes = g from rfl, erase_eq g hg page budget hp hB, Option.bind_some, ref_erase_all_eq g hg page budget hp hB, Option.bind_some]
  rw [show TApiFlash.mk (eraseOut g page budget).1.PageSize (eraseOut g page budget).1.Bytes = (eraseOut g page budget).1 from rfl, same_refl]
  simp
theorem erases_holds (n : Int) (l : List Int) (page budget s : Int) (_ : I64 n) (hl : l.length * 8 ≤ 140737488351232) (hp : I64 page) (hB : I64 budget) (_ : I64 s) : passkeylaw7FlashErases n l page budget s = some true := by
  obtain ⟨f, m1, m2, m3⟩ := made_ok n l hl
  obtain ⟨g, s1, s2⟩ := spoil_ok f s m2 (valid_ne m3)
  have hg : FOk g := by unfold FOk; omega
  rw [passkeylaw7FlashErases, m1, Option.bind_some, s1, Option.bind_some, show TApiFlash.mk g.PageSize g.Bytes = g from rfl, erases_eq g hg _ _ (band page 3 (by omega) (by omega)).1 (band budget 1023 (by omega) (by omega)).2.2.2, Option.bind_some, if_pos rfl, erases_eq g hg page budget hp hB, flash_awake]
  simp
/-- The first page's place, for small ranges. -/
theorem place0 (f : TApiFlash) (hv : validE f = 0) (a n : Nat) (ha : a + n ≤ 512) : placeE f 0 a n = 0 := by
  obtain ⟨v1, v2, v3, v4⟩ := validE_zero hv
  have h1 : 1 ≤ (f.Bytes.length : Int) / f.PageSize := (Int.le_ediv_iff_mul_le (by omega)).2 (by omega)
  rw [placeE, if_neg (by omega), if_neg (by omega)]
theorem parts_holds (n : Int) (l : List Int) (at' : BitVec 8) (b : List (BitVec 8)) (budget : BitVec 8) (_ : I64 n) (hl : l.length * 8 ≤ 140737488351232) (hb : b.length ≤ 140737488351232) : passkeylaw7FlashParts n l at' b budget = some true := by
  rw [passkeylaw7FlashParts, flash_awake]
  split
  · rfl
  · rename_i h200
    have hlen : b.length ≤ 200 := by simp at h200; omega
    have ha := at'.isLt
    have hbu := budget.isLt
    obtain ⟨f, m1, m2, m3⟩ := made_ok n l hl
    have hf : FOk f := by unfold FOk; omega
    obtain ⟨v1, v2, v3, v4⟩ := validE_zero m3
    rw [m1, Option.bind_some, lett_def, show TApiFlash.mk f.PageSize f.Bytes = f from rfl]
    obtain ⟨k, hk⟩ : ∃ k : Nat, (if (b.length : Int) < (budget.toNat : Int) then (b.length : Int) else (budget.toNat : Int)) = (k : Int) ∧ k ≤ b.length := by
      split
      · exact ⟨b.length, rfl, Nat.le_refl _⟩
      · exact ⟨budget.toNat, rfl, by omega⟩
    obtain ⟨hk, hkl⟩ := hk
    rw [hk, program_eq f hf 0 at'.toNat b (-1) (by omega) (by omega) hb (by omega), Option.bind_some, program_eq f hf 0 at'.toNat b k (by omega) (by omega) hb (by omega), Option.bind_some, asq_pos (by omega)]
    have p0 := place0 f m3 at'.toNat b.length (by omega)
    have d1 : doneOf b.length (-1) = b.length := by simp [doneOf]
    have d2 : doneOf b.length (k : Int) = k := by simp [doneOf]; omega
    have o1 : progOut f 0 at'.toNat b (-1) = (⟨f.PageSize, chg (pg b) at'.toNat b.length 0 f.Bytes⟩, -1, 0) := by
      rw [progOut, if_pos p0, leftOf, errOf, d1]; simp
    have o2 : progOut f 0 at'.toNat b k = (⟨f.PageSize, chg (pg b) at'.toNat k 0 f.Bytes⟩, 0, if k < b.length then 16 else 0) := by
      rw [progOut, if_pos p0, leftOf, errOf, d2]; simp
    rw [o1, o2]
    simp only
    have hl2 : (chg (pg b) at'.toNat k 0 f.Bytes).length = f.Bytes.length := chg_length _ _ _ _ _
    have hv2 : validE ⟨f.PageSize, chg (pg b) at'.toNat k 0 f.Bytes⟩ = 0 := by
      have := m3
      unfold validE at this ⊢
      simpa only [hl2] using this
    have e1 : dropTake (k : Int).toNat b.length b = b.drop k := by rw [Int.toNat_natCast, dropTake_end]
    have ea : w64 ((at'.toNat : Int) + k) = ((at'.toNat + k : Nat) : Int) := by rw [w64_of (by omega) (by omega)]; omega
    have hd : (b.drop k).length = b.length - k := by simp
    rw [e1, ea, program_eq _ (by unfold FOk; rw [hl2]; omega) 0 _ (b.drop k) (-1) (by omega) (by omega) (by omega) (by omega), Option.bind_some]
    have p1 := place0 _ hv2 (at'.toNat + k) (b.drop k).length (by omega)
    have o3 : progOut ⟨f.PageSize, chg (pg b) at'.toNat k 0 f.Bytes⟩ 0 ((at'.toNat + k : Nat) : Int) (b.drop k) (-1) = (⟨f.PageSize, chg (pg b) at'.toNat b.length 0 f.Bytes⟩, -1, 0) := by
      have d3 : doneOf (b.drop k).length (-1) = b.length - k := by simp [doneOf]
      rw [progOut, if_pos p1, leftOf, errOf, d3]
      have s1 : chg (pg b) at'.toNat b.length 0 f.Bytes = chg (pg b) at'.toNat (b.length - k) (0 + k) (chg (pg b) at'.toNat k 0 f.Bytes) := by
        rw [← chg_split, show k + (b.length - k) = b.length by omega]
      rw [s1, chg_shift]
      have s2 : (0 * f.PageSize + ((at'.toNat + k : Nat) : Int)).toNat = at'.toNat + k := by rw [Int.zero_mul, Int.zero_add, Int.toNat_natCast]
      simp only [s2]
      rw [chg_congr (pg (b.drop k)) (fun j x => pg b (j + k) x) _ _ _ _ fun j x _ _ => by simp [pg, List.getD_eq_getElem?_getD, List.getElem?_drop, Nat.add_comm]]
      simp
    rw [o3]
    have J : ∀ e : Int, e = (if k < b.length then 16 else 0) → passkeylaw7FlashPartsJ1 (⟨f.PageSize, chg (pg b) at'.toNat b.length 0 f.Bytes⟩, -1, 0) (⟨f.PageSize, chg (pg b) at'.toNat k 0 f.Bytes⟩, 0, if k < b.length then 16 else 0) (⟨f.PageSize, chg (pg b) at'.toNat b.length 0 f.Bytes⟩, -1, 0) e = some true := by
      intro e he
      rw [passkeylaw7FlashPartsJ1, he, flash_awake, same_refl]
      simp
    by_cases hkk : k = b.length
    · rw [if_pos (by simp [hkk])]; exact J 0 (by rw [if_neg (by omega)])
    · rw [if_neg (by simp; omega)]; exact J 16 (by rw [if_pos (by omega)])
theorem bits_loop (a : BitVec 8) (b : List (BitVec 8)) (f : TApiFlash) (y : TApiFlash × Int × Int) (hl : y.1.Bytes.length = f.Bytes.length) (hf : f.Bytes.length ≤ 70000) (hb : b.length ≤ 200) (d : Nat) (hd : d ≤ b.length) (hy : y.1.Bytes = chg (pg b) a.toNat d 0 f.Bytes) : ∀ (m i k : Nat), f.Bytes.length = i + m → m < k → passkeylaw7FlashBitsL3 a b f y k i = some true
  | 0, i, k + 1, h, _ => by
    rw [passkeylaw7FlashBitsL3, if_neg (by simp; omega), passkeylaw7FlashBitsJ2, flash_awake]; rfl
  | m + 1, i, k + 1, h, hk => by
    have ha := a.isLt
    have e2 : w64 ((i : Int) + 1) = ((i + 1 : Nat) : Int) := by rw [w64_of (by omega) (by omega)]; omega
    have ih := bits_loop a b f y hl hf hb d hd hy m (i + 1) k (by omega) (by omega)
    have hg : y.1.Bytes.getD i 0#8 = if a.toNat + 0 ≤ i ∧ i < a.toNat + 0 + d then pg b (i - a.toNat) (f.Bytes.getD i 0#8) else f.Bytes.getD i 0#8 := by
      rw [hy]; exact chg_get _ _ _ _ _ _ (by omega)
    have hz : (y.1.Bytes.getD i 0#8 &&& ~~~(f.Bytes.getD i 0#8)) = 0#8 := by
      rw [hg]
      split
      · rw [pg, BitVec.and_assoc, BitVec.and_comm (b.getD _ _), ← BitVec.and_assoc, BitVec.and_not_self]; simp
      · exact BitVec.and_not_self _
    have J4 : ∀ v : Bool, (v = false → ¬ (a.toNat ≤ i ∧ i < a.toNat + b.length)) → passkeylaw7FlashBitsJ4 (passkeylaw7FlashBitsL3 a b f y k) f y i v = some true := by
      intro v hv
      rw [passkeylaw7FlashBitsJ4, asq_pos (by omega), asq_pos (by omega), lett_def, Int.toNat_natCast, hz, if_neg (by simp)]
      cases v with
      | true => rw [if_neg (by simp), passkeylaw7FlashBitsJ5, if_neg (by simp), e2]; exact ih
      | false =>
        have hn := hv rfl
        rw [if_neg (by omega)] at hg
        rw [if_pos (by simp), asq_pos (by omega), asq_pos (by omega), hg, passkeylaw7FlashBitsJ5, if_neg (by simp), e2]; exact ih
    rw [passkeylaw7FlashBitsL3, if_pos (by simp; omega)]
    by_cases h1 : (a.toNat : Int) ≤ i
    · rw [if_pos (by simpa using h1), w64_of (by omega) (by omega)]
      exact J4 _ fun hv => by simp at hv; omega
    · rw [if_neg (by simpa using h1)]
      exact J4 _ fun _ => by omega
theorem bits_holds (n : Int) (l : List Int) (a : BitVec 8) (b : List (BitVec 8)) (budget : Int) (_ : I64 n) (hl : l.length * 8 ≤ 140737488351232) (hb : b.length ≤ 140737488351232) (hB : I64 budget) : passkeylaw7FlashBits n l a b budget = some true := by
  rw [passkeylaw7FlashBits, flash_awake]
  split
  · rfl
  · rename_i h200
    have hlen : b.length ≤ 200 := by simp at h200; omega
    have ha := a.isLt
    obtain ⟨f, m1, m2, m3⟩ := made_ok n l hl
    have hf : FOk f := by unfold FOk; omega
    rw [m1, Option.bind_some, show TApiFlash.mk f.PageSize f.Bytes = f from rfl, program_eq f hf 0 a.toNat b budget (by omega) (by omega) hb hB, Option.bind_some]
    have p0 := place0 f m3 a.toNat b.length (by omega)
    have o1 : progOut f 0 a.toNat b budget = (⟨f.PageSize, chg (pg b) a.toNat (doneOf b.length budget) 0 f.Bytes⟩, leftOf b.length budget, errOf b.length budget) := by
      rw [progOut, if_pos p0]; simp
    rw [o1]
    have hl2 : (chg (pg b) a.toNat (doneOf b.length budget) 0 f.Bytes).length = f.Bytes.length := chg_length _ _ _ _ _
    have L := bits_loop a b f (⟨f.PageSize, chg (pg b) a.toNat (doneOf b.length budget) 0 f.Bytes⟩, leftOf b.length budget, errOf b.length budget) hl2 m2 hlen (doneOf b.length budget) (done_le _ _) rfl f.Bytes.length 0 FUEL (by omega) (by simp only [FUEL]; omega)
    have J : passkeylaw7FlashBitsJ1 a b f (⟨f.PageSize, chg (pg b) a.toNat (doneOf b.length budget) 0 f.Bytes⟩, leftOf b.length budget, errOf b.length budget) false = some true := by
      rw [passkeylaw7FlashBitsJ1, if_neg (by simp)]; exact L
    have hne : ((((chg (pg b) a.toNat (doneOf b.length budget) 0 f.Bytes).length : Nat) : Int) != (f.Bytes.length : Int)) = false := by rw [hl2]; simp
    simp only [hne]
    have he : errOf b.length budget = 0 ∨ errOf b.length budget = 16 := by unfold errOf; split <;> simp
    rcases he with he | he
    · rw [he] at J ⊢; rw [if_neg (by simp)]; exact J
    · rw [he] at J ⊢; rw [if_pos (by simp), if_neg (by simp)]; exact J
end Go.Proofs.Ty
