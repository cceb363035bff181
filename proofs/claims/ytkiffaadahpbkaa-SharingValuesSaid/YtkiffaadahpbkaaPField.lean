/- The field of 256 elements, as the program and the reference count in it. -/
import Derived.Test.YtkiffaadahpbkaaF
set_option linter.unusedSimpArgs false
set_option linter.unusedVariables false
namespace Go.Proofs.Ty
open Go Go.RW
def xt (a : BitVec 8) : BitVec 8 := if decide ((128#8).toNat ≤ a.toNat) then (a <<< 1) ^^^ 27#8 else a <<< 1
def mulS : Nat → BitVec 8 → BitVec 8 → BitVec 8 → BitVec 8
  | 0, _, _, r => r
  | m + 1, a, b, r => mulS m (xt a) (b >>> 1) (r ^^^ if b.getLsbD 0 then a else 0#8)
def gm (a b : BitVec 8) : BitVec 8 := mulS 8 a b 0#8
theorem all8 (p : BitVec 8 → Bool) (h : (List.range 256).all (fun i => p (BitVec.ofNat 8 i)) = true) (x : BitVec 8) : p x = true := by
  have := List.all_eq_true.1 h x.toNat (List.mem_range.2 (by simpa using x.isLt))
  simpa using this
theorem xt_bit (a : BitVec 8) : xt a = (a <<< 1) ^^^ (if a.getLsbD 7 then 27#8 else 0#8) := by
  have := all8 (fun a => xt a == (a <<< 1) ^^^ (if a.getLsbD 7 then 27#8 else 0#8)) (by kernel_rfl) a
  simpa using this
theorem xt_xor (a b : BitVec 8) : xt (a ^^^ b) = xt a ^^^ xt b := by
  rw [xt_bit, xt_bit, xt_bit, BitVec.getLsbD_xor, BitVec.shiftLeft_xor_distrib]
  cases a.getLsbD 7 <;> cases b.getLsbD 7 <;> simp only [Bool.xor_false, Bool.xor_true, Bool.false_xor, Bool.true_xor, Bool.not_true, Bool.not_false, if_true, if_false, Bool.false_eq_true, BitVec.xor_zero]
  · ac_rfl
  · ac_rfl
  · rw [show (a <<< 1 ^^^ 27#8) ^^^ (b <<< 1 ^^^ 27#8) = (a <<< 1 ^^^ b <<< 1) ^^^ (27#8 ^^^ 27#8) by ac_rfl, BitVec.xor_self, BitVec.xor_zero]
theorem xor4 (a b c d : BitVec 8) : (a ^^^ b) ^^^ (c ^^^ d) = (a ^^^ c) ^^^ (b ^^^ d) := by ac_rfl
theorem mulS_b (m : Nat) : ∀ (a b b' r r' : BitVec 8), mulS m a (b ^^^ b') (r ^^^ r') = mulS m a b r ^^^ mulS m a b' r' := by
  induction m with
  | zero => intro a b b' r r'; rfl
  | succ m ih =>
    intro a b b' r r'
    simp only [mulS]
    rw [← ih, BitVec.ushiftRight_xor_distrib, BitVec.getLsbD_xor, xor4]
    congr 2
    cases b.getLsbD 0 <;> cases b'.getLsbD 0 <;> simp
theorem mulS_a (m : Nat) : ∀ (a a' b r r' : BitVec 8), mulS m (a ^^^ a') b (r ^^^ r') = mulS m a b r ^^^ mulS m a' b r' := by
  induction m with
  | zero => intro a a' b r r'; rfl
  | succ m ih =>
    intro a a' b r r'
    simp only [mulS]
    rw [← ih, xt_xor, xor4]
    congr 2
    cases b.getLsbD 0 <;> simp
theorem gm_xor (a b c : BitVec 8) : gm a (b ^^^ c) = gm a b ^^^ gm a c := by
  have := mulS_b 8 a b c 0#8 0#8
  rwa [BitVec.xor_zero] at this
theorem xor_gm (a b c : BitVec 8) : gm (a ^^^ b) c = gm a c ^^^ gm b c := by
  have := mulS_a 8 a b c 0#8 0#8
  rwa [BitVec.xor_zero] at this
/-! ### linear maps -/
def Lin (f : BitVec 8 → BitVec 8) : Prop := ∀ x y, f (x ^^^ y) = f x ^^^ f y
theorem Lin.zero {f : BitVec 8 → BitVec 8} (h : Lin f) : f 0#8 = 0#8 := by
  have := h 0#8 0#8
  rw [BitVec.xor_zero, BitVec.xor_self] at this
  exact this
def term (x : BitVec 8) (i : Nat) : BitVec 8 := if x.getLsbD i then BitVec.ofNat 8 (2 ^ i) else 0#8
theorem decomp (x : BitVec 8) : x = term x 0 ^^^ (term x 1 ^^^ (term x 2 ^^^ (term x 3 ^^^ (term x 4 ^^^ (term x 5 ^^^ (term x 6 ^^^ term x 7)))))) := by
  have := all8 (fun x => x == term x 0 ^^^ (term x 1 ^^^ (term x 2 ^^^ (term x 3 ^^^ (term x 4 ^^^ (term x 5 ^^^ (term x 6 ^^^ term x 7))))))) (by kernel_rfl) x
  simpa using this
theorem lin_ext {f g : BitVec 8 → BitVec 8} (hf : Lin f) (hg : Lin g) (h : ∀ i, i < 8 → f (BitVec.ofNat 8 (2 ^ i)) = g (BitVec.ofNat 8 (2 ^ i))) (x : BitVec 8) : f x = g x := by
  have ht : ∀ i, i < 8 → f (term x i) = g (term x i) := by
    intro i hi
    unfold term
    split
    · exact h i hi
    · rw [hf.zero, hg.zero]
  rw [decomp x]
  simp only [hf _ _, hg _ _]
  rw [ht 0 (by omega), ht 1 (by omega), ht 2 (by omega), ht 3 (by omega), ht 4 (by omega), ht 5 (by omega), ht 6 (by omega), ht 7 (by omega)]
theorem range8 {p : Nat → Bool} (h : (List.range 8).all p = true) (i : Nat) (hi : i < 8) : p i = true := List.all_eq_true.1 h i (List.mem_range.2 hi)
theorem gm_comm (a b : BitVec 8) : gm a b = gm b a := by
  refine lin_ext (f := fun a => gm a b) (g := fun a => gm b a) (fun x y => xor_gm x y b) (fun x y => gm_xor b x y) (fun i hi => ?_) a
  refine lin_ext (f := fun b => gm (BitVec.ofNat 8 (2 ^ i)) b) (g := fun b => gm b (BitVec.ofNat 8 (2 ^ i))) (fun x y => gm_xor _ x y) (fun x y => xor_gm x y _) (fun j hj => ?_) b
  have := range8 (range8 (p := fun i => (List.range 8).all fun j => gm (BitVec.ofNat 8 (2 ^ i)) (BitVec.ofNat 8 (2 ^ j)) == gm (BitVec.ofNat 8 (2 ^ j)) (BitVec.ofNat 8 (2 ^ i))) (by kernel_rfl) i hi) j hj
  simpa using this
theorem gm_assoc (a b c : BitVec 8) : gm (gm a b) c = gm a (gm b c) := by
  refine lin_ext (f := fun a => gm (gm a b) c) (g := fun a => gm a (gm b c)) (fun x y => by simp only [xor_gm]) (fun x y => xor_gm x y _) (fun i hi => ?_) a
  refine lin_ext (f := fun b => gm (gm (BitVec.ofNat 8 (2 ^ i)) b) c) (g := fun b => gm (BitVec.ofNat 8 (2 ^ i)) (gm b c)) (fun x y => by simp only [xor_gm, gm_xor]) (fun x y => by simp only [xor_gm, gm_xor]) (fun j hj => ?_) b
  refine lin_ext (f := fun c => gm (gm (BitVec.ofNat 8 (2 ^ i)) (BitVec.ofNat 8 (2 ^ j))) c) (g := fun c => gm (BitVec.ofNat 8 (2 ^ i)) (gm (BitVec.ofNat 8 (2 ^ j)) c)) (fun x y => by simp only [gm_xor]) (fun x y => by simp only [gm_xor]) (fun k hk => ?_) c
  have := range8 (range8 (range8 (p := fun i => (List.range 8).all fun j => (List.range 8).all fun k => gm (gm (BitVec.ofNat 8 (2 ^ i)) (BitVec.ofNat 8 (2 ^ j))) (BitVec.ofNat 8 (2 ^ k)) == gm (BitVec.ofNat 8 (2 ^ i)) (gm (BitVec.ofNat 8 (2 ^ j)) (BitVec.ofNat 8 (2 ^ k)))) (by kernel_rfl) i hi) j hj) k hk
  simpa using this
theorem gm_one (a : BitVec 8) : gm a 1#8 = a := by
  have := all8 (fun a => gm a 1#8 == a) (by kernel_rfl) a
  simpa using this
theorem one_gm (a : BitVec 8) : gm 1#8 a = a := by rw [gm_comm, gm_one]
theorem gm_zero (a : BitVec 8) : gm a 0#8 = 0#8 := Lin.zero (f := fun b => gm a b) (fun x y => gm_xor a x y)
theorem zero_gm (a : BitVec 8) : gm 0#8 a = 0#8 := by rw [gm_comm, gm_zero]
/-! ### powers -/
def gp (a : BitVec 8) : Nat → BitVec 8
  | 0 => 1#8
  | n + 1 => gm (gp a n) a
theorem gp_add (a : BitVec 8) (m n : Nat) : gp a (m + n) = gm (gp a m) (gp a n) := by
  induction n with
  | zero => rw [gp, gm_one]; rfl
  | succ n ih => rw [← Nat.add_assoc, gp, ih, gm_assoc, gp]
theorem gp_one (a : BitVec 8) : gp a 1 = a := by rw [gp, gp, one_gm]
def gi (a : BitVec 8) : BitVec 8 := gp a 254
def sq (x : BitVec 8) : BitVec 8 := gm x x
theorem gp_sq (a : BitVec 8) (n : Nat) : sq (gp a n) = gp a (n + n) := (gp_add a n n).symm
def gi7 (a : BitVec 8) : BitVec 8 :=
  let b := gm a a; let c := gm b b; let d := gm c c; let e := gm d d; let f := gm e e; let g := gm f f; let h := gm g g
  gm (gm (gm (gm (gm (gm b c) d) e) f) g) h
theorem gi7_eq (a : BitVec 8) : gi7 a = gi a := by
  simp only [gi7, gi]
  have e2 : gm a a = gp a 2 := by rw [show 2 = 1 + 1 from rfl, gp_add, gp_one]
  simp only [e2, ← gp_add]
theorem gi_mul (a : BitVec 8) (h : a ≠ 0#8) : gm a (gi a) = 1#8 := by
  rw [← gi7_eq]
  have := all8 (fun a => a == 0#8 || gm a (gi7 a) == 1#8) (by kernel_rfl) a
  simpa [h] using this
/-! ### the program's -/
theorem mulS_zero (m : Nat) : ∀ (a r : BitVec 8), mulS m a 0#8 r = r := by
  induction m with
  | zero => intro a r; rfl
  | succ m ih => intro a r; simp only [mulS]; rw [show (0#8) >>> 1 = 0#8 by rfl, ih]; simp
theorem bit0 (b : BitVec 8) : ((b &&& 1#8) == 1#8) = b.getLsbD 0 := by
  have := all8 (fun b => ((b &&& 1#8) == 1#8) == b.getLsbD 0) (by kernel_rfl) b
  simpa using this
theorem mulL_eq : ∀ (m k : Nat) (a b r : BitVec 8), b.toNat < 2 ^ m → m < k → sharingMulL2 k a b r = some (mulS m a b r)
  | 0, k + 1, a, b, r, h, _ => by
    rw [sharingMulL2, if_neg (by simp; omega)]; rfl
  | m + 1, k + 1, a, b, r, h, hk => by
    rw [sharingMulL2]
    by_cases h0 : b.toNat = 0
    · have : b = 0#8 := BitVec.eq_of_toNat_eq (by simpa using h0)
      subst this
      rw [if_neg (by simp), mulS_zero]; rfl
    rw [if_pos (by simp; omega), bit0]
    have hb : (b >>> 1).toNat < 2 ^ m := by
      rw [BitVec.toNat_ushiftRight, Nat.shiftRight_eq_div_pow]
      have : 2 ^ (m + 1) = 2 ^ m * 2 := Nat.pow_succ ..
      omega
    have key : ∀ r, sharingMulJ4 (sharingMulL2 k) a b r = some (mulS m (xt a) (b >>> 1) r) := by
      intro r
      rw [sharingMulJ4, xt]
      split
      · exact mulL_eq m k _ _ _ hb (by omega)
      · exact mulL_eq m k _ _ _ hb (by omega)
    rw [key, key, mulS]
    cases b.getLsbD 0 <;> simp
theorem mul_eq (a b : BitVec 8) : sharingMul a b = some (gm a b) := by
  rw [sharingMul, mulL_eq 8 FUEL a b 0#8 b.isLt (by simp only [FUEL]; omega)]; rfl
theorem dbl (x : BitVec 8) : (if ((((x.setWidth 64) <<< 1) &&& (256#64)) != (0#64)) then ((x.setWidth 64) <<< 1) ^^^ (283#64) else (x.setWidth 64) <<< 1) = (xt x).setWidth 64 := by
  have := all8 (fun x => (if ((((x.setWidth 64) <<< 1) &&& (256#64)) != (0#64)) then ((x.setWidth 64) <<< 1) ^^^ (283#64) else (x.setWidth 64) <<< 1) == (xt x).setWidth 64) (by kernel_rfl) x
  exact beq_iff_eq.1 this
theorem bitn (b : BitVec 8) (n : Nat) : (((b >>> n) &&& (1#8)) == (1#8)) = b.getLsbD n := by rw [bit0, BitVec.getLsbD_ushiftRight]; simp
theorem sw8 (x : BitVec 8) : (x.setWidth 64).setWidth 8 = x := by
  have := all8 (fun x => (x.setWidth 64).setWidth 8 == x) (by kernel_rfl) x
  exact beq_iff_eq.1 this
theorem refMulL_eq (b : BitVec 8) : ∀ (m n k : Nat) (a r : BitVec 8), n + m = 8 → m < k → passkeyref37MulL2 b k r (a.setWidth 64) (BitVec.ofNat 64 n) = some (mulS m a (b >>> n) r)
  | 0, n, k + 1, a, r, h, _ => by
    rw [passkeyref37MulL2, if_neg (by simp; omega)]; rfl
  | m + 1, n, k + 1, a, r, h, hk => by
    have hn : (BitVec.ofNat 64 n).toNat = n := by simp; omega
    have hs : BitVec.ofNat 64 n + 1#64 = BitVec.ofNat 64 (n + 1) := by rw [BitVec.ofNat_add]
    rw [passkeyref37MulL2, if_pos (by rw [hn]; simp; omega), hn, bitn]
    have key : ∀ r, passkeyref37MulJ4 (passkeyref37MulL2 b k) (a.setWidth 64) (BitVec.ofNat 64 n) r = some (mulS m (xt a) (b >>> (n + 1)) r) := by
      intro r
      have hd := dbl a
      rw [passkeyref37MulJ4]
      split
      · rename_i hc
        rw [if_pos hc] at hd
        rw [passkeyref37MulJ3, hd, hs]
        exact refMulL_eq b m (n + 1) k _ _ (by omega) (by omega)
      · rename_i hc
        rw [if_neg hc] at hd
        rw [passkeyref37MulJ3, hd, hs]
        exact refMulL_eq b m (n + 1) k _ _ (by omega) (by omega)
    rw [key, key, mulS, sw8, ← BitVec.shiftRight_add, BitVec.getLsbD_ushiftRight]
    cases h0 : b.getLsbD n <;> simp [h0]
theorem refMul_eq (a b : BitVec 8) : passkeyref37Mul a b = some (gm a b) := by
  rw [passkeyref37Mul]
  have := refMulL_eq b 8 0 FUEL a 0#8 rfl (by simp only [FUEL]; omega)
  rw [BitVec.ushiftRight_zero] at this
  exact this
theorem inverse_eq (a : BitVec 8) : sharingInverse a = some (gi a) := by
  rw [← gi7_eq, sharingInverse, show FUEL = FUEL - 8 + 8 from rfl]
  iterate 7 rw [sharingInverseL2, if_pos (by rfl), mul_eq, Option.bind_some, mul_eq, Option.bind_some]
  rw [sharingInverseL2, if_neg (by decide), sharingInverseJ1, one_gm]
  rfl
theorem refInv_loop (a : BitVec 8) : ∀ (m n k : Nat), n + m = 254 → m < k → passkeyref37InverseL2 a k (gp a n) n = some (gi a)
  | 0, n, k + 1, h, _ => by
    rw [passkeyref37InverseL2, if_neg (by simp; omega), show n = 254 by omega]; rfl
  | m + 1, n, k + 1, h, hk => by
    have e2 : w64 ((n : Int) + 1) = ((n + 1 : Nat) : Int) := by rw [w64_of (by omega) (by omega)]; omega
    rw [passkeyref37InverseL2, if_pos (by simp; omega), refMul_eq, Option.bind_some, e2]
    exact refInv_loop a m (n + 1) k (by omega) (by omega)
theorem refInverse_eq (a : BitVec 8) : passkeyref37Inverse a = some (gi a) := refInv_loop a 254 0 FUEL rfl (by simp only [FUEL]; omega)
theorem awake_eq : passkeylaw37awake = some true := by
  kernel_rfl
theorem sharingField_holds (a b c : BitVec 8) : passkeylaw37SharingField a b c = some true := by
  rw [passkeylaw37SharingField]
  simp only [mul_eq, refMul_eq, inverse_eq, refInverse_eq, Option.bind_some, beq_self_eq_true, if_true, awake_eq]
  rw [gm_comm b a, gm_assoc, gm_xor, gm_one, gm_zero]
  simp only [beq_self_eq_true, if_true]
  split
  · rfl
  · rename_i h
    rw [gi_mul a (by simpa using h)]
    rfl
end Go.Proofs.Ty
