/- Values by value: an interpreter of the model's code, sound for every world; part 2. -/
import Derived.Test.YtfhdcabplkhdcaaDoorRa
import Derived.Great.BuildSlice
import Derived.Laws.StructEq
import Derived.ChangeKeysEq
import Derived.Tactics
import Derived.Deep.LoopGhost
set_option linter.unusedVariables false
set_option linter.unusedSimpArgs false
/-! Soundness, thirteenth part: copy, make, conversions, array slices. -/
namespace Go.RW

section
variable {P : Program} {c : Cx} {β : Nat → Option Nat} {M : MF} {N site : Nat} {w : World}

theorem RepX_drop {S : Nat → Prop} {sz : Nat} {xs : List D} {vs : List Value} (n : Nat) (hn : n ≤ xs.length) (h : RepX w S sz xs vs) : RepX w S sz (xs.drop n) (vs.drop (n * sz)) := by
  rw [← List.take_append_drop n xs] at h
  have := (RepX_append.1 h).2
  rwa [List.length_take, Nat.min_eq_left hn] at this

theorem RepX_putL {S : Nat → Prop} {sz off : Nat} {xs ys : List D} {vs new : List Value} (h1 : RepX w S sz xs vs) (h2 : RepX w S sz ys new) (hn : new.length = ys.length * sz) (hl : off + ys.length ≤ xs.length) : RepX w S sz (putL xs off ys) (putL vs (off * sz) new) := by
  have hv := RepX_length h1
  have hle : (off + ys.length) * sz ≤ xs.length * sz := Nat.mul_le_mul_right _ hl
  have hm : (off + ys.length) * sz = off * sz + new.length := by rw [Nat.add_mul, hn]
  have ht : (xs.take off).length = off := by rw [List.length_take]; omega
  unfold putL
  rw [List.append_assoc, List.append_assoc]
  refine RepX_append.2 ⟨RepX_congr ?_ (RepX_take off h1), RepX_append.2 ⟨RepX_congr ?_ h2, ?_⟩⟩
  · rw [ht, List.take_append_of_le_length (by rw [List.length_take]; omega), List.take_take, Nat.min_self]
  · rw [ht, List.drop_append_of_le_length (by rw [List.length_take]; omega), List.drop_of_length_le (by rw [List.length_take]; omega), List.nil_append, ← hn, List.take_append_of_le_length (Nat.le_refl _)]
  · have e : List.drop (ys.length * sz) (List.drop ((xs.take off).length * sz) (vs.take (off * sz) ++ (new ++ vs.drop (off * sz + new.length)))) = vs.drop ((off + ys.length) * sz) := by
      rw [ht, List.drop_append_of_le_length (by rw [List.length_take]; omega), List.drop_of_length_le (l := vs.take (off * sz)) (by rw [List.length_take]; omega), List.nil_append, ← hn, List.drop_append_of_le_length (Nat.le_refl _), List.drop_of_length_le (l := new) (Nat.le_refl _), List.nil_append, ← hm]
    rw [e]
    exact RepX_drop _ hl h1

theorem over_same {id : Nat} {blk : Blk} (h : M id = some blk) : over [(id, blk)] M = M := by
  funext i
  rw [over_one]
  split
  · rename_i e; rw [e, h]
  · rfl

/-- What a copy to a row comes to. -/
theorem sound_copyCore (R : RelM c β M N w) {t u ty e : TypeId} {id ver off len : Nat} {xs ys : List D} {vx vy : Value} {new : List Value} {run : Result Next} (ht : P.underlying t = some (.slice e)) (hsz : sizeT P e = some 1)
    (hsrc : Src P w (SS c β M w) 1 ys vy new) (hx : RepT w (SS c β M w) β M N (.ref id ver off len) vx) (hm : M id = some (.row true 1 xs)) (hv : ver = xs.length)
    (hr : ∀ v w', (Builtin.copy_ #[t, u] ty #[vx, vy]).run P w = .ok v w' → run = .ok (.value v) w') :
    OpVal c β M N site w (.d (.int .i64 (min ys.length len : Nat))) [(id, .row true 1 (putL xs off (ys.take (min ys.length len))))] run := by
  have hrr := RepT_ref.1 hx
  obtain ⟨h1, h2⟩ := (hrr.2.2 _ _ _ hm).2 hv
  have hc := hsrc.cells w rfl (min ys.length len) (Nat.min_le_left _ _)
  have hg : goInt ((min ys.length len : Nat) : Int) = .int .i64 (min ys.length len : Nat) := rfl
  have hdone : ∀ (i : Nat) (blk : Blk), (Mem.get [(id, blk)] i).isSome → known M N i ∨ (site ≤ i ∧ i < site + 64) := by
    intro i blk h
    simp only [Mem.get] at h; split at h
    · rename_i he; subst he; exact Or.inl (Or.inr (by simp [hm]))
    · simp at h
  have zero : ∀ a k, vx = .slice a len k → min ys.length len = 0 → OpVal c β M N site w (.d (.int .i64 (min ys.length len : Nat))) [(id, .row true 1 (putL xs off (ys.take (min ys.length len))))] run := by
    rintro a k rfl h0
    rw [h0] at hc hg ⊢
    rw [List.take_zero, putL_nil]
    simp only [Nat.zero_mul, List.take_zero] at hc
    have hrun := hr (.int .i64 (0 : Nat)) w (by
      cases a <;> simp [Builtin.copy_, run_underlying ht, hsrc.len, h0, run_sizeOf hsz, hc, storeCells, goInt])
    refine ⟨β, _, w, Or.inl hrun, by rw [over_same hm]; exact R, by rw [over_same hm]; exact Later.refl _ _ _ _ _, RepT_int.2 rfl, fun i h => hdone i _ h⟩
  rcases h2 with ⟨h3, h4, h5⟩ | ⟨b, o, k, h3, h4, h5, h6⟩
  · obtain rfl : len = 0 := by omega
    exact zero none 0 h4 (by omega)
  · by_cases h0 : min ys.length len = 0
    · exact zero _ _ h4 h0
    · obtain ⟨rfl, h7⟩ := h6 (by omega)
      subst h4
      rcases R.mem id _ hm with ⟨h8, _⟩ | ⟨b', cs, T, fr, h8, h9, h10, h11, _, h12⟩
      · rw [h3] at h8; simp at h8
      rw [h3] at h8; simp only [Option.some.injEq] at h8; subst h8
      have hX := RepE_X h9 (o := 0) (by simpa using h11) h12
      simp only [List.drop_zero] at hX
      have hnl : (new.take (min ys.length len * 1)).length = min ys.length len := by
        rw [List.length_take, hsrc.size]; omega
      have htl : (ys.take (min ys.length len)).length = min ys.length len := by rw [List.length_take]; omega
      have hst := run_storeCells_put (P := P) (o := off * 1) (new.take (min ys.length len * 1)) 0 cs w h9 h10 (by rw [hnl]; omega) (fun v hv => hsrc.ones v (List.mem_of_mem_take hv))
      simp only [Nat.add_zero] at hst
      have hrun := hr (.int .i64 (min ys.length len : Nat)) _ (by
        show (Builtin.copy_ #[t, u] ty #[.slice (some ⟨b, off * 1, none⟩) len k, vy]).run P w = .ok _ (w.setRow b (putL cs.toList (off * 1) (new.take (min ys.length len * 1))).toArray)
        simp only [Builtin.copy_, Sem.run_bind, run_underlying ht, Result.andThen_ok, hsrc.len, run_sizeOf hsz, Sem.run_pure, hg, List.getElem?_toArray, List.getElem?_cons_zero, List.getElem?_cons_succ, show ∀ a b : Nat, Nat.min a b = min a b from fun _ _ => rfl, hc, hst])
      obtain ⟨q1, q2⟩ := set_row (ys := putL xs off (ys.take (min ys.length len))) (cs' := (putL cs.toList (off * 1) (new.take (min ys.length len * 1))).toArray) R hm h3 h9
        (by rw [putL_length _ _ _ (by rw [htl]; omega)]; exact Nat.le_refl _) (by rw [List.size_toArray, putL_length _ _ _ (by have e := Array.length_toList (xs := cs); rw [Array.length_toList, List.size_toArray, hnl]; omega), Array.length_toList])
        (by
          simp only
          exact RepX_putL hX (RepX_congr (by rw [List.take_take, htl]; simp) (RepX_take _ hsrc.rep)) (by rw [hnl, htl, Nat.mul_one]) (by rw [htl]; omega))
      exact ⟨β, _, _, Or.inl hrun, q1, q2, RepT_int.2 rfl, fun i h => hdone i _ h⟩

theorem sound_copy (R : RelM c β M N w) {t u ty e : TypeId} {x y : PV} {vx vy : Value} {run : Result Next} (ht : P.underlying t = some (.slice e)) (hsz : sizeT P e = some 1) (hx : RepT w (SS c β M w) β M N x vx) (hy : RepT w (SS c β M w) β M N y vy)
    (hr : ∀ v w', (Builtin.copy_ #[t, u] ty #[vx, vy]).run P w = .ok v w' → run = .ok (.value v) w') : Sound c β M N site w (copyQ [x, y]) run := by
  unfold copyQ
  refine sound_bind (Z := fun ys => SlOf c β M w 1 ys vy) (cont_sound R hy) fun ys hys => ?_
  obtain ⟨new, hsrc⟩ := src_slice (P := P) hys
  split
  · refine sound_look fun b hb => ?_
    split
    · refine sound_ask fun ⟨hv, h1⟩ => sound_ret ?_
      subst h1
      exact sound_copyCore R ht hsz hsrc hx hb hv hr
    · exact sound_fail
  · exact sound_fail
theorem sound_copys (R : RelM c β M N w) {t u ty e : TypeId} {x y : PV} {vx vy : Value} {run : Result Next} (ht : P.underlying t = some (.slice e)) (hsz : sizeT P e = some 1) (hx : RepT w (SS c β M w) β M N x vx) (hy : RepT w (SS c β M w) β M N y vy)
    (hr : ∀ v w', (Builtin.copy_ #[t, u] ty #[vx, vy]).run P w = .ok v w' → run = .ok (.value v) w') : Sound c β M N site w (copysQ [x, y]) run := by
  unfold copysQ
  split
  · rename_i p s h
    simp only [List.cons.injEq, and_true] at h
    obtain ⟨rfl, rfl⟩ := h
    obtain rfl := RepT_str.1 hy
    split
    · refine sound_look fun b hb => ?_
      split
      · refine sound_ask fun ⟨hv, h1⟩ => sound_ret ?_
        subst h1
        have := sound_copyCore (site := site) R ht hsz (src_string s) hx hb hv hr
        rwa [show (ofBA s).length = s.size by simp [ofBA]] at this
      · exact sound_fail
    · exact sound_fail
  · exact sound_fail

theorem madeCells_flat {z : Array Value} {sz : Nat} (hz : z.size = sz) (h0 : 0 < sz) : ∀ n, (madeCells z (n * sz)).toList = (List.replicate n z.toList).flatten
  | 0 => by simp [madeCells]
  | n + 1 => by
    have ih := madeCells_flat hz h0 n
    simp only [madeCells, Array.toList_map, Array.toList_range] at ih ⊢
    rw [List.replicate_succ, List.flatten_cons, ← ih, Nat.succ_mul, Nat.add_comm, List.range_add, List.map_append, List.map_map]
    congr 1
    · apply List.ext_getElem
      · simp [hz]
      · intro i h1 h2
        simp only [List.length_map, List.length_range] at h1
        have : i < z.size := by omega
        simp only [List.getElem_map, List.getElem_range, hz, Nat.mod_eq_of_lt h1, Array.getElem_toList]
        exact getElem!_pos z i this
    · apply List.map_congr_left
      intro i _
      simp [hz]

theorem zero_part {S : Nat → Prop} {agg : Bool} {z : List D} {zc : List Value} {sz : Nat} (h : RepL w S z zc) (hl : zc.length = sz) (hg : agg = true ∨ sz = 1) : RepC w S (partD agg z 0 sz) zc := by
  have hlen := RepL.length h
  unfold partD
  cases agg with
  | true =>
    simp only [if_true, List.drop_zero, RepC]
    rw [List.take_of_length_le (by omega)]; exact h
  | false =>
    have : sz = 1 := by simpa using hg
    subst this
    match z, zc, h, hl with
    | [x], [v], h, _ =>
      obtain ⟨u, r, h1, _, h2, h3⟩ := h
      simp only [List.cons.injEq] at h1
      rw [h1.1]; simpa using h2

theorem sound_mks (R : RelM c β M N w) (hs : N ≤ site) (hn : M site = none) {t e : TypeId} {sz bytes : Nat} {agg : Bool} {zs : List PV} {x y : PV} {vx vy : Value} {run : Result Next} (ht : P.underlying t = some (.slice e)) (hsz : sizeT P e = some sz) (hb : bytesT P e = some bytes)
    (hz : zeroOf P e = some zs) (h0 : 0 < sz) (hby : 0 < bytes) (hzl : zs.length = sz) (hg : agg = true ∨ sz = 1) (hx : RepT w (SS c β M w) β M N x vx) (hy : RepT w (SS c β M w) β M N y vy)
    (hr : ∀ v w', (Instr.makeSlice t vx vy).run P w = .ok v w' → run = .ok (.value v) w') : Sound c β M N site w (mksQ site sz agg zs (281474976710656 / bytes) [x, y]) run := by
  unfold mksQ
  split
  · rename_i k n k' m h
    simp only [List.cons.injEq, and_true] at h
    obtain ⟨rfl, rfl⟩ := h
    obtain rfl := RepT_int.1 hx
    obtain rfl := RepT_int.1 hy
    split
    · rename_i z hzz
      refine sound_ask fun ⟨h1, h2, h3⟩ => sound_ret ?_
      obtain ⟨i, zv, hi, hiz, hrep⟩ := zeroOf_some (w := w) (β := β) (M := M) (N := N) hz
      obtain ⟨hrep1, hrep2⟩ := hrep (SS c β M w)
      have hi1 : i.size = sz := by unfold sizeT at hsz; rw [hi] at hsz; simpa using hsz
      have hi2 : i.bytes = bytes := by unfold bytesT at hb; rw [hi] at hb; simpa using hb
      have hzsz : zv.cells.size = sz := by omega
      have hfit : m.toNat * bytes ≤ 281474976710656 := (Nat.le_div_iff_mul_le hby).1 (by omega)
      have h63 : m.toNat ≤ 281474976710656 := by
        have : m.toNat * 1 ≤ m.toNat * bytes := Nat.mul_le_mul_left _ hby
        omega
      have hrun := run_make (P := P) w t e i zv ht hi hiz k k' n m h1 h2 (by
        rw [hi2, show m = ((m.toNat : Nat) : Int) by omega]
        have : ((m.toNat * bytes : Nat) : Int) ≤ 281474976710656 := by omega
        rwa [Int.natCast_mul, Int.mul_comm] at this) (by omega)
      rw [hi1] at hrun
      have hnm : n.toNat ≤ m.toNat := by omega
      refine OpVal.new R hs hn (w' := w.alloc _) (hr _ _ hrun) rfl rfl rfl rfl Unfr.zero (Or.inl ⟨sz, _, rfl, ?_⟩) fun S' hat => new_ref (by simp) hnm (by rw [size_madeCells]; exact Nat.le_refl _) hat
      rw [madeCells_flat hzsz h0]
      have hzL : RepL w (SS c β M w) z zv.cells.toList := by
        exact zDs_rep hzz hrep1
      have := RepX_take n.toNat (RepX_replicate (n := m.toNat) (sz := sz) (by simpa using hzsz) (zero_part (agg := agg) hzL (by simpa using hzsz) hg))
      rwa [List.take_replicate, Nat.min_eq_left hnm] at this
    · exact sound_fail
  · exact sound_fail

theorem sound_s2b (R : RelM c β M N w) (hs : N ≤ site) (hn : M site = none) {src dst e : TypeId} {x : PV} {vx : Value} {run : Result Next} (h1 : P.underlying src = some .string) (h2 : P.underlying dst = some (.slice e)) (h3 : P.underlying e = some (.int .u8)) (hx : RepT w (SS c β M w) β M N x vx)
    (hr : ∀ v w', (convert src dst vx).run P w = .ok v w' → run = .ok (.value v) w') : Sound c β M N site w (s2bQ site [x]) run := by
  unfold s2bQ
  split
  · rename_i s h
    simp only [List.cons.injEq, and_true] at h
    subst h
    obtain rfl := RepT_str.1 hx
    have hsz : (ofBA s).length = s.size := by simp [ofBA]
    refine sound_ret (OpVal.new (cs := Lib.bytesCells w e s) (T := e) (fr := ((Lib.bytesCells w e s).size, (Lib.bytesCells w e s).size + 1)) R hs hn (w' := Lib.bytesWorld w e s) (hr _ _ (Lib.run_convert_string_bytes w src dst e s h1 h2 h3)) ?_ rfl rfl rfl (Or.inr (Nat.le_refl _)) (Or.inl ⟨1, _, rfl, ?_⟩) fun S' hat => new_ref hsz (grownCap_ge _ _ _ _) ?_ hat)
    · apply Array.ext_getElem?
      intro i
      rw [Array.getElem?_push]
      split
      · rename_i he; rw [he]; exact Lib.bytesWorld_at_new w e s
      · rename_i he
        by_cases hlt : i < w.heap.size
        · exact Lib.bytesWorld_at_old w e s i hlt
        · rw [Array.getElem?_eq_none (by rw [Lib.bytesWorld_size]; omega), Array.getElem?_eq_none (by omega)]
    · refine RepX_congr (vs := s.data.toList.map fun b => .int .u8 b.toNat) ?_ (RepX_one (RepL_bytes _))
      simp only [Lib.bytesCells, Array.toList_append, Array.toList_map, hsz, Nat.mul_one]
      have hss : s.size = (s.data.toList.map fun b => Value.int .u8 b.toNat).length := by simp
      rw [List.take_append_of_le_length (by omega)]
    · have := grownCap_ge w s.size 0 e
      have hss : s.data.size = s.size := rfl
      simp only [Lib.bytesCells, Array.size_append, Array.size_map, Array.size_replicate, Nat.mul_one, hss]
      omega
  · exact sound_fail
end
end Go.RW

/-! append(s, make([]T, n)...). -/
namespace Go.RW
section
variable {P : Program} {c : Cx} {β : Nat → Option Nat} {M : MF} {N site : Nat} {w : World}

theorem zeroCells_made (z : Array Value) (n : Nat) : Builtin.zeroCells z n = madeCells z (n * z.size) := rfl

theorem appRun_zeros {S : Nat → Prop} {t u ty e : TypeId} {k kk : IntKind} {sz bytes : Nat} {agg : Bool} {zs : List PV} {z : List D} {n : Int} (ht : P.underlying t = some (.slice e)) (hu : P.underlying u = some (.int k)) (hs : sizeT P e = some sz) (hb : bytesT P e = some bytes)
    (hz : zeroOf P e = some zs) (hzz : zDs zs = some z) (hzl : zs.length = sz) (h0 : 0 < sz) (hby : 0 < bytes) (hg : agg = true ∨ sz = 1) (hn : 0 ≤ n) (hlim : n.toNat ≤ 140737488355328 / bytes) (hS : ∀ b, SS c β M w b → S b) :
    ∃ new, AppRun P w S t u ty sz (140737488355328 / bytes) (List.replicate n.toNat (partD agg z 0 sz)) (.int kk n) new := by
  obtain ⟨i, zv, hi, hiz, hrep⟩ := zeroOf_some (w := w) (β := β) (M := M) (N := 0) hz
  obtain ⟨hrep1, hrep2⟩ := hrep S
  have hi1 : i.size = sz := by unfold sizeT at hs; rw [hi] at hs; simpa using hs
  have hi2 : i.bytes = bytes := by unfold bytesT at hb; rw [hi] at hb; simpa using hb
  have hzsz : zv.cells.size = sz := by omega
  have hzL : RepL w S z zv.cells.toList := by
    exact zDs_rep hzz hrep1
  have hfit : n.toNat * bytes ≤ 140737488355328 := (Nat.le_div_iff_mul_le hby).1 hlim
  have hnle : n.toNat ≤ 140737488355328 := by
    have : n.toNat * 1 ≤ n.toNat * bytes := Nat.mul_le_mul_left _ hby
    omega
  have wl : IntKind.i64.wrap n = n := by rw [IntKind.wrap_i64]; omega
  have n1 : ¬ n < 0 := by omega
  have n2 : ¬ (281474976710656 < n * (bytes : Int)) := by
    have : ((n.toNat * bytes : Nat) : Int) ≤ 140737488355328 := by omega
    rw [Int.natCast_mul, Int.toNat_of_nonneg hn] at this
    omega
  have hflat := madeCells_flat hzsz h0 n.toNat
  have hlenr : (List.replicate n.toNat (partD agg z 0 sz)).length = n.toNat := by simp
  have hnewlen : (madeCells zv.cells (n.toNat * sz)).toList.length = n.toNat * sz := by simp [size_madeCells]
  have hones : ∀ v ∈ (madeCells zv.cells (n.toNat * sz)).toList, one v = true := by
    intro v hv
    rw [hflat] at hv
    obtain ⟨l, h1, h2⟩ := List.mem_flatten.1 hv
    rw [List.eq_of_mem_replicate h1] at h2
    exact RepL_one hzL v h2
  refine ⟨(madeCells zv.cells (n.toNat * sz)).toList, ⟨by rw [hlenr]; exact hnewlen, by rw [hflat]; exact RepX_replicate (by simpa using hzsz) (zero_part hzL (by simpa using hzsz) hg), ?_, ?_, ?_⟩⟩
  · intro h a sLen sCap hl
    have h00 : n.toNat = 0 := by simpa using h
    have : n = 0 := by omega
    subst this
    cases a <;> simp [Builtin.append_, run_underlying ht, run_underlying hu, sizeOf, typeInfo, hi, hi1, asInt, asIntOf, wl, hl, storeCells]
  · intro sLen sCap b o cs T fr h1 h2 h3 h4
    rw [hlenr] at h1 h4
    rw [hlenr]
    have hst := run_storeCells_put (P := P) (o := o + sLen * sz) (madeCells zv.cells (n.toNat * sz)).toList 0 cs w h2 h3 (by rw [hnewlen]; rw [Nat.add_mul] at h4; omega) hones
    simp only [Nat.add_zero] at hst
    by_cases hn0 : n.toNat * sz = 0
    · have hemp : (madeCells zv.cells (n.toNat * sz)).toList = [] := List.length_eq_zero_iff.1 (by rw [hnewlen]; exact hn0)
      rw [hemp] at hst ⊢
      simp [Builtin.append_, run_underlying ht, run_underlying hu, sizeOf, typeInfo, hi, hi1, hi2, asInt, asIntOf, wl, n1, n2, h1, hn0, add_none, hst]
    · simp [Builtin.append_, run_underlying ht, run_underlying hu, sizeOf, typeInfo, zeroValue, hiz, hi, hi1, hi2, asInt, asIntOf, wl, n1, n2, h1, hn0, add_none, zeroCells_made, hzsz, hst]
  · intro a sLen sCap olds h1 h2 h3 h4
    rw [hlenr] at h3 h4
    simp only [hlenr]
    have hfit' : (sLen + n.toNat) * bytes ≤ 140737488355328 := (Nat.le_div_iff_mul_le hby).1 h4
    have hne : ¬ (sLen + n.toNat ≤ sCap) := by omega
    have h63 : sLen + n.toNat ≤ 140737488355328 := by
      have : (sLen + n.toNat) * 1 ≤ (sLen + n.toNat) * bytes := Nat.mul_le_mul_left _ hby
      omega
    have h63' : ¬ (9223372036854775807 < ((sLen : Int) + (n.toNat : Int))) := by omega
    have h63'' : ¬ (9223372036854775807 < ((sLen : Int) + max n 0)) := by omega
    have h48 := growslice_fits h3 hfit'
    have h48' : ¬ (281474976710656 < Builtin.nextslicecap (sLen + n.toNat) sCap * i.bytes) := by rw [hi2]; omega
    have hfo : (Builtin.firstCells sz sLen (.slice a sLen sCap)).run P w.drew = .ok olds.toArray w.drew := by
      rcases h2 with rfl | ⟨b, o, rfl, h3⟩
      · have : olds = [] := List.length_eq_zero_iff.1 (by simpa using h1)
        subst this
        cases a <;> simp [Builtin.firstCells, loadCells, loadCellsFrom]
      · have := run_loadCells_list (P := P) w.drew ⟨b, o, none⟩ olds (fun j v hj => by rw [add_none]; exact h3 j v hj)
        rw [h1] at this
        simp [Builtin.firstCells, this]
    refine ⟨e, grownCap w (sLen + n.toNat) sCap e, Builtin.zeroCells zv.cells (grownCap w (sLen + n.toNat) sCap e - (sLen + n.toNat)), grownCap_ge _ _ _ _, by rw [size_zeroCells, hzsz], ?_⟩
    by_cases hn0 : n.toNat * sz = 0
    · have hemp : (madeCells zv.cells (n.toNat * sz)).toList = [] := List.length_eq_zero_iff.1 (by rw [hnewlen]; exact hn0)
      rw [hemp]
      simp [Builtin.append_, run_underlying ht, run_underlying hu, sizeOf, typeInfo, zeroValue, hi, hiz, hi1, asInt, asIntOf, wl, n1, n2, hi2, hne, h63', h63'', hn0, Question.forced, hfo, newRow, grownCap]
      rw [hi2] at h48'
      simp [h48']
    · simp [Builtin.append_, run_underlying ht, run_underlying hu, sizeOf, typeInfo, zeroValue, hi, hiz, hi1, asInt, asIntOf, wl, n1, n2, hi2, hne, h63', h63'', hn0, Question.forced, hfo, newRow, grownCap, zeroCells_made, hzsz]
      rw [hi2] at h48'
      simp [h48']

theorem sound_appz (R : RelM c β M N w) (hs : N ≤ site) (hn : M site = none) {t u ty e : TypeId} {k : IntKind} {sz bytes : Nat} {agg : Bool} {zs : List PV} {x y : PV} {vx vy : Value} {run : Result Next} (ht : P.underlying t = some (.slice e)) (hu : P.underlying u = some (.int k)) (hsz : sizeT P e = some sz) (hb : bytesT P e = some bytes)
    (hz : zeroOf P e = some zs) (hzl : zs.length = sz) (h0 : 0 < sz) (hby : 0 < bytes) (hg : agg = true ∨ sz = 1) (hx : RepT w (SS c β M w) β M N x vx) (hy : RepT w (SS c β M w) β M N y vy)
    (hr : ∀ v w', (Builtin.append_ #[t, u] ty #[vx, vy]).run P w = .ok v w' → run = .ok (.value v) w') : Sound c β M N site w (appzQ site sz agg zs (140737488355328 / bytes) [x, y]) run := by
  unfold appzQ
  split
  · rename_i p kk n h
    simp only [List.cons.injEq, and_true] at h
    obtain ⟨rfl, rfl⟩ := h
    obtain rfl := RepT_int.1 hy
    split
    · rename_i z hzz
      refine sound_ask fun ⟨h1, h2⟩ => ?_
      obtain ⟨new, A⟩ := appRun_zeros (c := c) (β := β) (M := M) (kk := kk) (ty := ty) (S := SS c β M w) ht hu hsz hb hz hzz hzl h0 hby hg h1 h2 (fun b hb => hb)
      exact sound_appCore R hs hn A hx hr
    · exact sound_fail
  · exact sound_fail
end
end Go.RW

/-! Soundness, fourteenth part: struct, array and slice literals; arrays and slices of each other. -/
namespace Go.RW

section
variable {P : Program} {c : Cx} {β : Nat → Option Nat} {M : MF} {N site : Nat} {w : World}

theorem fold_put {off : Nat} : ∀ (l : List Value) (k : Nat) (cells : Array Value), off + k + l.length ≤ cells.size → (l.zipIdx k).foldl (fun cs x => cs.setIfInBounds (off + x.2) x.1) cells = (putL cells.toList (off + k) l).toArray
  | [], k, cells, _ => by simp [putL_nil]
  | v :: l, k, cells, h => by
    simp only [List.length_cons] at h
    rw [List.zipIdx_cons, List.foldl_cons, fold_put l (k + 1) _ (by simp; omega), putL_cons _ _ _ _ (by simp; omega)]
    simp [Nat.add_assoc]
theorem fold_put' {off : Nat} (v : Value) (cells : Array Value) (h : off + v.cells.size ≤ cells.size) : v.cells.zipIdx.foldl (fun cs (x : Value × Nat) => match x with | (c, j) => cs.setIfInBounds (off + j) c) cells = (putL cells.toList off v.cells.toList).toArray := by
  have := fold_put (off := off) v.cells.toList 0 cells (by simpa using h)
  rw [Nat.add_zero] at this
  rw [← this, ← Array.foldl_toList, Array.toList_zipIdx]

theorem fillD_sound {S : Nat → Prop} {place : Nat → Option (Nat × Nat)} : ∀ {l : List (Nat × Nat)} {parts : List (Nat × Value)} {xs zs : List PV} {cells : Array Value} {G : List PV → Prop}, parts.map (fun p => place p.1) = l.map some →
    RepTL w S β M N xs (parts.map (·.2)) → RepPL w S β M N zs cells.toList → (fillD zs l xs).wp M G → ∃ ps cells', G ps ∧ Instr.fill place cells parts = some cells' ∧ RepPL w S β M N ps cells'.toList
  | [], parts, xs, zs, cells, G, hp, hx, hz, hG => by
    have : parts = [] := by simpa using hp
    subst this
    have : xs = [] := by
      cases xs with
      | nil => rfl
      | cons x xs => unfold RepTL at hx; obtain ⟨v, r, h, _⟩ := hx; simp at h
    subst this
    exact ⟨zs, cells, hG, rfl, hz⟩
  | (off, n) :: l, parts, xs, zs, cells, G, hp, hx, hz, hG => by
    cases parts with
    | nil => simp at hp
    | cons p parts =>
      obtain ⟨i, v⟩ := p
      simp only [List.map_cons, List.cons.injEq] at hp hx
      cases xs with
      | nil => simp [fillD, Q.wp] at hG
      | cons x xs =>
        unfold RepTL at hx
        obtain ⟨v', r, h1, h2, h3⟩ := hx
        simp only [List.cons.injEq] at h1
        obtain ⟨rfl, rfl⟩ := h1
        obtain ⟨⟨h4, h5, h6⟩, h7⟩ := hG
        obtain ⟨h8, _⟩ := RepT_cells h2 h6
        have hl1 := RepPL_length hz
        have hl2 := RepPL_length h8
        simp only [Array.length_toList] at hl1 hl2
        have hn : v.cells.size = n := by omega
        have hle : off + v.cells.size ≤ cells.size := by omega
        obtain ⟨ps, cells', h9, h10, h11⟩ := fillD_sound (cells := (putL cells.toList off v.cells.toList).toArray) hp.2 h3 (by simpa using RepPL_put (off := off) hz h8) h7
        refine ⟨ps, cells', h9, ?_, h11⟩
        rw [Instr.fill, hp.1]
        simp only [hn, ne_eq, not_true_eq_false, decide_false, Bool.false_or]
        rw [if_neg (by simp; omega), fold_put' v cells hle]
        exact h10

theorem sound_build (R : RelM c β M N w) {t : TypeId} {zs : List PV} {l : List (Nat × Nat)} {parts : Array (Nat × Value)} {xs : List PV} {run : Result Next} (hz : zeroOf P t = some zs) (hx : RepTL w (SS c β M w) β M N xs (parts.toList.map (·.2)))
    (hp : (∃ fs : Array Field, P.underlying t = some (.struct fs) ∧ fs.toList.all (fun (f : Field) => (sizeT P f.type).isSome) = true ∧ parts.toList.map (fun p => (fs[p.1]?).bind fun (f : Field) => (sizeT P f.type).map fun n => (f.offset, n)) = l.map some) ∨
      (∃ n e sz, P.underlying t = some (.array n e) ∧ sizeT P e = some sz ∧ l = parts.toList.map (fun p => (p.1 * sz, sz))))
    (hr : ∀ v, (Instr.build t parts).run P w = .ok v w → run = .ok (.value v) w) : Sound c β M N site w (buildQ zs l xs) run := by
  unfold buildQ
  obtain ⟨i, z, h1, h2, h3⟩ := zeroOf_some (w := w) (β := β) (M := M) (N := N) hz
  obtain ⟨h4, h5⟩ := h3 (SS c β M w)
  have key : ∀ place : Nat → Option (Nat × Nat), parts.toList.map (fun p => place p.1) = l.map some → (∀ cells, Instr.fill place z.cells parts.toList = some cells → P.built t parts.toList = some cells) →
      Sound c β M N site w ((fillD zs l xs).bind fun ps => .ret (.val (mkAgg ps) [])) run := by
    intro place hpl hb
    refine sound_bind (Z := fun ps => ∃ cells', Instr.fill place z.cells parts.toList = some cells' ∧ RepPL w (SS c β M w) β M N ps cells'.toList) (fun G hG => ?_) fun ps ⟨cells', h6, h7⟩ => sound_ret (OpVal.pure R (hr _ (run_build w t parts _ (hb _ h6))) ?_)
    · obtain ⟨ps, cells', h6, h7, h8⟩ := fillD_sound hpl hx h4 hG
      exact ⟨ps, h6, cells', h7, h8⟩
    · simpa using RepT_mkAgg h7
  rcases hp with ⟨fs, hu, hall, hl⟩ | ⟨n, e, sz, hu, hs, rfl⟩
  · obtain ⟨places, hpl⟩ : ∃ places, fs.toList.mapM (fun f => (P.info? f.type).map fun i => (f.offset, i.size)) = some places := by
      have : ∀ l : List Field, l.all (fun f => (sizeT P f.type).isSome) = true → ∃ places, l.mapM (fun f => (P.info? f.type).map fun i => (f.offset, i.size)) = some places := by
        intro l
        induction l with
        | nil => intro _; exact ⟨[], rfl⟩
        | cons f l ih =>
          intro h
          simp only [List.all_cons, Bool.and_eq_true] at h
          obtain ⟨pl, hpl⟩ := ih h.2
          obtain ⟨n, hn⟩ := Option.isSome_iff_exists.1 h.1
          unfold sizeT at hn
          rw [Option.map_eq_some_iff] at hn
          obtain ⟨i, hi, _⟩ := hn
          exact ⟨_, by simp [List.mapM_cons, hi, hpl]; rfl⟩
      exact this _ hall
    have hget : ∀ (l : List Field) (places : List (Nat × Nat)), l.mapM (fun f => (P.info? f.type).map fun i => (f.offset, i.size)) = some places → ∀ j : Nat, places[j]? = (l[j]?).bind fun (f : Field) => (sizeT P f.type).map fun n => (f.offset, n) := by
      intro l
      induction l with
      | nil => intro places h j; simp at h; subst h; simp
      | cons f l ih =>
        intro places h j
        simp only [List.mapM_cons, Option.bind_eq_bind, Option.pure_def] at h
        cases hi : P.info? f.type with
        | none => simp [hi] at h
        | some i =>
          cases hr' : l.mapM (fun f => (P.info? f.type).map fun i => (f.offset, i.size)) with
          | none => simp [hi, hr'] at h
          | some rest =>
            simp [hi, hr'] at h
            subst h
            cases j with
            | zero => simp [sizeT, hi]
            | succ j => simpa using ih rest hr' j
    refine key (places.toArray[·]?) ?_ fun cells hf => ?_
    · rw [← hl]
      apply List.map_congr_left
      intro p _
      have := hget _ _ hpl p.1
      simpa using this
    · unfold Program.built
      simp only [h1, hu, h2, hpl]
      exact hf
  · have hse : ∃ ie, P.info? e = some ie ∧ ie.size = sz := by
      unfold sizeT at hs; rw [Option.map_eq_some_iff] at hs; exact hs
    obtain ⟨ie, hie, hies⟩ := hse
    refine key (fun i => some (i * sz, sz)) ?_ fun cells hf => ?_
    · rw [List.map_map]; rfl
    · unfold Program.built
      simp only [h1, hu, h2, hie, hies]
      exact hf

theorem fillE_sound (R : RelM c β M N w) {sz : Nat} {agg : Bool} : ∀ {ix : List Nat} {xs : List PV} {es : List D} {vs : List Value} {G : List D × Mem Blk → Prop}, RepTL w (SS c β M w) β M N xs vs → (fillE sz agg es ix xs).wp M G →
    ∃ r, G r ∧ Frz c β M w r.2 r.2 ∧ r.1.length = es.length ∧ ∀ S', FrzCond c β M w r.2 S' → ∀ cells : Array Value, RepX w S' sz es cells.toList → ∃ cells', Instr.fill (fun i => some (i * sz, sz)) cells (ix.zip vs) = some cells' ∧ RepX w S' sz r.1 cells'.toList
  | [], xs, es, vs, G, hx, hG => by
    cases xs with
    | nil => exact ⟨_, hG, Frz.nil, rfl, fun S' _ cells hc => ⟨cells, rfl, hc⟩⟩
    | cons x xs => simp [fillE, Q.wp] at hG
  | i :: ix, xs, es, vs, G, hx, hG => by
    cases xs with
    | nil => simp [fillE, Q.wp] at hG
    | cons x xs =>
      unfold RepTL at hx
      obtain ⟨v, us, rfl, h1, h2⟩ := hx
      simp only [fillE] at hG
      rw [Q.wp_bind] at hG
      unfold elemQ at hG
      rw [Q.wp_bind] at hG
      obtain ⟨r, ⟨h3, h4, h5⟩, h6, h7⟩ := toD_sound R h1 _ hG
      rw [Q.wp_bind] at h5
      obtain ⟨s, h8, h9, h10, h11⟩ := fillE_sound R (ix := ix) h2 h5
      refine ⟨_, h8, h6.both h9, by simpa using h10, fun S' hS' cells hc => ?_⟩
      have hrep := h7 S' (hS'.sub isSome_append_left)
      have hlen := RepL.length (Rep_cells hrep)
      simp only [Array.length_toList] at hlen
      have hvs : v.cells.size = sz := by omega
      have hX := RepX_length hc
      have hi : (i + 1) * sz ≤ es.length * sz := Nat.mul_le_mul_right _ h4.2
      rw [Nat.succ_mul] at hi
      simp only [Array.length_toList] at hX
      have hset := RepX_set (us := v.cells.toList) hc h4.2 (by simpa using hvs) (RepC_of_cells hrep)
      obtain ⟨cells', h12, h13⟩ := h11 S' (hS'.sub isSome_append_right) (putL cells.toList (i * sz) v.cells.toList).toArray (by simpa using hset)
      refine ⟨cells', ?_, h13⟩
      rw [List.zip_cons_cons, Instr.fill]
      simp only [hvs, ne_eq, not_true_eq_false, decide_false, Bool.false_or]
      rw [if_neg (by simp; omega), fold_put' v cells (by omega)]
      exact h12

theorem sound_bslice (R : RelM c β M N w) (hs : N ≤ site) (hn : M site = none) {t e : TypeId} {sz n : Nat} {agg : Bool} {zs : List PV} {ix : List Nat} {xs : List PV} {vs : List Value} {run : Result Next} (ht : P.underlying t = some (.slice e)) (hsz : sizeT P e = some sz) (hz : zeroOf P e = some zs)
    (h0 : 0 < sz) (hn0 : 0 < n) (hsmall : n * sz ≤ 16777216) (hzl : zs.length = sz) (hg : agg = true ∨ sz = 1) (hx : RepTL w (SS c β M w) β M N xs vs)
    (hr : ∀ v w', (Instr.buildSlice t n (ix.zip vs).toArray).run P w = .ok v w' → run = .ok (.value v) w') : Sound c β M N site w (bsliceQ site sz agg n zs ix xs) run := by
  unfold bsliceQ
  split
  · rename_i z hzz
    refine sound_bind (Z := fun r : List D × Mem Blk => Frz c β M w r.2 r.2 ∧ r.1.length = n ∧ ∀ S', FrzCond c β M w r.2 S' → ∀ cells : Array Value, RepX w S' sz (List.replicate n (partD agg z 0 sz)) cells.toList → ∃ cells', Instr.fill (fun i => some (i * sz, sz)) cells (ix.zip vs) = some cells' ∧ RepX w S' sz r.1 cells'.toList)
      (fun G hG => ?_) fun r ⟨h1, hrl, h2⟩ => sound_ret ?_
    · obtain ⟨r, h1, h2, h3, h4⟩ := fillE_sound R hx hG
      exact ⟨r, h1, h2, by simpa using h3, h4⟩
    · obtain ⟨i, zv, hi, hiz, hrep⟩ := zeroOf_some (w := w) (β := β) (M := M) (N := N) hz
      obtain ⟨hrep1, hrep2⟩ := hrep (SS c β M w)
      have hi1 : i.size = sz := by unfold sizeT at hsz; rw [hi] at hsz; simpa using hsz
      have hzsz : zv.cells.size = sz := by omega
      have hzL : RepL w (SS c β M w) z zv.cells.toList := by
        exact zDs_rep hzz hrep1
      have hX0 := RepX_replicate (n := n) (sz := sz) (by simpa using hzsz) (zero_part (agg := agg) hzL (by simpa using hzsz) hg)
      rw [← madeCells_flat hzsz h0] at hX0
      obtain ⟨R1, L1, hc1⟩ := freeze R h1
      obtain ⟨cells', h3, h4⟩ := h2 _ hc1 (madeCells zv.cells (n * sz)) (RepX_mono (fun b hb => ⟨hc1.1 b hb, rfl⟩) hX0)
      have hrun := run_buildSlice (P := P) w t e n (ix.zip vs).toArray cells' i zv ht hi hiz (by rw [hi1]; omega) (by rw [hi1]; exact Nat.ne_of_gt (Nat.mul_pos hn0 h0)) (by rw [hi1]; exact h3)
      have hn' : over r.2 M site = none := by
        unfold over
        split
        · rename_i b hb
          obtain ⟨b0, h5, _⟩ := h1 site b hb
          rw [hn] at h5; simp at h5
        · exact hn
      obtain ⟨h5, h6⟩ := new_blk (w' := w.alloc (.cells cells' e)) (blk := .row true sz r.1) R1 hs hn' rfl rfl rfl rfl Unfr.zero (Or.inl ⟨sz, _, rfl, h4⟩)
      rw [← over_cons] at h5 h6
      refine ⟨_, _, _, Or.inl (hr _ _ hrun), h5, L1.trans h6, ?_, fun j hj => ?_⟩
      · rw [hrl, over_cons]
        refine new_ref hrl (Nat.le_refl _) (cs := cells') (T := e) (fr := (0, 0)) ?_ (by
          show (w.heap.push _)[w.heap.size]? = _
          rw [Array.getElem?_push, if_pos rfl])
        have := RepX_length h4
        rw [hrl] at this
        simpa using this
      · simp only [Mem.get] at hj
        split at hj
        · rename_i he; subst he; exact Or.inr ⟨Nat.le_refl _, by omega⟩
        · obtain ⟨blk, hblk⟩ := Option.isSome_iff_exists.1 hj
          obtain ⟨b0, h7, _⟩ := h1 j blk hblk
          exact Or.inl (Or.inr (by simp [h7]))
  · exact sound_fail

/-- Elements of one cell each, in a row. -/
theorem RepE_cells1 {S : Nat → Prop} {b : Nat} : ∀ {xs : List D} {o : Nat}, xs.all (fun x => !isAggD x) = true → RepE w S 1 b o xs → ∃ vs : List Value, cellsAt w b o vs ∧ RepL w S xs vs
  | [], o, _, _ => ⟨[], fun j u h => by simp at h, rfl⟩
  | x :: xs, o, ha, h => by
    simp only [List.all_cons, Bool.and_eq_true, Bool.not_eq_true'] at ha
    rw [RepE] at h
    obtain ⟨⟨us, h1, h2, h3⟩, h4⟩ := h
    obtain ⟨vs, h5, h6⟩ := RepE_cells1 ha.2 h4
    match us, h1 with
    | [u], _ =>
      refine ⟨u :: vs, fun j v hj => ?_, u, vs, rfl, ha.1, h3, h6⟩
      cases j with
      | zero => exact h2 0 v (by simpa using hj)
      | succ j =>
        have := h5 j v (by simpa using hj)
        rwa [show o + (j + 1) = o + 1 + j by omega]

theorem sound_s2a (R : RelM c β M N w) {arr e : TypeId} {n : Nat} {x : PV} {vx : Value} {run : Result Next} (ht : P.underlying arr = some (.array n e)) (hx : RepT w (SS c β M w) β M N x vx)
    (hr : ∀ v, (Instr.arrayAt arr vx).run P w = .ok v w → run = .ok (.value v) w) : Sound c β M N site w (s2aQ n [x]) run := by
  have fin : ∀ {s : Nat} {xs : List D} {u : Mem Blk}, Frz c β M w u u → (∀ S', FrzCond c β M w u S' → RepC w S' (.sl s xs) [vx]) →
      Sound c β M N site w (.ask (0 < n ∧ n ≤ xs.length ∧ s = 1 ∧ xs.all (fun x => !isAggD x) = true) (.ret (.val (.iptr (xs.take n)) u))) run := by
    intro s xs u hf hrep
    refine sound_ask fun ⟨h1, h2, h3, h4⟩ => sound_ret ?_
    subst h3
    obtain ⟨a, k, h5, _⟩ : ∃ a k, vx = .slice a xs.length k ∧ True := by
      have := hrep _ (freeze R hf).2.2
      unfold RepC at this
      obtain ⟨a, k, h, _⟩ := this
      exact ⟨a, k, by simpa using h, trivial⟩
    subst h5
    have hrun := hr (.pointer a) (by
      simp only [Instr.arrayAt, underlying, Sem.run_bind, run_program, Result.andThen_ok, ht, Sem.run_pure]
      rw [if_neg (by omega)]; simp)
    refine OpVal.frz R hrun hf fun hc _ => ?_
    have := hrep _ hc
    unfold RepC at this
    obtain ⟨a', k', h6, _, h7⟩ := this
    simp only [List.cons.injEq, Value.slice.injEq, and_true, true_and] at h6
    obtain ⟨rfl, rfl⟩ := h6
    rcases h7 with rfl | ⟨b, o, rfl, h8, h9⟩
    · simp at h2; omega
    · obtain ⟨vs, h10, h11⟩ := RepE_cells1 h4 h9
      exact RepT_iptr.2 ⟨b, o, vs.take n, rfl, h8, cellsAt_take h10, RepL_take n h11⟩
  simp only [s2aQ]
  split
  · exact fin Frz.nil fun S' hS' => RepC.mono (fun b hb => ⟨hS'.1 b hb, rfl⟩) _ _ ((Rep_leaf rfl).1 (RepT_d.1 hx))
  · rename_i s xs
    refine fin Frz.nil fun S' hS' => ?_
    obtain ⟨a, h3, h4⟩ := RepT_cut.1 hx
    unfold RepC
    refine ⟨a, _, by rw [h3], Nat.le_refl _, ?_⟩
    rcases h4 with h4 | ⟨b, o, h5, h6, h7⟩
    · exact Or.inl h4
    · exact Or.inr ⟨b, o, h5, hS'.1 b h6, RepE.mono (fun b hb => ⟨hS'.1 b hb, rfl⟩) _ _ _ _ rfl h7⟩
  · rename_i id ver off len
    intro G hG
    simp only [Q.bind, Q.wp] at hG
    split at hG
    · rename_i b hb
      split at hG
      · rename_i o s xs
        obtain ⟨hv, hG⟩ := hG
        exact fin (Frz.row hb) (fun S' hS' => (ref_rep R (RepT_ref.1 hx) hb hv hS'.1 (fun b hbb => hS'.2 id b (by simp [Mem.get]) hbb)).2) G hG
      · exact hG.elim
    · exact hG.elim
  · intro G hG; exact hG.elim

theorem sound_aslice (R : RelM c β M N w) {t e : TypeId} {n : Nat} {x : PV} {r : List PV} {vx : Value} {lo hi : Option Value} {run : Result Next} (ht : P.underlying t = some (.array n e)) (hs : sizeT P e = some 1)
    (hx : RepT w (SS c β M w) β M N x vx) (hr : RepTL w (SS c β M w) β M N r (lo.toList ++ hi.toList))
    (hrun : ∀ v, (Instr.sliceAt t vx lo hi none).run P w = .ok v w → run = .ok (.value v) w) : Sound c β M N site w (asliceQ n lo.isSome hi.isSome (x :: r)) run := by
  simp only [asliceQ]
  split
  · rename_i id off
    refine sound_look fun b hb => ?_
    split
    · exact sound_fail
    · rename_i o ps hne
      split
      · rename_i xs hxs
        refine sound_bound rfl hr fun l r' hl hr' => ?_
        refine sound_bound (rest := []) rfl (by simpa using hr') fun h r'' hh hr'' => ?_
        refine sound_ask fun ⟨h1, h2, h3⟩ => sound_ret ?_
        obtain ⟨_, _, hpt⟩ := RepT_ptr.1 hx
        obtain ⟨bb, h4, rfl⟩ := hpt _ _ hb
        have hrv := hrun _ (by
          simp only [Instr.sliceAt, underlying, Sem.run_bind, run_program, Result.andThen_ok, ht, Sem.run_pure, Instr.sureAddr, run_sliceBounds (P := P) (w := w) (isS := false) (g := false) (mx := none) (m := h) hl hh (Or.inl ⟨rfl, rfl, rfl⟩) h1 rfl h2 (by simp), run_sizeOf hs]
          rfl)
        obtain ⟨b', cs, T, fr, h5, h6, _, _, h7⟩ := R.mem id _ hb
        rw [h4] at h5; simp only [Option.some.injEq] at h5; subst h5
        have hps := allD_some hxs
        have hbor : (Blk.var o ps).bor = false := by cases o <;> first | rfl | exact (hne rfl).elim
        have hf : Frz c β M w [(id, .var .ro ps)] [(id, .var .ro ps)] := by
          intro i blk hg
          simp only [Mem.get] at hg; split at hg
          · rename_i he; subst he
            simp only [Option.some.injEq] at hg; subst hg
            refine ⟨_, hb, Or.inr ⟨o, ps, xs, rfl, hbor, by rw [hps], fun S' hS' b' cs' T' fr' hb1 hb2 => ?_⟩⟩
            rw [h4] at hb1; simp only [Option.some.injEq] at hb1; subst hb1
            rw [h6] at hb2; simp only [Option.some.injEq, Obj.cells.injEq] at hb2
            obtain ⟨rfl, _, _⟩ := hb2
            rw [hps] at h7
            exact RepL.mono (fun b hb => ⟨hS'.1 b hb, rfl⟩) _ _ (RepPL_d.1 h7)
          · simp at hg
        refine OpVal.frz R hrv hf fun hc _ => RepT_d.2 (Rep_sl.2 ?_)
        rw [hps] at h7
        have hL := RepL.mono (fun b hb => ⟨hc.1 b hb, rfl⟩) _ _ (RepPL_d.1 h7)
        have hlenL := RepL.length hL
        simp only [Array.length_toList] at hlenL
        have hlen : (dropTake (off + l) (off + h) xs).length = h - l := by rw [dropTake_length _ _ _ (by omega) (by omega)]; omega
        rw [hlen]
        refine ⟨_, n - l, rfl, by omega, ?_⟩
        by_cases he : h = l
        · left; subst he; simp [dropTake]
        · right
          refine ⟨bb, off + l * 1, by rw [if_neg (by simp; omega)]; simp [add_none], hc.2 id bb (by simp [Mem.get]) h4, ?_⟩
          have hX := RepX_one hL
          have hE := RepX_E (o := 0) h6 (by simpa using hX)
          have := RepE_dropTake (l := off + l) (h := off + h) hE (by omega)
          simpa [Nat.add_mul] using this
      · exact sound_fail
    · exact sound_fail
  · exact sound_fail
end
end Go.RW

/-! Calls of other functions. -/
namespace Go.RW

section
variable {P : Program}

/-- Arguments as they stand when a call begins; the blocks that the callee may write, in order. -/
def ArgsRep (w : World) (K : Nat → Prop) : List AP → List Value → List Nat → Prop
  | [], vs, bs => vs = [] ∧ bs = []
  | .d x :: aps, vs, bs => ∃ v r, vs = v :: r ∧ Rep w K x v ∧ ArgsRep w K aps r bs
  | .p xs :: aps, vs, bs => ∃ b r bs' cs T fr, vs = .pointer (some ⟨b, 0, none⟩) :: r ∧ bs = b :: bs' ∧ w.heap[b]? = some (.cells cs T fr) ∧ Unfr cs.size fr ∧ RepL w K xs cs.toList ∧ ArgsRep w K aps r bs'
  | .ip xs :: aps, vs, bs => ∃ b o us r, vs = .pointer (some ⟨b, o, none⟩) :: r ∧ K b ∧ cellsAt w b o us ∧ RepL w K xs us ∧ ArgsRep w K aps r bs

/-- What the callee leaves in the blocks that it may write. -/
def OutsRep (w : World) (S : Nat → Prop) : List (List D) → List Nat → Prop
  | [], bs => bs = []
  | xs :: outs, bs => ∃ b bs' cs T fr, bs = b :: bs' ∧ w.heap[b]? = some (.cells cs T fr) ∧ Unfr cs.size fr ∧ RepL w S xs cs.toList ∧ OutsRep w S outs bs'

def mf (mr : Mem Blk) : MF := fun i => mr.get i

structure RetRep (c : Cx) (w' : World) (outs : List (List D)) (r : PV) (mr : Mem Blk) (v : Value) (β : Nat → Option Nat) : Prop where
  rel : RelM c β (mf mr) 0 w'
  val : RepT w' (SS c β (mf mr) w') β (mf mr) 0 r v
  outs : OutsRep w' (SS c β (mf mr) w') outs c.bor

/-- A function is entered, or a stand-in answers at once. -/
def CallsOp (P : Program) (f : FuncId) (args : Array Value) (w : World) (R : Ending → World → Prop) : Prop :=
  ((callFunc f args).run P w = .ok (.enter f args) w ∧ Calls P f args w R) ∨ (∃ v w', (callFunc f args).run P w = .ok (.value v) w' ∧ R (.returned v) w')
theorem CallsOp.mono {f : FuncId} {args : Array Value} {w : World} {R R' : Ending → World → Prop} (h : CallsOp P f args w R) (hr : ∀ e w', R e w' → R' e w') : CallsOp P f args w R' := by
  rcases h with ⟨h1, h2⟩ | ⟨v, w', h1, h2⟩
  · exact Or.inl ⟨h1, h2.mono hr⟩
  · exact Or.inr ⟨v, w', h1, hr _ _ h2⟩

/-- What a function comes to. -/
def CallOK (P : Program) (f : FuncId) (aps : List AP) (outs : List (List D)) (r : PV) (mr : Mem Blk) : Prop :=
  (∀ x ∈ mr, x.1 < 64 ∧ x.2.bor = false) ∧
  ∀ (w : World) (K : Nat → Prop) (vs : List Value) (bs : List Nat), ArgsRep w K aps vs bs → bs.Nodup → (∀ b, K b → b < w.heap.size ∧ b ∉ bs) →
    CallsOp P f vs.toArray w fun e w' => ∃ v β, e = .returned v ∧ RetRep ⟨w, K, bs⟩ w' outs r mr v β

/-! ### numbers anew -/
structure Rn (w : World) (S S' : Nat → Prop) (β β' : Nat → Option Nat) (M M' : MF) (N N' : Nat) (ρ : Nat → Nat) : Prop where
  hS : ∀ b, S b → S' b
  hM : ∀ id blk, M id = some blk → M' (ρ id) = some (blk.ren ρ) ∧ β' (ρ id) = β id
  hN : N = 0

section ren
variable {w : World} {S S' : Nat → Prop} {β β' : Nat → Option Nat} {M M' : MF} {N N' : Nat} {ρ : Nat → Nat}
theorem renL_get (ps : List PV) (i : Nat) : (PV.renL ρ ps)[i]? = (ps[i]?).map (PV.ren ρ) := by
  induction ps generalizing i with
  | nil => simp [PV.renL]
  | cons p ps ih => cases i <;> simp [PV.renL, ih]
theorem renL_length (ps : List PV) : (PV.renL ρ ps).length = ps.length := by
  induction ps with
  | nil => rfl
  | cons p ps ih => simp [PV.renL, ih]
theorem ren_row {blk : Blk} {o : Bool} {sz : Nat} {xs : List D} (h : blk.ren ρ = .row o sz xs) : blk = .row o sz xs := by
  cases blk <;> simp_all [Blk.ren]
theorem ren_var {blk : Blk} {o : Ow} {ps : List PV} (h : blk.ren ρ = .var o ps) : ∃ qs, blk = .var o qs := by
  cases blk <;> simp_all [Blk.ren]
theorem Rn.known (h : Rn w S S' β β' M M' N N' ρ) {id : Nat} (k : known M N id) : (∃ blk, M id = some blk) := by
  rcases k with k | k
  · rw [h.hN] at k; omega
  · exact Option.isSome_iff_exists.1 k
theorem RepP_ren (h : Rn w S S' β β' M M' N N' ρ) : ∀ {p : PV} {v : Value}, RepP w S β M N p v → RepP w S' β' M' N' (p.ren ρ) v
  | .d x, v, r => ⟨r.1, RepC.mono (fun b hb => ⟨h.hS b hb, rfl⟩) x _ r.2⟩
  | .nil _, _, r => r
  | .any, _, _ => trivial
  | .ref id ver off len, v, ⟨r0, r1, r2⟩ => by
    obtain ⟨blk, hb⟩ := h.known r1
    obtain ⟨h1, h2⟩ := h.hM _ _ hb
    refine ⟨r0, Or.inr (by simp [h1]), fun o sz xs hm => ?_⟩
    rw [h1] at hm; simp only [Option.some.injEq] at hm
    rw [ren_row hm] at hb
    rw [h2]; exact r2 o sz xs hb
  | .cut sz xs, v, ⟨a, r1, r2⟩ => by
    refine ⟨a, r1, ?_⟩
    rcases r2 with r2 | ⟨b, o, r3, r4, r5⟩
    · exact Or.inl r2
    · exact Or.inr ⟨b, o, r3, h.hS b r4, RepE.mono (fun b hb => ⟨h.hS b hb, rfl⟩) sz b o xs rfl r5⟩
  | .ptr id off, v, ⟨r0, r1, r2⟩ => by
    obtain ⟨blk, hb⟩ := h.known r1
    obtain ⟨h1, h2⟩ := h.hM _ _ hb
    refine ⟨r0, Or.inr (by simp [h1]), fun o ps hm => ?_⟩
    rw [h1] at hm; simp only [Option.some.injEq] at hm
    obtain ⟨qs, hq⟩ := ren_var hm
    rw [hq] at hb
    rw [h2]; exact r2 o qs hb
  | .rptr id ver i off, v, ⟨r0, r1, r2⟩ => by
    obtain ⟨blk, hb⟩ := h.known r1
    obtain ⟨h1, h2⟩ := h.hM _ _ hb
    refine ⟨r0, Or.inr (by simp [h1]), fun o sz xs hm => ?_⟩
    rw [h1] at hm; simp only [Option.some.injEq] at hm
    rw [ren_row hm] at hb
    rw [h2]; exact r2 o sz xs hb
  | .iptr xs, v, ⟨b, o, vs, r1, r2, r3, r4⟩ => ⟨b, o, vs, r1, h.hS b r2, r3, RepL.mono (fun b hb => ⟨h.hS b hb, rfl⟩) xs vs r4⟩
  | .agg _, _, r => r.elim
  | .tup _, _, r => r.elim
  | .clo f ps, v, ⟨vs, r1, r2, r3⟩ => by
    refine ⟨vs, r1, by rw [renL_length]; exact r2, fun i id off hp => ?_⟩
    rw [renL_get, Option.map_eq_some_iff] at hp
    obtain ⟨q, hq, hr⟩ := hp
    cases q <;> simp [PV.ren] at hr
    rename_i id' off'
    obtain ⟨rfl, rfl⟩ := hr
    obtain ⟨r4, r7, r5, r6⟩ := r3 i id' off' hq
    obtain ⟨blk, hb⟩ := h.known r5
    obtain ⟨h1, h2⟩ := h.hM _ _ hb
    refine ⟨r4, r7, Or.inr (by simp [h1]), fun o ps' hm => ?_⟩
    rw [h1] at hm; simp only [Option.some.injEq] at hm
    obtain ⟨qs, hq'⟩ := ren_var hm
    rw [hq'] at hb
    rw [h2]; exact r6 o qs hb
theorem RepPL_ren (h : Rn w S S' β β' M M' N N' ρ) : ∀ {ps : List PV} {vs : List Value}, RepPL w S β M N ps vs → RepPL w S' β' M' N' (PV.renL ρ ps) vs
  | [], _, r => r
  | _ :: _, _, ⟨v, r, r1, r2, r3⟩ => ⟨v, r, r1, RepP_ren h r2, RepPL_ren h r3⟩
mutual
theorem RepT_ren (h : Rn w S S' β β' M M' N N' ρ) : ∀ {p : PV} {v : Value}, RepT w S β M N p v → RepT w S' β' M' N' (p.ren ρ) v
  | .d x, v, r => by unfold RepT PV.ren at *; exact Rep.mono (fun b hb => ⟨h.hS b hb, rfl⟩) r
  | .agg ps, v, r => by unfold RepT PV.ren at *; obtain ⟨vs, r1, r2⟩ := r; exact ⟨vs, r1, RepPL_ren h r2⟩
  | .tup ps, v, r => by unfold RepT PV.ren at *; obtain ⟨vs, r1, r2⟩ := r; exact ⟨vs, r1, RepTL_ren h r2⟩
  | .nil _, _, r => by unfold RepT PV.ren at *; exact r
  | .any, _, r => by unfold PV.ren; exact RepT_any
  | .ref .., _, r => by unfold RepT PV.ren at *; exact RepP_ren h (p := .ref ..) r
  | .cut .., _, r => by unfold RepT PV.ren at *; exact RepP_ren h (p := .cut ..) r
  | .ptr .., _, r => by unfold RepT PV.ren at *; exact RepP_ren h (p := .ptr ..) r
  | .rptr .., _, r => by unfold RepT PV.ren at *; exact RepP_ren h (p := .rptr ..) r
  | .iptr .., _, r => by unfold RepT PV.ren at *; exact RepP_ren h (p := .iptr ..) r
  | .clo .., _, r => by unfold RepT PV.ren at *; exact RepP_ren h (p := .clo ..) r
theorem RepTL_ren (h : Rn w S S' β β' M M' N N' ρ) : ∀ {ps : List PV} {vs : List Value}, RepTL w S β M N ps vs → RepTL w S' β' M' N' (PV.renL ρ ps) vs
  | [], _, r => by unfold RepTL PV.renL at *; exact r
  | _ :: _, _, r => by
    unfold PV.renL
    unfold RepTL at *
    obtain ⟨v, r, r1, r2, r3⟩ := r
    exact ⟨v, r, r1, RepT_ren h r2, RepTL_ren h r3⟩
end

/-! ### what leads to no memory -/
mutual
theorem RepC_flat : ∀ {x : D} {vs : List Value}, x.flat = true → RepC w S x vs → RepC w S' x vs
  | .int _ _, _, _, h => h
  | .bool _, _, _, h => h
  | .str _, _, _, h => h
  | .agg xs, vs, hf, h => by unfold RepC at *; exact RepL_flat (by simpa [D.flat] using hf) h
  | .sl _ _, _, hf, _ => by simp [D.flat] at hf
  | .nilp, _, hf, _ => by simp [D.flat] at hf
  | .fn _ _, _, hf, _ => by simp [D.flat] at hf
  | .iface _ _, _, hf, _ => by simp [D.flat] at hf
  | .nili, _, hf, _ => by simp [D.flat] at hf
theorem RepL_flat : ∀ {xs : List D} {vs : List Value}, D.flatL xs = true → RepL w S xs vs → RepL w S' xs vs
  | [], _, _, h => h
  | x :: xs, vs, hf, h => by
    simp only [D.flatL, Bool.and_eq_true] at hf
    unfold RepL at *
    obtain ⟨v, r, h1, h0, h2, h3⟩ := h
    exact ⟨v, r, h1, h0, RepC_flat hf.1 h2, RepL_flat hf.2 h3⟩
end
theorem RepP_flat : ∀ {p : PV} {v : Value}, p.flat = true → RepP w S β M N p v → RepP w S' β' M' N' p v
  | .d x, v, hf, r => ⟨r.1, RepC_flat (by simpa [PV.flat] using hf) r.2⟩
  | .any, _, _, _ => trivial
  | .nil _, _, hf, _ => by simp [PV.flat] at hf
  | .ref .., _, hf, _ => by simp [PV.flat] at hf
  | .cut .., _, hf, _ => by simp [PV.flat] at hf
  | .ptr .., _, hf, _ => by simp [PV.flat] at hf
  | .rptr .., _, hf, _ => by simp [PV.flat] at hf
  | .iptr .., _, hf, _ => by simp [PV.flat] at hf
  | .clo .., _, hf, _ => by simp [PV.flat] at hf
  | .agg _, _, _, r => r.elim
  | .tup _, _, _, r => r.elim
theorem RepPL_flat : ∀ {ps : List PV} {vs : List Value}, PV.flatL ps = true → RepPL w S β M N ps vs → RepPL w S' β' M' N' ps vs
  | [], _, _, r => r
  | p :: ps, _, hf, ⟨v, r, r1, r2, r3⟩ => by
    simp only [PV.flatL, Bool.and_eq_true] at hf
    exact ⟨v, r, r1, RepP_flat hf.1 r2, RepPL_flat hf.2 r3⟩
mutual
theorem RepT_flat : ∀ {p : PV} {v : Value}, p.flat = true → RepT w S β M N p v → RepT w S' β' M' N' p v
  | .d x, v, hf, r => by unfold RepT at *; exact ⟨RepC_flat (by simpa [PV.flat] using hf) r.1, r.2⟩
  | .agg ps, v, hf, r => by unfold RepT at *; obtain ⟨vs, r1, r2⟩ := r; exact ⟨vs, r1, RepPL_flat (by simpa [PV.flat] using hf) r2⟩
  | .tup ps, v, hf, r => by unfold RepT at *; obtain ⟨vs, r1, r2⟩ := r; exact ⟨vs, r1, RepTL_flat (by simpa [PV.flat] using hf) r2⟩
  | .any, _, _, _ => RepT_any
  | .nil _, _, hf, _ => by simp [PV.flat] at hf
  | .ref .., _, hf, _ => by simp [PV.flat] at hf
  | .cut .., _, hf, _ => by simp [PV.flat] at hf
  | .ptr .., _, hf, _ => by simp [PV.flat] at hf
  | .rptr .., _, hf, _ => by simp [PV.flat] at hf
  | .iptr .., _, hf, _ => by simp [PV.flat] at hf
  | .clo .., _, hf, _ => by simp [PV.flat] at hf
theorem RepTL_flat : ∀ {ps : List PV} {vs : List Value}, PV.flatL ps = true → RepTL w S β M N ps vs → RepTL w S' β' M' N' ps vs
  | [], _, _, r => by unfold RepTL at *; exact r
  | p :: ps, _, hf, r => by
    simp only [PV.flatL, Bool.and_eq_true] at hf
    unfold RepTL at *
    obtain ⟨v, r, r1, r2, r3⟩ := r
    exact ⟨v, r, r1, RepT_flat hf.1 r2, RepTL_flat hf.2 r3⟩
end
end ren
end
end Go.RW

/-! What a call leaves. -/
namespace Go.RW

section
variable {P : Program} {c : Cx} {β : Nat → Option Nat} {M : MF} {N site : Nat} {w : World}

/-- The world has grown, and nothing that was there has changed. -/
theorem RelM.grow (R : RelM c β M N w) {w' : World} (ho : w'.os = w.os) (ht : w'.tape = w.tape) (hout : w'.output = w.output) (hs : w.heap.size ≤ w'.heap.size) (hb : ∀ b, b < w.heap.size → w'.heap[b]? = w.heap[b]?) :
    RelM c β M N w' ∧ Later w w' (SS c β M w) (SS c β M w') β β M M N N := by
  have hS : ∀ b, SS c β M w b → SS c β M w' b ∧ w'.heap[b]? = w.heap[b]? := fun b h => ⟨⟨Nat.lt_of_lt_of_le h.1 hs, h.2⟩, hb b h.1⟩
  have hL : Later w w' (SS c β M w) (SS c β M w') β β M M N N :=
    ⟨hS, Nat.le_refl _, fun _ h => h, fun id o sz xs hm _ => ⟨o, xs, hm, Nat.le_refl _, fun _ => ⟨rfl, fun b h => bsz_of (hb b (R.ok id _ b hm h).1)⟩⟩, fun id o ps hm _ => ⟨o, ps, hm, rfl⟩⟩
  refine ⟨⟨⟨ho.trans R.keep.os, ht.trans R.keep.tape, hout.trans R.keep.output, Nat.le_trans R.keep.size hs, fun b h1 h2 => ?_⟩, R.cK, R.cB, fun id blk hm => ?_, R.inj, fun id blk b hm h => ?_⟩, hL⟩
  · have := R.keep.size
    rw [hb b (by omega)]; exact R.keep.block b h1 h2
  · have hr := R.mem id blk hm
    cases blk with
    | row o sz xs =>
      rcases hr with hr | ⟨b, cs, T, fr, h1, h2, h3, h4, h5, h6⟩
      · exact Or.inl hr
      · have he := hb b (R.ok id _ b hm h1).1
        exact Or.inr ⟨b, cs, T, fr, h1, by rw [he]; exact h2, h3, h4, fun h => (hS b (h5 h)).1, RepE.mono hS _ _ _ _ he h6⟩
    | var o ps =>
      obtain ⟨b, cs, T, fr, h1, h2, h3, h4, h5⟩ := hr
      exact ⟨b, cs, T, fr, h1, by rw [hb b (R.ok id _ b hm h1).1]; exact h2, h3, fun h => (hS b (h4 h)).1, h5.later hL⟩
    | dead => exact hr
  · obtain ⟨h1, h2⟩ := R.ok id blk b hm h
    exact ⟨Nat.lt_of_lt_of_le h1 hs, h2⟩

theorem get_shift (mr : Mem Blk) (s : Nat) (f : Blk → Blk) (id : Nat) : Mem.get (mr.map fun x => (x.1 + s, f x.2)) id = if s ≤ id then (Mem.get mr (id - s)).map f else none := by
  induction mr with
  | nil => simp [Mem.get]
  | cons x mr ih =>
    simp only [List.map_cons, Mem.get, ih]
    by_cases h : x.1 + s = id
    · subst h; simp
    · rw [if_neg h]
      by_cases h2 : s ≤ id
      · rw [if_pos h2, if_pos h2, if_neg (show ¬ x.1 = id - s by omega)]
      · rw [if_neg h2, if_neg h2]

theorem Mem.get_mem {α : Type} {m : Mem α} {i : Nat} {a : α} (h : m.get i = some a) : (i, a) ∈ m := by
  induction m with
  | nil => simp [Mem.get] at h
  | cons x m ih =>
    simp only [Mem.get] at h
    split at h
    · rename_i he; simp only [Option.some.injEq] at h; subst he; subst h; simp
    · exact List.mem_cons_of_mem _ (ih h)

def outBlks (ids : List (Nat × Ow)) (outs : List (List D)) : Mem Blk := (ids.zip outs).map fun x => (x.1.1, .var x.1.2 (x.2.map .d))

theorem outs_get {w' : World} {S : Nat → Prop} : ∀ {ids : List (Nat × Ow)} {outs : List (List D)} {bs : List Nat}, ids.map (fun x => β x.1) = bs.map some → OutsRep w' S outs bs →
    (∀ id blk, (outBlks ids outs).get id = some blk → ∃ o xs b cs T fr, (id, o) ∈ ids ∧ blk = .var o (xs.map .d) ∧ β id = some b ∧ b ∈ bs ∧ w'.heap[b]? = some (.cells cs T fr) ∧ Unfr cs.size fr ∧ RepL w' S xs cs.toList) ∧
    ∀ b, b ∈ bs → ∃ id, β id = some b ∧ ((outBlks ids outs).get id).isSome
  | [], outs, bs, h, ho => by
    have : bs = [] := by simpa using h.symm
    subst this
    exact ⟨fun id blk h => by simp [outBlks, Mem.get] at h, fun b h => by simp at h⟩
  | (i, o) :: ids, outs, bs, h, ho => by
    cases outs with
    | nil => simp only [OutsRep] at ho; subst ho; simp at h
    | cons xs outs =>
      obtain ⟨b, bs', cs, T, fr, rfl, h1, h2, h3, h4⟩ := ho
      simp only [List.map_cons, List.cons.injEq] at h
      obtain ⟨h5, h6⟩ := h
      obtain ⟨h7, h8⟩ := outs_get h6 h4
      refine ⟨fun id blk hg => ?_, fun b' hb' => ?_⟩
      · simp only [outBlks, List.zip_cons_cons, List.map_cons, Mem.get] at hg
        split at hg
        · rename_i he; simp only [Option.some.injEq] at hg; subst he; subst hg
          exact ⟨o, xs, b, cs, T, fr, by simp, rfl, h5, by simp, h1, h2, h3⟩
        · obtain ⟨o', xs', b', cs', T', fr', q1, q2, q3, q4, q5⟩ := h7 id blk hg
          exact ⟨o', xs', b', cs', T', fr', by simp [q1], q2, q3, by simp [q4], q5⟩
      · rcases List.mem_cons.1 hb' with rfl | hb'
        · exact ⟨i, h5, by simp [outBlks, Mem.get]⟩
        · obtain ⟨id, q1, q2⟩ := h8 b' hb'
          refine ⟨id, q1, ?_⟩
          simp only [outBlks, List.zip_cons_cons, List.map_cons, Mem.get]
          split
          · rfl
          · exact q2

theorem merge (R : RelM c β M N w) {w' : World} {βc : Nat → Option Nat} {mr : Mem Blk} {bs : List Nat} {ids : List (Nat × Ow)} {outs : List (List D)} (R' : RelM ⟨w, SS c β M w, bs⟩ βc (mf mr) 0 w')
    (hsite : ∀ i, site ≤ i → i < site + 64 → M i = none) (hN : N ≤ site) (hmr : ∀ x ∈ mr, x.1 < 64 ∧ x.2.bor = false)
    (hids : ids.map (fun x => β x.1) = bs.map some) (hvar : ∀ x ∈ ids, ∃ ps, M x.1 = some (.var x.2 ps) ∧ x.2.w = true)
    (ho : OutsRep w' (SS ⟨w, SS c β M w, bs⟩ βc (mf mr) w') outs bs) :
    ∃ β2, RelM c β2 (over ((mr.map fun x => (x.1 + site, x.2.ren (· + site))) ++ outBlks ids outs) M) N w' ∧
      Later w w' (SS c β M w) (SS c β2 (over ((mr.map fun x => (x.1 + site, x.2.ren (· + site))) ++ outBlks ids outs) M) w') β β2 M (over ((mr.map fun x => (x.1 + site, x.2.ren (· + site))) ++ outBlks ids outs) M) N N ∧
      Rn w' (SS ⟨w, SS c β M w, bs⟩ βc (mf mr) w') (SS c β2 (over ((mr.map fun x => (x.1 + site, x.2.ren (· + site))) ++ outBlks ids outs) M) w') βc β2 (mf mr) (over ((mr.map fun x => (x.1 + site, x.2.ren (· + site))) ++ outBlks ids outs) M) 0 N (· + site) := by
  generalize hM2 : over ((mr.map fun x => (x.1 + site, x.2.ren (· + site))) ++ outBlks ids outs) M = M2
  obtain ⟨hout1, hout2⟩ := outs_get hids ho
  have hmrlt : ∀ x blk, mf mr x = some blk → x < 64 ∧ blk.bor = false := fun x blk h => hmr _ (Mem.get_mem h)
  -- the memory after the call
  have hsh : ∀ x blk, mf mr x = some blk → M2 (x + site) = some (blk.ren (· + site)) := by
    intro x blk h
    rw [← hM2]; unfold over
    rw [Mem.get_append, get_shift, if_pos (by omega), Nat.add_sub_cancel, show Mem.get mr x = some blk from h]
    rfl
  have hrest : ∀ id, ¬ (site ≤ id ∧ (mf mr (id - site)).isSome) → M2 id = match (outBlks ids outs).get id with | some b => some b | none => M id := by
    intro id h
    rw [← hM2]; unfold over
    rw [Mem.get_append, get_shift]
    have : (if site ≤ id then Option.map (Blk.ren fun x => x + site) (Mem.get mr (id - site)) else none) = none := by
      split
      · rename_i h1
        cases hq : Mem.get mr (id - site) with
        | none => rfl
        | some b => exact absurd ⟨h1, by simp [mf, hq]⟩ h
      · rfl
    rw [this]
    cases (outBlks ids outs).get id <;> rfl
  have hM2cases : ∀ id blk, M2 id = some blk → (∃ x b0, id = x + site ∧ mf mr x = some b0 ∧ blk = b0.ren (· + site)) ∨
      (¬ (site ≤ id ∧ (mf mr (id - site)).isSome) ∧ (outBlks ids outs).get id = some blk) ∨
      (¬ (site ≤ id ∧ (mf mr (id - site)).isSome) ∧ (outBlks ids outs).get id = none ∧ M id = some blk) := by
    intro id blk h
    by_cases hc : site ≤ id ∧ (mf mr (id - site)).isSome
    · obtain ⟨b0, hb0⟩ := Option.isSome_iff_exists.1 hc.2
      have := hsh _ _ hb0
      rw [Nat.sub_add_cancel hc.1, h] at this
      simp only [Option.some.injEq] at this
      exact Or.inl ⟨id - site, b0, by omega, hb0, this⟩
    · rw [hrest id hc] at h
      split at h
      · rename_i b hb; exact Or.inr (Or.inl ⟨hc, by rw [hb]; exact h⟩)
      · rename_i hb; exact Or.inr (Or.inr ⟨hc, hb, h⟩)
  have hnew : ∀ x b0, mf mr x = some b0 → M (x + site) = none := fun x b0 h => hsite _ (by omega) (by have := (hmrlt x b0 h).1; omega)
  have hnotnew : ∀ id, (M id).isSome → ¬ (site ≤ id ∧ (mf mr (id - site)).isSome) := by
    rintro id h ⟨h1, h2⟩
    obtain ⟨b0, hb0⟩ := Option.isSome_iff_exists.1 h2
    have := hnew _ _ hb0
    rw [Nat.sub_add_cancel h1] at this
    rw [this] at h; simp at h
  have hsz := R'.keep.size
  simp only at hsz
  have hkb : ∀ b, b < w.heap.size → b ∉ bs → w'.heap[b]? = w.heap[b]? := R'.keep.block
  -- blocks of the ids
  have hidb : ∀ b, b ∈ bs → ∃ id o ps, (id, o) ∈ ids ∧ M id = some (.var o ps) ∧ o.w = true ∧ β id = some b ∧ ((outBlks ids outs).get id).isSome := by
    intro b hb
    obtain ⟨id, h1, h2⟩ := hout2 b hb
    obtain ⟨blk, h3⟩ := Option.isSome_iff_exists.1 h2
    obtain ⟨o, xs, b', cs, T, fr, h4, h5, h6, _⟩ := hout1 id blk h3
    obtain ⟨ps, h7, h8⟩ := hvar _ h4
    exact ⟨id, o, ps, h4, h7, h8, h1, h2⟩
  have hSbs : ∀ b, SS c β M w b → b ∉ bs := by
    intro b h hb
    obtain ⟨id, o, ps, _, h1, h2, h3, _⟩ := hidb b hb
    exact h.2.2 ⟨id, _, h1, h2, h3⟩
  let β2 : Nat → Option Nat := fun id => if site ≤ id ∧ (mf mr (id - site)).isSome then βc (id - site) else β id
  have hβnew : ∀ x b0, mf mr x = some b0 → β2 (x + site) = βc x := by
    intro x b0 h
    show (if _ then _ else _) = _
    rw [if_pos ⟨by omega, by rw [Nat.add_sub_cancel, h]; rfl⟩, Nat.add_sub_cancel]
  have hβold : ∀ id, ¬ (site ≤ id ∧ (mf mr (id - site)).isSome) → β2 id = β id := fun id h => if_neg h
  have hnewb : ∀ x b0 b, mf mr x = some b0 → βc x = some b → w.heap.size ≤ b ∧ b < w'.heap.size := by
    intro x b0 b h1 h2
    obtain ⟨h3, h4⟩ := R'.ok x b0 b h1 h2
    rw [(hmrlt x b0 h1).2] at h4
    exact ⟨by simpa using h4, h3⟩
  have holdb : ∀ id b, (M id).isSome → β id = some b → b < w.heap.size := by
    intro id b h1 h2
    obtain ⟨b0, h3⟩ := Option.isSome_iff_exists.1 h1
    exact (R.ok id b0 b h3 h2).1
  have hMof : ∀ id blk, ¬ (site ≤ id ∧ (mf mr (id - site)).isSome) → M2 id = some blk → (M id).isSome := by
    intro id blk h1 h2
    rw [hrest id h1] at h2
    split at h2
    · rename_i b hb
      obtain ⟨o, xs, b', cs, T, fr, h4, _⟩ := hout1 id b hb
      obtain ⟨ps, h7, _⟩ := hvar _ h4
      simp [h7]
    · simp [h2]
  have hownof : ∀ b, Own β2 M2 b → Own β M b ∨ ∃ x b0, mf mr x = some b0 ∧ b0.own = true ∧ βc x = some b := by
    rintro b ⟨id, blk, h1, h2, h3⟩
    rcases hM2cases id blk h1 with ⟨x, b0, rfl, h4, rfl⟩ | ⟨h4, h5⟩ | ⟨h4, _, h5⟩
    · right
      rw [hβnew x b0 h4] at h3
      exact ⟨x, b0, h4, by cases b0 <;> first | exact h2 | simpa [Blk.ren, Blk.own] using h2, h3⟩
    · left
      obtain ⟨o, xs, b', cs, T, fr, h6, rfl, h7, _⟩ := hout1 id blk h5
      obtain ⟨ps, h8, h9⟩ := hvar _ h6
      rw [hβold id h4] at h3
      exact ⟨id, _, h8, h9, h3⟩
    · left
      rw [hβold id h4] at h3
      exact ⟨id, blk, h5, h2, h3⟩
  have hS1 : ∀ b, SS c β M w b → SS c β2 M2 w' b ∧ w'.heap[b]? = w.heap[b]? := by
    intro b h
    refine ⟨⟨by have := h.1; omega, h.2.1, fun hown => ?_⟩, hkb b h.1 (hSbs b h)⟩
    rcases hownof b hown with h1 | ⟨x, b0, h1, _, h2⟩
    · exact h.2.2 h1
    · have := hnewb x b0 b h1 h2; have := h.1; omega
  have hS2 : ∀ b, SS ⟨w, SS c β M w, bs⟩ βc (mf mr) w' b → SS c β2 M2 w' b := by
    rintro b ⟨h1, h2, h3⟩
    rcases h2 with h2 | h2
    · exact (hS1 b h2).1
    · simp only at h2
      refine ⟨h1, Or.inr (Nat.le_trans R.keep.size h2), fun hown => ?_⟩
      rcases hownof b hown with ⟨id, blk, h4, _, h5⟩ | ⟨x, b0, h4, h5, h6⟩
      · have := holdb id b (by simp [h4]) h5; omega
      · exact h3 ⟨x, b0, h4, h5, h6⟩
  have hRn : Rn w' (SS ⟨w, SS c β M w, bs⟩ βc (mf mr) w') (SS c β2 M2 w') βc β2 (mf mr) M2 0 N (· + site) :=
    ⟨hS2, fun id blk h => ⟨hsh id blk h, hβnew id blk h⟩, rfl⟩
  have hother : ∀ id b, (M id).isSome → (outBlks ids outs).get id = none → β id = some b → w'.heap[b]? = w.heap[b]? := by
    intro id b h1 h2 h3
    refine hkb b (holdb id b h1 h3) fun hb => ?_
    obtain ⟨id', o, ps, _, h5, _, h6, h7⟩ := hidb b hb
    have := R.inj id id' b h1 (by simp [h5]) h3 h6
    subst this
    rw [h2] at h7; simp at h7
  have hL : Later w w' (SS c β M w) (SS c β2 M2 w') β β2 M M2 N N := by
    refine ⟨hS1, Nat.le_refl _, fun id h => ?_, fun id o sz xs hm hk => ?_, fun id o ps hm hk => ?_⟩
    · rw [hrest id (hnotnew id h)]
      split
      · rfl
      · exact h
    · rcases hM2cases id _ hm with ⟨x, b0, rfl, h4, h5⟩ | ⟨h4, h5⟩ | ⟨h4, h6, h5⟩
      · rcases hk with hk | hk
        · omega
        · rw [hnew x b0 h4] at hk; simp at hk
      · obtain ⟨_, _, _, _, _, _, _, h6, _⟩ := hout1 id _ h5
        simp at h6
      · exact ⟨o, xs, h5, Nat.le_refl _, fun _ => ⟨hβold id h4, fun b hb => bsz_of (hother id b (by simp [h5]) h6 hb)⟩⟩
    · rcases hM2cases id _ hm with ⟨x, b0, rfl, h4, h5⟩ | ⟨h4, h5⟩ | ⟨h4, h6, h5⟩
      · rcases hk with hk | hk
        · omega
        · rw [hnew x b0 h4] at hk; simp at hk
      · obtain ⟨o', xs, b', cs, T, fr, h6, h7, _⟩ := hout1 id _ h5
        simp only [Blk.var.injEq] at h7
        obtain ⟨ps', h8, _⟩ := hvar _ h6
        exact ⟨o', ps', h8, hβold id h4⟩
      · exact ⟨o, ps, h5, hβold id h4⟩
  refine ⟨β2, ⟨⟨R'.keep.os.trans R.keep.os, R'.keep.tape.trans R.keep.tape, R'.keep.output.trans R.keep.output, Nat.le_trans R.keep.size hsz, fun b h1 h2 => ?_⟩, R.cK, R.cB, fun id blk hm => ?_, fun id id' b h1 h2 h3 h4 => ?_, fun id blk b hm hb => ?_⟩, hL, hRn⟩
  · have := R.keep.size
    rw [hkb b (by omega) fun hb => ?_]
    · exact R.keep.block b h1 h2
    · obtain ⟨id, o, ps, _, h3, h4, h5, _⟩ := hidb b hb
      obtain ⟨_, h6⟩ := R.ok id _ b h3 h5
      split at h6
      · exact h2 (List.mem_of_getElem? h6)
      · omega
  · rcases hM2cases id blk hm with ⟨x, b0, rfl, h4, rfl⟩ | ⟨h4, h5⟩ | ⟨h4, h6, h5⟩
    · have hr := R'.mem x b0 h4
      cases b0 with
      | row o sz xs =>
        rcases hr with ⟨h5, h6⟩ | ⟨b, cs, T, fr, h5, h6, h7, h8, h9, h10⟩
        · exact Or.inl ⟨by rw [hβnew x _ h4]; exact h5, h6⟩
        · exact Or.inr ⟨b, cs, T, fr, by rw [hβnew x _ h4]; exact h5, h6, h7, h8, fun h => hS2 b (h9 h), RepE.mono (fun b hb => ⟨hS2 b hb, rfl⟩) _ _ _ _ rfl h10⟩
      | var o ps =>
        obtain ⟨b, cs, T, fr, h5, h6, h7, h8, h9⟩ := hr
        exact ⟨b, cs, T, fr, by rw [hβnew x _ h4]; exact h5, h6, h7, fun h => hS2 b (h8 h), RepPL_ren hRn h9⟩
      | dead => show β2 _ = none; rw [hβnew x _ h4]; exact hr
    · obtain ⟨o, xs, b, cs, T, fr, h6, rfl, h7, h8, h9, h10, h11⟩ := hout1 id blk h5
      obtain ⟨ps, h12, h13⟩ := hvar _ h6
      refine ⟨b, cs, T, fr, by rw [hβold id h4]; exact h7, h9, h10, fun h => by simp only at h13; rw [h13] at h; simp at h, RepPL_d.2 (RepL.mono (fun b hb => ⟨hS2 b hb, rfl⟩) _ _ h11)⟩
    · have hr := R.mem id blk h5
      cases blk with
      | row o sz xs =>
        rcases hr with ⟨h7, h8⟩ | ⟨b, cs, T, fr, h7, h8, h9, h10, h11, h12⟩
        · exact Or.inl ⟨by rw [hβold id h4]; exact h7, h8⟩
        · have he := hother id b (by simp [h5]) h6 h7
          exact Or.inr ⟨b, cs, T, fr, by rw [hβold id h4]; exact h7, by rw [he]; exact h8, h9, h10, fun h => (hS1 b (h11 h)).1, RepE.mono hS1 _ _ _ _ he h12⟩
      | var o ps =>
        obtain ⟨b, cs, T, fr, h7, h8, h9, h10, h11⟩ := hr
        have he := hother id b (by simp [h5]) h6 h7
        exact ⟨b, cs, T, fr, by rw [hβold id h4]; exact h7, by rw [he]; exact h8, h9, fun h => (hS1 b (h10 h)).1, h11.later hL⟩
      | dead => show β2 id = none; rw [hβold id h4]; exact hr
  · by_cases hc : site ≤ id ∧ (mf mr (id - site)).isSome
    · obtain ⟨b0, hb0⟩ := Option.isSome_iff_exists.1 hc.2
      have e1 : β2 id = βc (id - site) := if_pos hc
      rw [e1] at h3
      by_cases hc' : site ≤ id' ∧ (mf mr (id' - site)).isSome
      · have e2 : β2 id' = βc (id' - site) := if_pos hc'
        rw [e2] at h4
        have := R'.inj _ _ b hc.2 hc'.2 h3 h4
        omega
      · rw [hβold id' hc'] at h4
        obtain ⟨blk', hb'⟩ := Option.isSome_iff_exists.1 h2
        have q1 := holdb id' b (hMof id' blk' hc' hb') h4
        have q2 := hnewb _ b0 b hb0 h3
        omega
    · rw [hβold id hc] at h3
      obtain ⟨blk, hb⟩ := Option.isSome_iff_exists.1 h1
      have q1 := hMof id blk hc hb
      by_cases hc' : site ≤ id' ∧ (mf mr (id' - site)).isSome
      · obtain ⟨b0, hb0⟩ := Option.isSome_iff_exists.1 hc'.2
        have e2 : β2 id' = βc (id' - site) := if_pos hc'
        rw [e2] at h4
        have q2 := holdb id b q1 h3
        have q3 := hnewb _ b0 b hb0 h4
        omega
      · rw [hβold id' hc'] at h4
        obtain ⟨blk', hb'⟩ := Option.isSome_iff_exists.1 h2
        exact R.inj id id' b q1 (hMof id' blk' hc' hb') h3 h4
  · rcases hM2cases id blk hm with ⟨x, b0, rfl, h4, rfl⟩ | ⟨h4, h5⟩ | ⟨h4, h6, h5⟩
    · rw [hβnew x _ h4] at hb
      obtain ⟨h5, h6⟩ := hnewb x b0 b h4 hb
      have : (b0.ren (· + site)).bor = false := by rw [← (hmrlt x b0 h4).2]; cases b0 with
        | var o ps => cases o <;> rfl
        | _ => rfl
      rw [this]
      exact ⟨h6, by have := R.keep.size; simp; omega⟩
    · rw [hβold id h4] at hb
      obtain ⟨o, xs, b', cs, T, fr, h6, rfl, h7, h8, _⟩ := hout1 id blk h5
      obtain ⟨ps, h12, _⟩ := hvar _ h6
      obtain ⟨h13, h14⟩ := R.ok id _ b h12 hb
      refine ⟨by omega, ?_⟩
      have : (Blk.var o (xs.map .d)).bor = (Blk.var o ps).bor := by cases o <;> rfl
      rw [this]; exact h14
    · rw [hβold id h4] at hb
      obtain ⟨h7, h8⟩ := R.ok id blk b h5 hb
      exact ⟨by omega, h8⟩
end
end Go.RW

/-! Soundness of calls. -/
namespace Go.RW

/-- What an operation's outcome is to satisfy; a call by its contract. -/
def Res.fin (P : Program) (H : PV → Mem Blk → Prop) : Res → Prop
  | .val v u => H v u
  | .call f aps k => ∃ outs r mr, CallOK P f aps outs r mr ∧ H (k outs r mr).1 (k outs r mr).2

section
variable {P : Program} {c : Cx} {β : Nat → Option Nat} {M : MF} {N site : Nat} {w : World}

theorem argQ_sound (R : RelM c β M N w) : ∀ {ps : List PV} {vs : List Value} {G : List AP × List (Nat × Ow) × Mem Blk → Prop}, RepTL w (SS c β M w) β M N ps vs → (argQ ps).wp M G →
    ∃ r, G r ∧ Frz c β M w r.2.2 r.2.2 ∧ (∀ x ∈ r.2.1, ∃ qs, M x.1 = some (.var x.2 qs) ∧ x.2.w = true) ∧
      ∃ bs : List Nat, r.2.1.map (fun x => β x.1) = bs.map some ∧ ∀ S', FrzCond c β M w r.2.2 S' → ArgsRep w S' r.1 vs bs
  | [], vs, G, hx, hG => by
    unfold RepTL at hx
    exact ⟨_, hG, Frz.nil, by simp, [], rfl, fun S' _ => ⟨hx, rfl⟩⟩
  | p :: ps, vs, G, hx, hG => by
    unfold RepTL at hx
    obtain ⟨v, us, rfl, h1, h2⟩ := hx
    unfold argQ at hG
    rw [Q.wp_bind] at hG
    have key : ∃ r : AP × List (Nat × Ow) × Mem Blk, ((argQ ps).bind fun s => .ret (r.1 :: s.1, r.2.1 ++ s.2.1, r.2.2 ++ s.2.2)).wp M G ∧ Frz c β M w r.2.2 r.2.2 ∧ (∀ x ∈ r.2.1, ∃ qs, M x.1 = some (.var x.2 qs) ∧ x.2.w = true) ∧
        ∃ bs : List Nat, r.2.1.map (fun x => β x.1) = bs.map some ∧ ∀ S', FrzCond c β M w r.2.2 S' → ∀ aps us bs', ArgsRep w S' aps us bs' → ArgsRep w S' (r.1 :: aps) (v :: us) (bs ++ bs') := by
      split at hG
      · rename_i id
        simp only [Q.wp] at hG
        split at hG
        · rename_i b hb
          obtain ⟨_, _, hpt⟩ := RepT_ptr.1 h1
          split at hG
          · rename_i qs
            rw [Q.wp_bind] at hG
            obtain ⟨bb, h3, rfl⟩ := hpt _ _ hb
            obtain ⟨b', cs, T, fr, h4, h5, h6, h7, h8⟩ := R.mem id _ hb
            rw [h3] at h4; simp only [Option.some.injEq] at h4; subst h4
            obtain ⟨r, hr1, hr2, hr3⟩ := toDs_sound R h8 _ hG
            refine ⟨_, hr1, hr2, by simp, [], rfl, fun S' hS' aps us bs' ha => ⟨bb, 0, cs.toList, us, rfl, hS'.1 bb (h7 rfl), ?_, hr3 S' hS', ha⟩⟩
            simpa using cellsAt_blk (o := 0) h5
          · rename_i o qs hne
            rw [Q.wp_bind] at hG
            obtain ⟨bb, h3, rfl⟩ := hpt _ _ hb
            obtain ⟨b', cs, T, fr, h4, h5, h6, h7, h8⟩ := R.mem id _ hb
            rw [h3] at h4; simp only [Option.some.injEq] at h4; subst h4
            obtain ⟨r, hr1, hr2, hr3⟩ := toDs_sound R h8 _ hG
            have how : o.w = true := by cases o <;> first | rfl | exact (hne rfl).elim
            refine ⟨_, hr1, hr2, fun x hx => ?_, [bb], by simp [h3], fun S' hS' aps us bs' ha => ⟨bb, us, bs', cs, T, fr, rfl, rfl, h5, h6, hr3 S' hS', ha⟩⟩
            simp only [List.mem_singleton] at hx
            subst hx
            exact ⟨qs, hb, how⟩
          · exact hG.elim
        · exact hG.elim
      · obtain ⟨b, o, ws, rfl, h3, h4, h5⟩ := RepT_iptr.1 h1
        exact ⟨_, hG, Frz.nil, by simp, [], rfl, fun S' hS' aps us bs' ha => ⟨b, o, ws, us, rfl, hS'.1 b h3, h4, RepL.mono (fun b hb => ⟨hS'.1 b hb, rfl⟩) _ _ h5, ha⟩⟩
      · rw [Q.wp_bind] at hG
        obtain ⟨r, hr1, hr2, hr3⟩ := toD_sound R h1 _ hG
        exact ⟨_, hr1, hr2, by simp, [], rfl, fun S' hS' aps us bs' ha => ⟨v, us, rfl, hr3 S' hS', ha⟩⟩
    obtain ⟨r, hG2, hr1, hr2, bs, hr3, hr4⟩ := key
    rw [Q.wp_bind] at hG2
    obtain ⟨s, hs1, hs2, hs3, bs', hs4, hs5⟩ := argQ_sound R h2 hG2
    refine ⟨_, hs1, hr1.both hs2, fun x hx => ?_, bs ++ bs', by simp [hr3, hs4], fun S' hS' => hr4 S' (hS'.sub isSome_append_left) _ _ _ (hs5 S' (hS'.sub isSome_append_right))⟩
    rcases List.mem_append.1 hx with hx | hx
    · exact hr2 x hx
    · exact hs3 x hx

theorem nodup_blocks (R : RelM c β M N w) : ∀ {ids : List (Nat × Ow)} {bs : List Nat}, ids.map (fun x => β x.1) = bs.map some → (ids.map (·.1)).Nodup → (∀ x ∈ ids, (M x.1).isSome) → bs.Nodup
  | [], bs, h, _, _ => by
    have : bs = [] := by simpa using h.symm
    subst this; simp
  | x :: ids, bs, h, hn, hm => by
    cases bs with
    | nil => simp at h
    | cons b bs =>
      simp only [List.map_cons, List.cons.injEq] at h
      simp only [List.map_cons, List.nodup_cons] at hn
      refine List.nodup_cons.2 ⟨fun hb => ?_, nodup_blocks R h.2 hn.2 fun y hy => hm y (by simp [hy])⟩
      have : some b ∈ ids.map (fun x => β x.1) := by rw [h.2]; simp [hb]
      obtain ⟨y, hy, he⟩ := List.mem_map.1 this
      have := R.inj x.1 y.1 b (hm x (by simp)) (hm y (by simp [hy])) h.1 he
      exact hn.1 (by rw [this]; exact List.mem_map_of_mem hy)

/-- What a call leaves, for the caller. -/
def Left (c : Cx) (β : Nat → Option Nat) (M : MF) (N : Nat) (w : World) (v : PV) (u : Mem Blk) (e : Ending) (w' : World) : Prop :=
  ∃ β' v', e = .returned v' ∧ RelM c β' (over u M) N w' ∧ Later w w' (SS c β M w) (SS c β' (over u M) w') β β' M (over u M) N N ∧ RepT w' (SS c β' (over u M) w') β' (over u M) N v v'

theorem over_none {u : Mem Blk} {i : Nat} (h : u.get i = none) : over u M i = M i := by unfold over; rw [h]

theorem sound_call (R : RelM c β M N w) (hN : N ≤ site) (hsite : ∀ i, site ≤ i → i < site + 64 → M i = none) {f : FuncId} {esc : Bool} {xs : List PV} {vs : List Value} {H : PV → Mem Blk → Prop} (hx : RepTL w (SS c β M w) β M N xs vs)
    (hG : (callQ site f esc xs).wp M (Res.fin P H)) : ∃ v u, H v u ∧ CallsOp P f vs.toArray w (Left c β M N w v u) ∧ ∀ id, (u.get id).isSome → known M N id ∨ (site ≤ id ∧ id < site + 64) := by
  unfold callQ at hG
  rw [Q.wp_bind] at hG
  obtain ⟨⟨aps, ids, fz⟩, ⟨⟨hnd, hnf⟩, outs, r, mr, hok, hH⟩, hfz, hvar, bs, hbs, hargs⟩ := argQ_sound R hx hG
  simp only at hnd hnf hok hH hfz hvar hbs hargs
  obtain ⟨R1, L1, hc1⟩ := freeze R hfz
  obtain ⟨hmr, hcall⟩ := hok
  have hids : ∀ x ∈ ids, over fz M x.1 = M x.1 := fun x hx => over_none (by
    have := List.all_eq_true.1 hnf x hx
    simpa using this)
  have hvar1 : ∀ x ∈ ids, ∃ ps, over fz M x.1 = some (.var x.2 ps) ∧ x.2.w = true := fun x hx => by
    obtain ⟨ps, h1, h2⟩ := hvar x hx
    exact ⟨ps, by rw [hids x hx]; exact h1, h2⟩
  have hbnd := nodup_blocks R1 hbs hnd (fun x hx => by obtain ⟨ps, h1, _⟩ := hvar1 x hx; simp [h1])
  have hK : ∀ b, SS c β (over fz M) w b → b < w.heap.size ∧ b ∉ bs := by
    intro b h
    refine ⟨h.1, fun hb => ?_⟩
    have : some b ∈ ids.map (fun x => β x.1) := by rw [hbs]; simp [hb]
    obtain ⟨x, hx, he⟩ := List.mem_map.1 this
    obtain ⟨ps, h1, h2⟩ := hvar1 x hx
    exact h.2.2 ⟨x.1, _, h1, h2, he⟩
  have hcalls := hcall w _ vs bs (hargs _ hc1) hbnd hK
  have hfzM : ∀ id, (fz.get id).isSome → (M id).isSome := by
    intro id h
    obtain ⟨blk, hb⟩ := Option.isSome_iff_exists.1 h
    obtain ⟨b0, h0, _⟩ := hfz id blk hb
    simp [h0]
  by_cases hflat : (!esc && r.flat && ids.isEmpty) = true
  · rw [if_pos hflat] at hH
    refine ⟨r, [], hH, hcalls.mono fun e w' h => ?_, fun id h => by simp [Mem.get] at h⟩
    obtain ⟨v, βc, rfl, hret⟩ := h
    simp only [Bool.and_eq_true, Bool.not_eq_true', List.isEmpty_iff] at hflat
    obtain ⟨⟨_, hfl⟩, rfl⟩ := hflat
    have : bs = [] := by simpa using hbs.symm
    subst this
    obtain ⟨h1, h2⟩ := R.grow (w' := w') hret.rel.keep.os hret.rel.keep.tape hret.rel.keep.output hret.rel.keep.size (fun b hb => hret.rel.keep.block b hb (by simp))
    exact ⟨β, v, rfl, h1, h2, RepT_flat hfl hret.val⟩
  · rw [if_neg hflat] at hH
    refine ⟨_, _, hH, hcalls.mono fun e w' h => ?_, fun id h => ?_⟩
    · obtain ⟨v, βc, rfl, hret⟩ := h
      have hsite1 : ∀ i, site ≤ i → i < site + 64 → over fz M i = none := by
        intro i h1 h2
        have h3 := hsite i h1 h2
        rw [over_none, h3]
        cases hq : fz.get i with
        | none => rfl
        | some b => have := hfzM i (by simp [hq]); rw [h3] at this; simp at this
      obtain ⟨β2, h1, h2, h3⟩ := merge R1 hret.rel hsite1 hN hmr hbs hvar1 hret.outs
      refine ⟨β2, v, rfl, ?_, ?_, ?_⟩
      · have := h1
        rw [← over_append, List.append_assoc] at this
        exact this
      · have := L1.trans h2
        rw [← over_append, List.append_assoc] at this
        exact this
      · have := RepT_ren h3 hret.val
        rw [← over_append, List.append_assoc] at this
        exact this
    · rw [Mem.get_append, get_shift] at h
      split at h
      · rename_i b hb
        split at hb
        · rename_i hle
          rw [Option.map_eq_some_iff] at hb
          obtain ⟨b0, hb0, _⟩ := hb
          have := (hmr _ (Mem.get_mem hb0)).1
          exact Or.inr ⟨hle, by simp only at this; omega⟩
        · simp at hb
      · rw [Mem.get_append] at h
        split at h
        · rename_i b hb
          have hm := Mem.get_mem hb
          obtain ⟨y, hy, he⟩ := List.mem_map.1 hm
          have := List.of_mem_zip hy
          obtain ⟨ps, h1, _⟩ := hvar _ this.1
          simp only [Prod.mk.injEq] at he
          rw [he.1] at h1
          exact Or.inl (Or.inr (by simp [h1]))
        · exact Or.inl (Or.inr (hfzM id h))
end
end Go.RW

/-! Every operation that is compiled is sound. -/
namespace Go.RW

section
variable {P : Program} {c : Cx} {β : Nat → Option Nat} {E : Nat → PV} {M : MF} {N site : Nat} {a : Act} {w : World}

/-- What running an operation gives, for whatever comes after it. -/
def OpExec (P : Program) (c : Cx) (β : Nat → Option Nat) (M : MF) (N : Nat) (a : Act) (w : World) (o : Oper) (v : PV) (u : Mem Blk) : Prop :=
  ∀ (K : Act → World → Prop) (Q : Exit → Act → World → Prop), (∀ β' v' w', RelM c β' (over u M) N w' → Later w w' (SS c β M w) (SS c β' (over u M) w') β β' M (over u M) N N →
    RepT w' (SS c β' (over u M) w') β' (over u M) N v v' → K (a.put o.dst v') w') → o.wp P a w K Q

def Exec (P : Program) (c : Cx) (β : Nat → Option Nat) (M : MF) (N site : Nat) (a : Act) (w : World) (o : Oper) (q : Q Res) : Prop :=
  ∀ H : PV → Mem Blk → Prop, q.wp M (Res.fin P H) → ∃ v u, H v u ∧ OpExec P c β M N a w o v u ∧ ∀ id, (u.get id).isSome → known M N id ∨ (site ≤ id ∧ id < site + 64)

theorem Sound.exec {o : Oper} {q : Q Res} (h : Sound c β M N site w q ((execOp a.eval o).run P w)) : Exec P c β M N site a w o q := by
  intro H hG
  obtain ⟨v, u, h1, β', v', w', h2, h3, h4, h5, h6⟩ := h _ hG
  refine ⟨v, u, h1, fun K Q hK => ?_, h6⟩
  unfold Oper.wp
  rcases h2 with h2 | ⟨h2, h7⟩
  · rw [h2]; exact hK β' v' w' h3 h4 h5
  · rw [h2]; subst h7; exact hK β' _ w' h3 h4 h5

theorem call_exec {o : Oper} {f : FuncId} {vs : List Value} {q : Q Res} (hrun : (execOp a.eval o).run P w = (callFunc f vs.toArray).run P w)
    (h : ∀ H : PV → Mem Blk → Prop, q.wp M (Res.fin P H) → ∃ v u, H v u ∧ CallsOp P f vs.toArray w (Left c β M N w v u) ∧ ∀ id, (u.get id).isSome → known M N id ∨ (site ≤ id ∧ id < site + 64)) : Exec P c β M N site a w o q := by
  intro H hG
  obtain ⟨v, u, h1, h2, h3⟩ := h H hG
  refine ⟨v, u, h1, fun K Q hK => ?_, h3⟩
  unfold Oper.wp
  rw [hrun]
  rcases h2 with ⟨h4, h5⟩ | ⟨v', w', h4, β', v2, h5, h6⟩
  · rw [h4]
    refine h5.mono fun e w' hh => ?_
    obtain ⟨β', v', rfl, h6, h7, h8⟩ := hh
    exact hK β' v' w' h6 h7 h8
  · rw [h4]
    simp only [Ending.returned.injEq] at h5
    subst h5
    exact hK β' _ w' h6.1 h6.2.1 h6.2.2

theorem Exec.fail {o : Oper} : Exec P c β M N site a w o .fail := fun _ h => h.elim

theorem ro_reps {S : Nat → Prop} (hE : ∀ i, RepT w S β M N (E i) (a.tmps.getD i undef)) : ∀ {l : List (Operand × TypeId)} {xs : List RO}, (l.map fun x => ro P x.2 x.1) = xs.map some → RepTL w S β M N (xs.map (RO.val E)) (l.map fun x => a.eval x.1)
  | [], xs, h => by
    have : xs = [] := by simpa using h.symm
    subst this; unfold RepTL; rfl
  | x :: l, xs, h => by
    cases xs with
    | nil => simp at h
    | cons y xs =>
      simp only [List.map_cons, List.cons.injEq] at h ⊢
      unfold RepTL
      exact ⟨_, _, rfl, ro_rep hE h.1, ro_reps hE h.2⟩
theorem ro_reps' {S : Nat → Prop} (hE : ∀ i, RepT w S β M N (E i) (a.tmps.getD i undef)) {t : TypeId} : ∀ {l : List Operand} {xs : List RO}, (l.map fun x => ro P t x) = xs.map some → RepTL w S β M N (xs.map (RO.val E)) (l.map a.eval)
  | [], xs, h => by
    have : xs = [] := by simpa using h.symm
    subst this; unfold RepTL; rfl
  | x :: l, xs, h => by
    cases xs with
    | nil => simp at h
    | cons y xs =>
      simp only [List.map_cons, List.cons.injEq] at h ⊢
      unfold RepTL
      exact ⟨_, _, rfl, ro_rep hE h.1, ro_reps' hE h.2⟩

theorem eqGuard_ok {op : BinOp} {t : TypeId} {x y : Operand} {va vb : Value} (h : (∀ xs ys, va = .agg xs → vb = .agg ys → False) ∧ (va = .nilIface → False)) : (eqGuard op t x y va vb).run P w = .ok () w := by
  unfold eqGuard
  split
  all_goals first
    | (simp; done)
    | (simp only [Bool.not_true, Bool.false_eq_true, if_false]
       split
       · exact (h.2 rfl).elim
       · exact (h.1 _ _ rfl rfl).elim
       · simp)

theorem RepTL_append {S : Nat → Prop} {ps qs : List PV} {vs us : List Value} (h : RepTL w S β M N ps vs) (h' : RepTL w S β M N qs us) : RepTL w S β M N (ps ++ qs) (vs ++ us) := by
  induction ps generalizing vs with
  | nil => unfold RepTL at h; subst h; exact h'
  | cons p ps ih =>
    unfold RepTL at h
    obtain ⟨v, r, rfl, h1, h2⟩ := h
    unfold RepTL
    exact ⟨v, r ++ us, rfl, h1, ih h2⟩
theorem RepTL_one {S : Nat → Prop} {p : PV} {v : Value} (h : RepT w S β M N p v) : RepTL w S β M N [p] [v] := by
  unfold RepTL
  exact ⟨v, [], rfl, h, by unfold RepTL; rfl⟩

theorem zip_fst {α γ : Type} {l : List α} {l' : List γ} (h : l.length = l'.length) : (l.zip l').map (·.1) = l := by
  rw [List.map_fst_zip]; omega

theorem run_callv {f : Value} {args : Array Value} {fn : FuncId} {cs : Array Value} (h : f = .func (.func fn) #[] cs) {o : Oper} {cl : Call} {x : Operand} (ho : o.op = .call cl) (hc : cl.callee = .value x) (hx : a.eval x = f) (ha : cl.args.map a.eval = args) :
    (execOp a.eval o).run P w = (callFunc fn (args ++ cs)).run P w := by
  subst h
  simp [execOp, ho, resolve, hc, hx, Deferred.ofValue, invoke, ha]

/-- Values that are pointers to what a function value holds. -/
theorem caps_reps (R : RelM c β M N w) : ∀ {caps : List D} {ps : List Value}, RepF w (SS c β M w) caps ps → RepTL w (SS c β M w) β M N (caps.map fun x => .iptr x.cells) ps
  | [], ps, h => by unfold RepTL; exact h
  | x :: caps, ps, h => by
    unfold RepF at h
    obtain ⟨b, r, vs', rfl, h1, h2, h3, h4⟩ := h
    simp only [List.map_cons]
    unfold RepTL
    exact ⟨_, r, rfl, RepT_iptr.2 ⟨b, 0, vs', rfl, h1, h2, RepC_cells h3⟩, caps_reps R h4⟩
theorem clo_reps {f : FuncId} {ps : List PV} {v : Value} (h : RepT w (SS c β M w) β M N (.clo f ps) v) (hp : ps.all (fun | .ptr _ 0 => true | _ => false) = true) : ∃ vs : List Value, v = .func (.func f) #[] vs.toArray ∧ RepTL w (SS c β M w) β M N ps vs := by
  obtain ⟨vs, h1, h2, h3⟩ := RepT_clo.1 h
  refine ⟨vs, h1, ?_⟩
  clear h h1
  induction ps generalizing vs with
  | nil => unfold RepTL; simpa using h2
  | cons p ps ih =>
    cases vs with
    | nil => simp at h2
    | cons u us =>
      simp only [List.all_cons, Bool.and_eq_true] at hp
      unfold RepTL
      refine ⟨u, us, rfl, ?_, ih hp.2 us (by simpa using h2) fun i id off hi => ?_⟩
      · obtain ⟨hp1, _⟩ := hp
        split at hp1
        · rename_i id
          obtain ⟨_, h5, h6, h7⟩ := h3 0 id 0 (by simp)
          exact RepT_ptr.2 ⟨by simpa using h5, h6, fun o cells hm => by
            obtain ⟨b, q1, q2⟩ := h7 o cells hm
            exact ⟨b, q1, by simpa using q2⟩⟩
        · simp at hp1
      · have := h3 (i + 1) id off (by simpa using hi)
        simpa using this
end
end Go.RW

/-! Every operation that is compiled is sound: the operations, one by one. -/
namespace Go.RW

section
variable {P : Program} {c : Cx} {β : Nat → Option Nat} {E : Nat → PV} {M : MF} {N site : Nat} {a : Act} {w : World}

theorem callv_exec (R : RelM c β M N w) (hN : N ≤ site) (hsite : ∀ i, site ≤ i → i < site + 64 → M i = none) {o : Oper} {cl : Call} {x : Operand} {esc : Bool} {p : PV} {ps : List PV} {vs : List Value}
    (ho : o.op = .call cl) (hc : cl.callee = .value x) (hx : RepT w (SS c β M w) β M N p (a.eval x)) (hvs : (cl.args.map a.eval).toList = vs) (hps : RepTL w (SS c β M w) β M N ps vs) : Exec P c β M N site a w o (callvQ site esc (p :: ps)) := by
  unfold callvQ
  split
  · rename_i f caps args h
    simp only [List.cons.injEq] at h
    obtain ⟨rfl, rfl⟩ := h
    intro H hG
    obtain ⟨hp, hG⟩ := hG
    obtain ⟨cs, h1, h2⟩ := clo_reps hx hp
    refine call_exec (f := f) (vs := vs ++ cs) ?_ (fun H hG => sound_call R hN hsite (RepTL_append hps h2) hG) H hG
    rw [run_callv h1 ho hc rfl rfl, ← hvs]
    congr 2
    apply Array.ext'; simp
  · rename_i f caps args h
    simp only [List.cons.injEq] at h
    obtain ⟨rfl, rfl⟩ := h
    obtain ⟨cs, h1, h2⟩ := Rep_fn.1 (RepT_d.1 hx)
    refine call_exec (f := f) (vs := vs ++ cs) ?_ (fun H hG => sound_call R hN hsite (RepTL_append hps (caps_reps R h2)) hG)
    rw [run_callv h1 ho hc rfl rfl, ← hvs]
    congr 2
    apply Array.ext'; simp
  · exact Exec.fail

theorem builtin_run {o : Oper} {cl : Call} {b : Builtin} (ho : o.op = .call cl) (hc : cl.callee = .builtin b) : (execOp a.eval o).run P w = (builtin b cl.argTypes o.type (cl.args.map fun | .const _ => true | _ => false) (cl.args.map a.eval)).run P w := by
  simp [execOp, ho, resolve, hc, invoke]
  rfl

theorem call_sound (R : RelM c β M N w) (hE : ∀ i, RepT w (SS c β M w) β M N (E i) (a.tmps.getD i undef)) (hN : N ≤ site) (hsite : ∀ i, site ≤ i → i < site + 64 → M i = none) {o : Oper} {cl : Call} {r : ROp} {xs : List RO} (ho : o.op = .call cl)
    (hlen : cl.args.size = cl.argTypes.size) (hc : compCall P o.type cl = some (r, xs)) : Exec P c β M N site a w o (opQ site r (xs.map (RO.val E))) := by
  have hn : M site = none := hsite site (Nat.le_refl _) (by omega)
  unfold compCall at hc
  have hargs : (cl.args.map a.eval).toList = (cl.args.toList.zip cl.argTypes.toList).map fun x => a.eval x.1 := by
    have := zip_fst (l := cl.args.toList) (l' := cl.argTypes.toList) (by simpa using hlen)
    conv => lhs; rw [Array.toList_map, ← this]
    rw [List.map_map]; rfl
  split at hc
  · rename_i f hcal
    obtain ⟨h1, rfl⟩ := optL_some hc
    have hr := ro_reps hE h1
    rw [← hargs] at hr
    refine call_exec (f := f) (vs := (cl.args.map a.eval).toList) ?_ (fun H hG => sound_call R hN hsite hr hG)
    have := run_callv (P := P) (w := w) (fn := f) (cs := #[]) rfl ho hcal (show a.eval (.func f) = .func (.func f) #[] #[] from rfl) rfl
    rw [Array.toArray_toList]
    simpa using this
  · rename_i i hcal
    obtain ⟨h1, rfl⟩ := optL_some hc
    cases xs with
    | nil => simp at h1
    | cons y xs =>
      simp only [List.map_cons, List.cons.injEq, Option.some.injEq] at h1
      obtain ⟨rfl, h1⟩ := h1
      have hr := ro_reps hE h1
      rw [← hargs] at hr
      exact callv_exec R hN hsite ho hcal (hE i) rfl hr
  · rename_i b hcal
    have hb := builtin_run (P := P) (w := w) (a := a) ho hcal
    split at hc
    · rename_i x t hx ht
      have hax : cl.args = #[x] := Array.ext' hx
      have hat : cl.argTypes = #[t] := Array.ext' ht
      split at hc
      · rename_i e hu
        obtain ⟨y, h1, rfl, rfl⟩ := opt1_some hc
        refine (sound_len (ty := o.type) R (ro_rep hE h1) ⟨e, hu⟩ fun v hv => ?_).exec
        rw [hb, hax, hat]; simp [builtin, hv]
      · rename_i hu
        obtain ⟨y, h1, rfl, rfl⟩ := opt1_some hc
        refine (sound_lens (ty := o.type) R (ro_rep hE h1) hu fun v hv => ?_).exec
        rw [hb, hax, hat]; simp [builtin, hv]
      · simp at hc
    · rename_i x r' t ts hx ht
      split at hc
      · obtain ⟨h1, rfl⟩ := optL_some hc
        have h2 : ((x :: r').zip (t :: ts)).map (fun x => ro P x.2 x.1) = xs.map some := by simpa using h1
        have hr := ro_reps hE h2
        rw [← hx, ← ht, ← hargs] at hr
        cases xs with
        | nil => simp at h1
        | cons y xs =>
          simp only [List.map_cons] at hr
          unfold RepTL at hr
          obtain ⟨v, us, h3, h4, h5⟩ := hr
          show Exec P c β M N site a w o (mnQ (y.val E :: xs.map (RO.val E)))
          unfold mnQ
          split
          · rename_i k n rest h6
            simp only [List.cons.injEq] at h6
            obtain ⟨h6, rfl⟩ := h6
            rw [h6] at h4
            obtain rfl := RepT_int.1 h4
            refine (sound_best (P := P) (mx := false) R h5 fun v hv => ?_).exec
            rw [hb]
            simp [builtin, Builtin.min_, h3] at hv ⊢
            have h3' : List.map a.eval cl.args.toList = Value.int k n :: us := by simpa using h3
            simp [h3', hv]
          · exact Exec.fail
      · simp at hc
    · rename_i x r' t ts hx ht
      split at hc
      · obtain ⟨h1, rfl⟩ := optL_some hc
        have h2 : ((x :: r').zip (t :: ts)).map (fun x => ro P x.2 x.1) = xs.map some := by simpa using h1
        have hr := ro_reps hE h2
        rw [← hx, ← ht, ← hargs] at hr
        cases xs with
        | nil => simp at h1
        | cons y xs =>
          simp only [List.map_cons] at hr
          unfold RepTL at hr
          obtain ⟨v, us, h3, h4, h5⟩ := hr
          show Exec P c β M N site a w o (mxQ (y.val E :: xs.map (RO.val E)))
          unfold mxQ
          split
          · rename_i k n rest h6
            simp only [List.cons.injEq] at h6
            obtain ⟨h6, rfl⟩ := h6
            rw [h6] at h4
            obtain rfl := RepT_int.1 h4
            refine (sound_best (P := P) (mx := true) R h5 fun v hv => ?_).exec
            rw [hb]
            simp [builtin, Builtin.max_, h3] at hv ⊢
            have h3' : List.map a.eval cl.args.toList = Value.int k n :: us := by simpa using h3
            simp [h3', hv]
          · exact Exec.fail
      · simp at hc
    · rename_i x y s t hx ht
      have hax : cl.args = #[x, y] := Array.ext' hx
      have hat : cl.argTypes = #[s, t] := Array.ext' ht
      split at hc
      · rename_i e he
        have hs : P.underlying s = some (.slice e) := by
          unfold elemT at he; split at he
          · simp only [Option.some.injEq] at he; subst he; assumption
          · simp at he
        split at hc
        · rename_i sz by_ e' h1 h2 h3
          split at hc
          · rename_i hcond
            obtain ⟨p, q, h4, h5, rfl, rfl⟩ := opt2_some hc
            refine (sound_app (ty := o.type) R hN hn hs h3 h1 h2 hcond.2.2.2 hcond.2.1 (ro_rep hE h4) (ro_rep hE h5) fun v w' hv => ?_).exec
            rw [hb, hax, hat]; simp [builtin, hv]
          · simp at hc
        · rename_i sz by_ kk h1 h2 h3
          split at hc
          · rename_i g zs h4 h5
            split at hc
            · rename_i hcond
              obtain ⟨p, q, h6, h7, rfl, rfl⟩ := opt2_some hc
              refine (sound_appz (ty := o.type) R hN hn hs h3 h1 h2 h5 hcond.2.2.1 hcond.1 hcond.2.1 hcond.2.2.2 (ro_rep hE h6) (ro_rep hE h7) fun v w' hv => ?_).exec
              rw [hb, hax, hat]; simp [builtin, hv]
            · simp at hc
          · simp at hc
        · rename_i sz by_ h1 h2 h3
          split at hc
          · rename_i hcond
            obtain ⟨p, q, h4, h5, rfl, rfl⟩ := opt2_some hc
            obtain ⟨rfl, h6, h7⟩ := hcond
            refine (sound_apps (ty := o.type) R hN hn hs h3 h1 h2 h7 h6 (ro_rep hE h4) (ro_rep hE h5) fun v w' hv => ?_).exec
            rw [hb, hax, hat]; simp [builtin, hv]
          · simp at hc
        · simp at hc
      · simp at hc
    · rename_i x y s t hx ht
      have hax : cl.args = #[x, y] := Array.ext' hx
      have hat : cl.argTypes = #[s, t] := Array.ext' ht
      split at hc
      · rename_i e he
        have hs : P.underlying s = some (.slice e) := by
          unfold elemT at he; split at he
          · simp only [Option.some.injEq] at he; subst he; assumption
          · simp at he
        split at hc
        · rename_i sz e' h1 h2
          split at hc
          · rename_i hcond
            subst hcond
            obtain ⟨p, q, h4, h5, rfl, rfl⟩ := opt2_some hc
            refine (sound_copy (u := t) (ty := o.type) R hs h1 (ro_rep hE h4) (ro_rep hE h5) fun v w' hv => ?_).exec
            rw [hb, hax, hat]; simp [builtin, hv]
          · simp at hc
        · rename_i sz h1 h2
          split at hc
          · rename_i hcond
            subst hcond
            obtain ⟨p, q, h4, h5, rfl, rfl⟩ := opt2_some hc
            refine (sound_copys (u := t) (ty := o.type) R hs h1 (ro_rep hE h4) (ro_rep hE h5) fun v w' hv => ?_).exec
            rw [hb, hax, hat]; simp [builtin, hv]
          · simp at hc
        · simp at hc
      · simp at hc
    · simp at hc
  · simp at hc

theorem op_sound0 (R : RelM c β M N w) (hE : ∀ i, RepT w (SS c β M w) β M N (E i) (a.tmps.getD i undef)) (hN : N ≤ site) (hsite : ∀ i, site ≤ i → i < site + 64 → M i = none) {o : Oper} {r : ROp} {xs : List RO}
    (hc : compOp0 P o = some (r, xs)) : Exec P c β M N site a w o (opQ site r (xs.map (RO.val E))) := by
  have hn : M site = none := hsite site (Nat.le_refl _) (by omega)
  unfold compOp0 at hc
  split at hc
  · rename_i x ho
    obtain ⟨y, h1, rfl, rfl⟩ := opt1_some hc
    exact (sound_mv R (ro_rep hE h1) (by simp [execOp, ho])).exec
  · rename_i x ho
    obtain ⟨y, h1, rfl, rfl⟩ := opt1_some hc
    exact (sound_mv R (ro_rep hE h1) (by simp [execOp, ho])).exec
  · rename_i cc aa bb ho
    obtain ⟨h1, rfl⟩ := optL_some hc
    match xs, h1 with
    | [x, y, z], h1 =>
      simp only [List.map_cons, List.map_nil, List.cons.injEq, and_true] at h1
      exact (sound_pick R (ro_rep hE h1.1) (ro_rep hE h1.2.1) (ro_rep hE h1.2.2) fun b hb => by simp [execOp, ho, hb, asBool]).exec
    | [], h1 => simp at h1
    | [_], h1 => simp at h1
    | [_, _], h1 => simp at h1
    | _ :: _ :: _ :: _ :: _, h1 => simp at h1
  · rename_i e ho
    rw [Option.map_eq_some_iff] at hc
    obtain ⟨zs, h1, h2⟩ := hc
    simp only [Prod.mk.injEq] at h2
    obtain ⟨rfl, rfl⟩ := h2
    exact (sound_alloc R hN hn h1 fun v w' hv => by simp [execOp, ho, hv]).exec
  · rename_i e x ho
    obtain ⟨y, h1, rfl, rfl⟩ := opt1_some hc
    exact (sound_box (P := P) (e := e) R hN hn (ro_rep hE h1) fun v w' hv => by simp [execOp, ho, hv]).exec
  · rename_i t parts ho
    split at hc
    · rename_i zs hz
      have hvs : ((parts.map fun (x : Nat × Operand) => match x with | (i, x) => (i, a.eval x)).toList).map (·.2) = parts.toList.map fun p => a.eval p.2 := by
        rw [Array.toList_map, List.map_map]; rfl
      have hv1 : ∀ v, (Instr.build t (parts.map fun (x : Nat × Operand) => match x with | (i, x) => (i, a.eval x))).run P w = .ok v w → (execOp a.eval o).run P w = .ok (.value v) w := fun v hv => by simp [execOp, ho, hv]
      split at hc
      · rename_i fs hu
        split at hc
        · rename_i l xs' hl hxs
          split at hc
          · rename_i hall
            simp only [Option.some.injEq, Prod.mk.injEq] at hc
            obtain ⟨rfl, rfl⟩ := hc
            have hl' := seqO_some hl
            have hxs' := seqO_some hxs
            refine (sound_build R hz (l := l) (parts := parts.map fun (x : Nat × Operand) => match x with | (i, x) => (i, a.eval x)) ?_ (Or.inl ⟨fs, hu, hall, ?_⟩) hv1).exec
            · rw [hvs]
              have gen : ∀ (ps : List (Nat × Operand)) (ys : List RO), (ps.map fun p => (fs[p.1]?).bind fun f => ro P f.type p.2) = ys.map some → RepTL w (SS c β M w) β M N (ys.map (RO.val E)) (ps.map fun p => a.eval p.2) := by
                intro ps
                induction ps with
                | nil => intro ys h; have : ys = [] := by simpa using h.symm
                         subst this; unfold RepTL; rfl
                | cons p ps ih =>
                  intro ys h
                  cases ys with
                  | nil => simp at h
                  | cons y ys =>
                    simp only [List.map_cons, List.cons.injEq] at h ⊢
                    unfold RepTL
                    refine ⟨_, _, rfl, ?_, ih ys h.2⟩
                    obtain ⟨h3, _⟩ := h
                    cases hf : fs[p.1]? with
                    | none => simp [hf] at h3
                    | some f => rw [hf] at h3; exact ro_rep hE (by simpa using h3)
              exact gen _ _ hxs'
            · rw [Array.toList_map, List.map_map]; exact hl'
          · simp at hc
        · simp at hc
      · rename_i n e hu
        split at hc
        · rename_i sz hs
          obtain ⟨h1, rfl⟩ := optL_some hc
          refine (sound_build R hz (l := parts.toList.map fun p => (p.1 * sz, sz)) (parts := parts.map fun (x : Nat × Operand) => match x with | (i, x) => (i, a.eval x)) ?_ (Or.inr ⟨n, e, sz, hu, hs, ?_⟩) hv1).exec
          · rw [hvs]
            have := ro_reps' (w := w) (S := SS c β M w) (β := β) (M := M) (N := N) (a := a) (P := P) hE (t := e) (l := parts.toList.map (·.2)) (xs := xs) (by rw [List.map_map]; exact h1)
            rw [List.map_map] at this
            exact this
          · rw [Array.toList_map, List.map_map]; rfl
        · simp at hc
      · simp at hc
    · simp at hc
  · rename_i t len parts ho
    split at hc
    · rename_i e he
      have hu : P.underlying t = some (.slice e) := by
        unfold elemT at he; split at he
        · simp only [Option.some.injEq] at he; subst he; assumption
        · simp at he
      split at hc
      · rename_i sz g zs h1 h2 h3
        split at hc
        · rename_i hcond
          obtain ⟨h4, h5, h6, h7, h8⟩ := hcond
          obtain ⟨h9, rfl⟩ := optL_some hc
          have hr := ro_reps' (w := w) (S := SS c β M w) (β := β) (M := M) (N := N) (a := a) (P := P) hE (t := e) (l := parts.toList.map (·.2)) (xs := xs) (by rw [List.map_map]; exact h9)
          refine (sound_bslice R hN hn hu h1 h3 h4 h5 h6 h7 h8 hr fun v w' hv => ?_).exec
          have hz : (parts.toList.map (·.1)).zip ((parts.toList.map (·.2)).map a.eval) = (parts.map fun (x : Nat × Operand) => match x with | (i, x) => (i, a.eval x)).toList := by
            rw [Array.toList_map, List.map_map, List.zip_map', ]
            rfl
          rw [hz] at hv
          simp only [execOp, ho]
          rw [Array.toArray_toList] at hv
          simp [hv]
        · simp at hc
      · simp at hc
    · simp at hc
  · rename_i t x ho
    split at hc
    · rename_i n g h1 h2
      split at hc
      · rename_i h3
        obtain ⟨y, h4, rfl, rfl⟩ := opt1_some hc
        exact (sound_load R (ro_rep hE h4) h2 h1 h3 fun v hv => by simp [execOp, ho, hv]).exec
      · simp at hc
    · simp at hc
  · rename_i t x y ho
    split at hc
    · rename_i n h1
      obtain ⟨p, q, h4, h5, rfl, rfl⟩ := opt2_some hc
      exact (sound_store R (ro_rep hE h4) (ro_rep hE h5) h1 fun w' hv => by simp [execOp, ho, hv]).exec
    · simp at hc
  · rename_i x ho
    obtain ⟨y, h1, rfl, rfl⟩ := opt1_some hc
    refine (sound_chk R (ro_rep hE h1) fun h => ?_).exec
    rcases h with ⟨p, h⟩ | ⟨f, fs, cs, h⟩
    · simp [execOp, ho, h]
    · simp [execOp, ho, h]
  · rename_i op xt x y yt ho
    have hrun : ∀ v, (eqGuard op xt x y (a.eval x) (a.eval y)).run P w = .ok () w → (binOp op xt (a.eval x) (a.eval y)).run P w = .ok v w → (execOp a.eval o).run P w = .ok (.value v) w := fun v hg hv => by simp [execOp, ho, hg, hv]
    have hsl : ∀ (vx vy : Value) l k (s : Option Addr), vx = .slice s l k ∨ vy = .slice s l k → (eqGuard op xt x y vx vy).run P w = .ok () w := by
      rintro vx vy l k s (rfl | rfl)
      · exact eqGuard_ok (by simp)
      · unfold eqGuard; split
        all_goals first
          | (simp; done)
          | (simp only [Bool.not_true, Bool.false_eq_true, if_false]
             split <;> simp_all)
    split at hc
    · rename_i e hu
      split at hc
      · split at hc
        · rename_i hy
          obtain ⟨p, h4, rfl, rfl⟩ := opt1_some hc
          refine (sound_eqn R (ro_rep hE h4) fun s l k hs => ?_).exec
          have hy' : a.eval y = .slice none 0 0 := by unfold isNilC at hy; split at hy <;> first | rfl | simp at hy
          refine hrun _ (hsl _ _ _ _ _ (Or.inl hs)) ?_
          rw [hs, hy', run_eql_slice_nil _ e _ _ _ hu]; simp
        · split at hc
          · rename_i hx
            obtain ⟨p, h4, rfl, rfl⟩ := opt1_some hc
            refine (sound_eqn R (ro_rep hE h4) fun s l k hs => ?_).exec
            have hx' : a.eval x = .slice none 0 0 := by unfold isNilC at hx; split at hx <;> first | rfl | simp at hx
            refine hrun _ (hsl _ _ _ _ _ (Or.inr hs)) ?_
            rw [hs, hx', run_eql_nil_slice _ e _ _ _ hu]; simp
          · simp at hc
      · split at hc
        · rename_i hy
          obtain ⟨p, h4, rfl, rfl⟩ := opt1_some hc
          refine (sound_eqn R (ro_rep hE h4) fun s l k hs => ?_).exec
          have hy' : a.eval y = .slice none 0 0 := by unfold isNilC at hy; split at hy <;> first | rfl | simp at hy
          refine hrun _ (hsl _ _ _ _ _ (Or.inl hs)) ?_
          rw [hs, hy', run_neq_slice_nil _ e _ _ _ hu]; simp
        · split at hc
          · rename_i hx
            obtain ⟨p, h4, rfl, rfl⟩ := opt1_some hc
            refine (sound_eqn R (ro_rep hE h4) fun s l k hs => ?_).exec
            have hx' : a.eval x = .slice none 0 0 := by unfold isNilC at hx; split at hx <;> first | rfl | simp at hx
            refine hrun _ (hsl _ _ _ _ _ (Or.inr hs)) ?_
            rw [hs, hx', run_neq_nil_slice _ e _ _ _ hu]; simp
          · simp at hc
      · simp at hc
    · rename_i hu
      obtain ⟨p, q, h4, h5, rfl, rfl⟩ := opt2_some hc
      exact (sound_bool R op xt (ro_rep hE h4) (ro_rep hE h5) hu fun v hne hv => hrun v (eqGuard_ok hne) hv).exec
    · obtain ⟨p, q, h4, h5, rfl, rfl⟩ := opt2_some hc
      exact (sound_binary R op xt (ro_rep hE h4) (ro_rep hE h5) fun v hne hv => hrun v (eqGuard_ok hne) hv).exec
    · obtain ⟨p, q, h4, h5, rfl, rfl⟩ := opt2_some hc
      exact (sound_binary R op xt (ro_rep hE h4) (ro_rep hE h5) fun v hne hv => hrun v (eqGuard_ok hne) hv).exec
    · simp at hc
  · rename_i op t x ho
    obtain ⟨y, h1, rfl, rfl⟩ := opt1_some hc
    exact (sound_un (P := P) R (ro_rep hE h1) fun v hv => by simp [execOp, ho, hv]).exec
  · rename_i s d x ho
    split at hc
    · rename_i k0 k hs hd
      obtain ⟨y, h1, rfl, rfl⟩ := opt1_some hc
      refine (sound_cvt R (ro_rep hE h1) fun j n hv => ?_).exec
      simp [execOp, ho, hv, convert, run_underlying hs, run_underlying hd, Conv.intToInt]
    · rename_i hs hd
      obtain ⟨y, h1, rfl, rfl⟩ := opt1_some hc
      show Exec P c β M N site a w o (cvsQ [y.val E])
      unfold cvsQ
      split
      · rename_i t h
        simp only [List.cons.injEq, and_true] at h
        have hx := ro_rep hE h1
        rw [h] at hx
        have hx' := RepT_str.1 hx
        exact (sound_one R (by simp [execOp, ho, hx', convert, underlying, hs, hd]) str_ok).exec
      · exact Exec.fail
    · rename_i e hs hd
      split at hc
      · rename_i he
        split at hc
        · obtain ⟨y, h1, rfl, rfl⟩ := opt1_some hc
          exact (sound_s2b R hN hn hs hd he (ro_rep hE h1) fun v w' hv => by simp [execOp, ho, hv]).exec
        · simp at hc
      · simp at hc
    · rename_i e hs hd
      split at hc
      · rename_i he
        obtain ⟨y, h1, rfl, rfl⟩ := opt1_some hc
        refine (sound_b2s (P := P) R (ro_rep hE h1) fun v hsl hv => ?_).exec
        obtain ⟨s', l, k, hv'⟩ := hsl
        rw [hv'] at hv
        simp [execOp, ho, hv', convert, underlying, hs, hd, he, hv]
      · simp at hc
    · simp at hc
  · rename_i arr x ho
    split at hc
    · rename_i n e hu
      split at hc
      · obtain ⟨y, h1, rfl, rfl⟩ := opt1_some hc
        exact (sound_s2a R hu (ro_rep hE h1) fun v hv => by simp [execOp, ho, hv]).exec
      · simp at hc
    · simp at hc
  · rename_i t l cp ho
    split at hc
    · rename_i e he
      have hu : P.underlying t = some (.slice e) := by
        unfold elemT at he; split at he
        · simp only [Option.some.injEq] at he; subst he; assumption
        · simp at he
      split at hc
      · rename_i sz g zs by_ h1 h2 h3 h4
        split at hc
        · rename_i hcond
          obtain ⟨h5, h6, h7, h8⟩ := hcond
          obtain ⟨p, q, h9, h10, rfl, rfl⟩ := opt2_some hc
          exact (sound_mks R hN hn hu h1 h4 h3 h5 h6 h7 h8 (ro_rep hE h9) (ro_rep hE h10) fun v w' hv => by simp [execOp, ho, hv]).exec
        · simp at hc
      · simp at hc
    · simp at hc
  · rename_i t x lo hi mx ho
    have hrun : ∀ v, (Instr.sliceAt t (a.eval x) (lo.map a.eval) (hi.map a.eval) (mx.map a.eval)).run P w = .ok v w → (execOp a.eval o).run P w = .ok (.value v) w := fun v hv => by simp [execOp, ho, hv]
    have hol : ∀ z : Option Operand, (z.map a.eval).toList = z.toList.map a.eval := by intro z; cases z <;> rfl
    have his : ∀ z : Option Operand, (z.map a.eval).isSome = z.isSome := by intro z; cases z <;> rfl
    split at hc
    · rename_i hu
      split at hc
      · simp at hc
      · rename_i hm
        have hm' : mx = none := by cases mx <;> simp_all
        subst hm'
        obtain ⟨h1, rfl⟩ := optL_some hc
        cases xs with
        | nil => simp at h1
        | cons y xs =>
          simp only [List.map_cons, List.cons.injEq] at h1
          have hr := ro_reps' (w := w) (S := SS c β M w) (β := β) (M := M) (N := N) (a := a) (P := P) hE (t := 0) h1.2
          have := sound_sslice (site := site) (lo := lo.map a.eval) (hi := hi.map a.eval) R (ro_rep hE h1.1) (by rw [hol, hol, ← List.map_append]; exact hr) hu hrun
          rw [his, his] at this
          exact this.exec
    · rename_i e hu
      split at hc
      · rename_i sz hs
        split at hc
        · simp at hc
        · rename_i hcond
          obtain ⟨h1, rfl⟩ := optL_some hc
          cases xs with
          | nil => simp at h1
          | cons y xs =>
            simp only [List.map_cons, List.cons.injEq] at h1
            have hr := ro_reps' (w := w) (S := SS c β M w) (β := β) (M := M) (N := N) (a := a) (P := P) hE (t := 0) h1.2
            have := sound_slice (site := site) (lo := lo.map a.eval) (hi := hi.map a.eval) (mx := mx.map a.eval) R (ro_rep hE h1.1) (by rw [hol, hol, hol, ← List.map_append, ← List.map_append, ← List.append_assoc]; exact hr) hu hs (by
              rw [his, his]; intro h
              cases hh : hi.isSome with
              | true => rfl
              | false => exact absurd ⟨h, hh⟩ hcond) hrun
            rw [his, his, his] at this
            exact this.exec
      · simp at hc
    · rename_i n e hu
      split at hc
      · rename_i hcond
        obtain ⟨hs, hm⟩ := hcond
        have hm' : mx = none := by cases mx <;> simp_all
        subst hm'
        obtain ⟨h1, rfl⟩ := optL_some hc
        cases xs with
        | nil => simp at h1
        | cons y xs =>
          simp only [List.map_cons, List.cons.injEq] at h1
          have hr := ro_reps' (w := w) (S := SS c β M w) (β := β) (M := M) (N := N) (a := a) (P := P) hE (t := 0) h1.2
          have := sound_aslice (site := site) (lo := lo.map a.eval) (hi := hi.map a.eval) R hu hs (ro_rep hE h1.1) (by rw [hol, hol, ← List.map_append]; exact hr) hrun
          rw [his, his] at this
          exact this.exec
      · simp at hc
    · simp at hc
  · rename_i s x f ho
    split at hc
    · rename_i fs hu
      split at hc
      · rename_i g hg
        split at hc
        · rename_i n hs
          split at hc
          · simp at hc
          · rename_i hn0
            obtain ⟨y, h1, rfl, rfl⟩ := opt1_some hc
            refine (sound_move_ptr R (ro_rep hE h1) fun p hp => ?_).exec
            simp [execOp, ho, hp, Instr.fieldAt, underlying, hu, hg, Instr.sureAddr, fieldPlace, run_sizeOf hs, hn0]
        · simp at hc
      · simp at hc
    · simp at hc
  · rename_i s x f ho
    split at hc
    · rename_i fs hu
      split at hc
      · rename_i g hg
        split at hc
        · rename_i n ag hs hag
          split at hc
          · rename_i hcond
            obtain ⟨y, h1, rfl, rfl⟩ := opt1_some hc
            refine (sound_fld (t := g.type) R (ro_rep hE h1) hag hs hcond fun cs v hp hv => ?_).exec
            simp [execOp, ho, hp, Instr.field, underlying, hu, hg, asAgg, hv]
          · simp at hc
        · simp at hc
      · simp at hc
    · simp at hc
  · rename_i t x i ho
    split at hc
    · rename_i e hu
      split at hc
      · rename_i sz hs
        obtain ⟨p, q, h4, h5, rfl, rfl⟩ := opt2_some hc
        exact (sound_ia R (ro_rep hE h4) (ro_rep hE h5) hu hs fun v hv => by simp [execOp, ho, hv]).exec
      · simp at hc
    · rename_i n e hu
      split at hc
      · rename_i sz hs
        obtain ⟨p, q, h4, h5, rfl, rfl⟩ := opt2_some hc
        exact (sound_iarr R (ro_rep hE h4) (ro_rep hE h5) hu hs fun v hv => by simp [execOp, ho, hv]).exec
      · simp at hc
    · simp at hc
  · rename_i t x i ho
    split at hc
    · rename_i hu
      obtain ⟨p, q, h4, h5, rfl, rfl⟩ := opt2_some hc
      exact (sound_sx R (ro_rep hE h4) (ro_rep hE h5) hu fun v hv => by simp [execOp, ho, hv]).exec
    · rename_i n e hu
      split at hc
      · rename_i sz ag hs hag
        split at hc
        · rename_i hcond
          obtain ⟨p, q, h4, h5, rfl, rfl⟩ := opt2_some hc
          exact (sound_ix R (ro_rep hE h4) (ro_rep hE h5) hu hag hs hcond fun v hv => by simp [execOp, ho, hv]).exec
        · simp at hc
      · simp at hc
    · simp at hc
  · rename_i x i ho
    obtain ⟨y, h1, rfl, rfl⟩ := opt1_some hc
    exact (sound_ext (P := P) R (ro_rep hE h1) fun v hv => by simp [execOp, ho, hv]).exec
  · rename_i f first caps ho
    split at hc
    · rename_i hf
      obtain ⟨h1, rfl⟩ := optL_some hc
      have hr := ro_reps' (w := w) (S := SS c β M w) (β := β) (M := M) (N := N) (a := a) (P := P) hE (t := 0) h1
      refine (sound_mkf R hr ?_).exec
      have hf' : first = #[] := Array.size_eq_zero_iff.1 hf
      subst hf'
      simp [execOp, ho, Instr.makeFunc]
      apply Array.ext'; simp
    · simp at hc
  · rename_i cl ho
    split at hc
    · rename_i hlen
      exact call_sound R hE hN hsite ho hlen hc
    · simp at hc
  · simp at hc
end
end Go.RW

/-! Every operation that is compiled is sound: the rest. -/
namespace Go.RW

section
variable {P : Program} {c : Cx} {β : Nat → Option Nat} {E : Nat → PV} {M : MF} {N site : Nat} {a : Act} {w : World}

theorem run_buildSlice0 {t e : TypeId} {sz : Nat} (ht : P.underlying t = some (.slice e)) (hsz : sizeT P e = some sz) : (Instr.buildSlice t 0 #[]).run P w = .ok (.slice (some ⟨w.heap.size, 0, none⟩) 0 0) (w.alloc (.cells #[] e)) := by
  have h0 : Array.map (fun _ : Nat => (default : Value)) (Array.range 0) = #[] := Array.size_eq_zero_iff.1 (by simp)
  simp [Instr.buildSlice, run_underlying ht, run_sizeOf hsz, Instr.fill, newRow, h0]
theorem sound_nslice (R : RelM c β M N w) {t e : TypeId} {sz : Nat} (ht : P.underlying t = some (.slice e)) (hsz : sizeT P e = some sz) {run : Result Next} (hr : ∀ v w', (Instr.buildSlice t 0 #[]).run P w = .ok v w' → run = .ok (.value v) w') : Sound c β M N site w (nsliceQ sz []) run := by
  refine sound_ret ?_
  obtain ⟨h1, h2⟩ := R.grow (w' := w.alloc (.cells #[] e)) rfl rfl rfl (by show w.heap.size ≤ (w.heap.push _).size; rw [Array.size_push]; omega) (fun b hb => by
    show (w.heap.push _)[b]? = _
    rw [Array.getElem?_push, if_neg (by omega)])
  refine ⟨β, _, _, Or.inl (hr _ _ (run_buildSlice0 ht hsz)), h1, h2, ?_, fun id h => by simp [Mem.get] at h⟩
  exact RepT_cut.2 ⟨_, rfl, Or.inl rfl⟩

theorem kind1_agg {t : TypeId} {k : Nat} (h : kind1 P t = some k) : aggT P t = some false ∧ sizeT P t = some 1 ∧ kindT P t = some k := by
  unfold kind1 at h
  split at h
  · rename_i hs
    refine ⟨?_, hs, h⟩
    unfold kindT at h; unfold aggT
    split at h <;> simp_all
  · simp at h
theorem eqK_run {S : Nat → Prop} {k : Nat} {x y : D} {b : Bool} (h : eqK k x y = some b) {t : TypeId} (ht : kindT P t = some k) (d : Nat) {vx vy : Value} (hx : RepC w S x [vx]) (hy : RepC w S y [vy]) : (Op.equalIn (d + 1) t vx vy).run P w = .ok b w := by
  unfold eqK at h
  unfold kindT at ht
  split at h
  · simp only [Option.some.injEq] at h; subst h
    simp only [RepC, List.cons.injEq, and_true] at hx hy
    subst hx hy
    split at ht <;> first | (simp at ht; done) | (rename_i hu; exact run_equalIn_bool' w d t _ _ hu)
  · split at h
    · rename_i hk
      simp only [Option.some.injEq] at h; subst h hk
      simp only [RepC, List.cons.injEq, and_true] at hx hy
      subst hx hy
      split at ht <;> first | (simp at ht; done) | (rename_i hu; exact run_equalIn_int w d t _ _ _ _ hu)
    · simp at h
  · simp only [Option.some.injEq] at h; subst h
    simp only [RepC, List.cons.injEq, and_true] at hx hy
    subst hx hy
    split at ht <;> first | (simp at ht; done) | (rename_i hu; exact run_equalIn_string w d t _ _ hu)
  · simp at h
theorem eqKs_cons {k : Nat} {ks : List Nat} {xs ys : List D} {b : Bool} (h : eqKs (k :: ks) xs ys = some b) : ∃ x xs' y ys' b1 b2, xs = x :: xs' ∧ ys = y :: ys' ∧ eqK k x y = some b1 ∧ eqKs ks xs' ys' = some b2 ∧ b = (b1 && b2) := by
  cases xs with
  | nil => simp [eqKs] at h
  | cons x xs' =>
    cases ys with
    | nil => simp [eqKs] at h
    | cons y ys' =>
      simp only [eqKs] at h
      split at h
      · rename_i a b' h1 h2
        simp only [Option.some.injEq] at h
        exact ⟨x, xs', y, ys', a, b', rfl, rfl, h1, h2, h.symm⟩
      · simp at h
theorem eqFields_run {S : Nat → Prop} (d : Nat) (va vb : List Value) : ∀ {fs : List Field} {ks : List Nat} {o : Nat} {xs ys : List D} {b : Bool}, (fs.zipIdx o).all (fun x => x.1.offset == x.2 && x.1.name != "_") = true → (fs.map fun f => kind1 P f.type) = ks.map some → eqKs ks xs ys = some b →
    RepL w S xs (va.drop o) → RepL w S ys (vb.drop o) → (Op.eqFields (d + 1) va.toArray vb.toArray fs).run P w = .ok b w
  | [], ks, o, xs, ys, b, _, hk, h, _, _ => by
    have : ks = [] := by simpa using hk.symm
    subst this
    cases xs <;> cases ys <;> simp [eqKs] at h
    subst h; simp [Op.eqFields]
  | f :: fs, ks, o, xs, ys, b, ha, hk, h, hx, hy => by
    cases ks with
    | nil => simp at hk
    | cons k ks =>
      simp only [List.map_cons, List.cons.injEq] at hk
      obtain ⟨x, xs', y, ys', b1, b2, rfl, rfl, h1, h2, rfl⟩ := eqKs_cons h
      rw [List.zipIdx_cons, List.all_cons, Bool.and_eq_true, Bool.and_eq_true] at ha
      obtain ⟨⟨ho, hn⟩, ha⟩ := ha
      simp only [beq_iff_eq, bne_iff_ne] at ho hn
      unfold RepL at hx hy
      obtain ⟨v, r, hv, _, hx1, hx2⟩ := hx
      obtain ⟨u, s, hu, _, hy1, hy2⟩ := hy
      have gv : va[o]? = some v := by
        have := congrArg (fun l : List Value => l[0]?) hv
        simpa [List.getElem?_drop] using this
      have gu : vb[o]? = some u := by
        have := congrArg (fun l : List Value => l[0]?) hu
        simpa [List.getElem?_drop] using this
      have dv : va.drop (o + 1) = r := by rw [← List.drop_drop, hv]; rfl
      have du : vb.drop (o + 1) = s := by rw [← List.drop_drop, hu]; rfl
      obtain ⟨g1, g2, g3⟩ := kind1_agg hk.1
      have e1 := run_part (P := P) (w := w) va f.offset g1 g2 (v := v) (by rw [ho]; simpa using gv)
      have e2 := run_part (P := P) (w := w) vb f.offset g1 g2 (v := u) (by rw [ho]; simpa using gu)
      have e3 := eqK_run h1 g3 d hx1 hy1
      have e4 := eqFields_run d va vb (o := o + 1) ha hk.2 h2 (by rw [dv]; exact hx2) (by rw [du]; exact hy2)
      simp only [Op.eqFields, ite_true, Sem.run_bind, e1, e2, e3, Result.andThen_ok, ne_eq, hn, not_false_eq_true]
      cases b1 with
      | true => simp [e4]
      | false => simp
theorem eqItems_run {S : Nat → Prop} (d : Nat) (va vb : List Value) {e : TypeId} {k : Nat} (hk : kind1 P e = some k) : ∀ {n : Nat} {o : Nat} {xs ys : List D} {b : Bool}, eqKs (List.replicate n k) xs ys = some b →
    RepL w S xs (va.drop o) → RepL w S ys (vb.drop o) → (Op.eqItems (d + 1) e 1 va.toArray vb.toArray (List.range' o n)).run P w = .ok b w
  | 0, o, xs, ys, b, h, _, _ => by
    cases xs <;> cases ys <;> simp [eqKs] at h
    subst h; simp [Op.eqItems]
  | n + 1, o, xs, ys, b, h, hx, hy => by
    rw [List.replicate_succ] at h
    obtain ⟨x, xs', y, ys', b1, b2, rfl, rfl, h1, h2, rfl⟩ := eqKs_cons h
    unfold RepL at hx hy
    obtain ⟨v, r, hv, _, hx1, hx2⟩ := hx
    obtain ⟨u, s, hu, _, hy1, hy2⟩ := hy
    have gv : va[o]? = some v := by
      have := congrArg (fun l : List Value => l[0]?) hv
      simpa [List.getElem?_drop] using this
    have gu : vb[o]? = some u := by
      have := congrArg (fun l : List Value => l[0]?) hu
      simpa [List.getElem?_drop] using this
    have dv : va.drop (o + 1) = r := by rw [← List.drop_drop, hv]; rfl
    have du : vb.drop (o + 1) = s := by rw [← List.drop_drop, hu]; rfl
    obtain ⟨g1, g2, g3⟩ := kind1_agg hk
    have e1 := run_part (P := P) (w := w) va (o * 1) g1 g2 (v := v) (by simpa using gv)
    have e2 := run_part (P := P) (w := w) vb (o * 1) g1 g2 (v := u) (by simpa using gu)
    have e3 := eqK_run h1 g3 d hx1 hy1
    have e4 := eqItems_run d va vb hk (o := o + 1) h2 (by rw [dv]; exact hx2) (by rw [du]; exact hy2)
    rw [List.range'_succ]
    simp only [Op.eqItems, Sem.run_bind, e1, e2, e3, Result.andThen_ok]
    cases b1 with
    | true => simp [e4]
    | false => simp
theorem flatKs_run {S : Nat → Prop} {t : TypeId} {ks : List Nat} (hf : flatKs P t = some ks) {xs ys : List D} {b : Bool} (h : eqKs ks xs ys = some b) {va vb : List Value} (hx : RepL w S xs va) (hy : RepL w S ys vb) : (Op.equalIn 10000 t (.agg va.toArray) (.agg vb.toArray)).run P w = .ok b w := by
  unfold flatKs at hf
  split at hf
  · rename_i fs hu
    split at hf
    · rename_i hc
      simp only [Bool.and_eq_true, Bool.not_eq_true'] at hc
      have hfo : P.fieldsOf t = fs := by unfold Program.fieldsOf; rw [hu]
      rw [run_equalIn_struct w 9999 t va.toArray vb.toArray (by rw [hfo]; exact hu) hc.2, hfo]
      exact eqFields_run 9998 va vb hc.1 (seqO_some hf) h hx hy
    · simp at hf
  · rename_i n e hu
    simp only [Option.map_eq_some_iff] at hf
    obtain ⟨k, hk, rfl⟩ := hf
    obtain ⟨_, g2, _⟩ := kind1_agg hk
    unfold sizeT at g2
    simp only [Option.map_eq_some_iff] at g2
    obtain ⟨i, hi, hi1⟩ := g2
    have hc : P.cellsOf e = 1 := by unfold Program.cellsOf; rw [hi]; simpa using hi1
    rw [run_equalIn_array w 9999 va.toArray vb.toArray hu hi, hc, List.range_eq_range']
    exact eqItems_run 9998 va vb hk h hx hy
  · simp at hf
theorem sound_eqa (R : RelM c β M N w) {neg : Bool} {op : BinOp} (hop : op = if neg then .neq else .eql) {xt : TypeId} {ks : List Nat} (hf : flatKs P xt = some ks) (hg : P.eqGuardType P.depth xt = false) {x y : PV} {ox oy : Operand} {vx vy : Value} {run : Result Next} (hx : RepT w (SS c β M w) β M N x vx) (hy : RepT w (SS c β M w) β M N y vy)
    (hr : ∀ v, (eqGuard op xt ox oy vx vy).run P w = .ok () w → (binOp op xt vx vy).run P w = .ok v w → run = .ok (.value v) w) : Sound c β M N site w (eqaQ neg ks [x, y]) run := by
  unfold eqaQ
  split
  · rename_i xs ys h
    simp only [List.cons.injEq, and_true] at h
    obtain ⟨rfl, rfl⟩ := h
    obtain ⟨va, rfl, gx⟩ := Rep_agg.1 (RepT_d.1 hx)
    obtain ⟨vb, rfl, gy⟩ := Rep_agg.1 (RepT_d.1 hy)
    split
    · rename_i b hb
      have he := flatKs_run (P := P) (w := w) hf hb gx gy
      refine sound_one R (v' := .bool (b != neg)) (hr _ (run_eqGuard_agg w op xt ox oy _ _ hg) ?_) (Rep_bool.2 rfl)
      subst hop
      cases neg with
      | false => simp only [Bool.false_eq_true, if_false]; rw [run_eql_struct, he]; simp
      | true => simp only [if_true]; rw [run_neq_struct, he]; simp
    · exact sound_fail
  · exact sound_fail

theorem RepE_cellsAt_same {w' : World} {S S' : Nat → Prop} {sz b o : Nat} {xs : List D} {cs : Array Value} {T T' : TypeId} {fr fr' : Nat × Nat} (hn : w'.heap[b]? = some (.cells cs T fr)) (hh : w.heap[b]? = some (.cells cs T' fr')) (hS : ∀ b, S b → S' b ∧ w'.heap[b]? = w.heap[b]?) (h : RepE w S sz b o xs) : RepE w' S' sz b o xs := by
  refine RepE.cells hS (fun off u _ _ hu => ?_) h
  unfold World.cell? at hu ⊢
  rw [hh] at hu; rw [hn]
  exact hu
theorem freeze_heap {b n : Nat} {cs : Array Value} {T : TypeId} {fr : Nat × Nat} (hh : w.heap[b]? = some (.cells cs T fr)) :
    (w.freeze ⟨b, n, none⟩ 1).heap[b]? = some (.cells cs T (if fr.1 == fr.2 then (n, n + 1) else (min fr.1 n, max fr.2 (n + 1)))) := by
  unfold World.freeze
  rw [if_neg (by decide)]
  simp only [Array.getElem?_modify, if_true, hh, Option.map_some]
theorem freeze_other {b n k : Nat} (hk : k ≠ b) : (w.freeze ⟨b, n, none⟩ 1).heap[k]? = w.heap[k]? := by
  unfold World.freeze
  rw [if_neg (by decide)]
  simp only [Array.getElem?_modify]
  rw [if_neg (by omega)]
theorem freeze_size {b n : Nat} : (w.freeze ⟨b, n, none⟩ 1).heap.size = w.heap.size := by
  unfold World.freeze
  rw [if_neg (by decide)]
  simp
/-- A row of the call's own is marked behind its end. -/
theorem mark_row (R : RelM c β M N w) {id sz b : Nat} {xs : List D} {cs : Array Value} {T : TypeId} {fr : Nat × Nat} (hm : M id = some (.row true sz xs)) (hb : β id = some b)
    (hh : w.heap[b]? = some (.cells cs T fr)) :
    RelM c β (over [(id, .row true sz xs)] M) N (w.freeze ⟨b, cs.size, none⟩ 1) ∧ Later w (w.freeze ⟨b, cs.size, none⟩ 1) (SS c β M w) (SS c β (over [(id, .row true sz xs)] M) (w.freeze ⟨b, cs.size, none⟩ 1)) β β M (over [(id, .row true sz xs)] M) N N := by
  obtain ⟨hlt, hbor⟩ := R.ok id _ b hm hb
  simp only [Blk.bor, Bool.false_eq_true, if_false] at hbor
  have hold : Unfr cs.size fr ∧ xs.length * sz ≤ cs.size ∧ RepE w (SS c β M w) sz b 0 xs := by
    rcases R.mem id _ hm with ⟨h1, _⟩ | ⟨b', cs2, T2, fr2, h1, h2, h3, h4, _, h6⟩
    · rw [hb] at h1; simp at h1
    · rw [hb] at h1; simp only [Option.some.injEq] at h1; subst h1
      rw [hh] at h2; simp only [Option.some.injEq, Obj.cells.injEq] at h2
      obtain ⟨rfl, _, rfl⟩ := h2
      exact ⟨h3, h4, h6⟩
  obtain ⟨hfr, hlen, hE⟩ := hold
  have hnew := freeze_heap (w := w) (n := cs.size) hh
  have hos : (w.freeze ⟨b, cs.size, none⟩ 1).os = w.os ∧ (w.freeze ⟨b, cs.size, none⟩ 1).tape = w.tape ∧ (w.freeze ⟨b, cs.size, none⟩ 1).output = w.output := by
    unfold World.freeze
    rw [if_neg (by decide)]
    exact ⟨rfl, rfl, rfl⟩
  have hX := RepE_X hh (o := 0) (by omega) hE
  refine upd (id := id) (blk := .row true sz xs) (bo := some b) (kill := none) (wb := some b) R (fun i => by rw [over_one]; simp) (fun i => by by_cases h : i = id <;> simp [h, hb]) (by simp)
    ⟨hos.1.trans R.keep.os, hos.2.1.trans R.keep.tape, hos.2.2.trans R.keep.output, by have := R.keep.size; rw [freeze_size]; exact this, fun k h1 h2 => ?_⟩ (by rw [freeze_size]; exact Nat.le_refl _) (fun k _ h2 => freeze_other fun e => h2 (by rw [e]))
    (fun k hk => ⟨id, _, Or.inl rfl, hm, rfl, by rw [hb]; exact hk⟩) (fun k hk => ?_) (fun h => by rw [hm] at h; simp at h) (fun o s zs hz b0 h0 => ?_) (fun _ _ h => by simp at h) (fun k hk => ?_) (fun hL => ?_)
  · rw [freeze_other (by omega)]; exact R.keep.block k h1 h2
  · simp only [Option.some.injEq] at hk; subst hk
    exact Or.inl ⟨_, hm, hb, fun _ => rfl⟩
  · simp only [Blk.row.injEq] at hz
    obtain ⟨_, rfl, rfl⟩ := hz
    rw [hm] at h0; simp only [Option.some.injEq] at h0; subst h0
    refine ⟨true, xs, rfl, Nat.le_refl _, fun _ => ⟨hb.symm, fun k hk => ?_⟩⟩
    rw [hb] at hk; simp only [Option.some.injEq] at hk; subst hk
    simp only [bsz, hnew, hh]
  · simp only [Option.some.injEq] at hk; subst hk
    simpa [Blk.bor] using hbor
  · refine Or.inr ⟨b, cs, T, _, hb, hnew, ?_, hlen, by simp, ?_⟩
    · unfold Unfr at hfr ⊢
      split
      · right; exact Nat.le_refl _
      · rename_i hne
        have hne : fr.1 ≠ fr.2 := by simpa using hne
        right; simp only; omega
    · exact RepE_cellsAt_same hnew hh hL.hS hE
theorem sound_cvb (R : RelM c β M N w) {t e : TypeId} (ht : P.underlying t = some (.slice e)) (he : P.underlying e = some (.int .u8)) {x : PV} {vx : Value} {run : Result Next} (hx : RepT w (SS c β M w) β M N x vx)
    (hr : ∀ v w', (convert t t vx).run P w = .ok v w' → run = .ok (.value v) w') : Sound c β M N site w (cvbQ [x]) run := by
  cases x <;> try exact sound_fail
  rename_i id ver off len
  refine sound_look fun b hb => ?_
  cases b <;> try exact sound_fail
  rename_i own sz xs
  cases own with
  | false => exact sound_fail
  | true =>
    refine sound_ask fun hcond => sound_ret ?_
    obtain ⟨_, hk, h3⟩ := RepT_ref.1 hx
    obtain ⟨h4, h5⟩ := h3 _ _ _ hb
    obtain ⟨h6, h7⟩ := h5 hcond.1
    rcases h7 with ⟨_, _, h8⟩ | ⟨bb, o, cc, h8, rfl, _, _⟩
    · omega
    rcases R.mem id _ hb with ⟨h9, _⟩ | ⟨b', cs, T, fr, h9, hh, _⟩
    · rw [h8] at h9; simp at h9
    rw [h8] at h9; simp only [Option.some.injEq] at h9; subst h9
    obtain ⟨q1, q2⟩ := mark_row R hb h8 hh
    have hrun : (convert t t (.slice (some ⟨bb, o, none⟩) len cc)).run P w = .ok (.slice (some ⟨bb, o, none⟩) len cc) (w.freeze ⟨bb, cs.size, none⟩ 1) := by
      have hsh : w.shape? bb = some (T, cs.size) := by unfold World.shape?; rw [hh]
      simp only [convert, Sem.run_bind, run_underlying ht, run_underlying he, Result.andThen_ok, beq_self_eq_true, markStringish, shape, Sem.run, hsh, freeze]
      rfl
    refine ⟨β, _, _, Or.inl (hr _ _ hrun), q1, q2, hx.later q2, fun i hi => Or.inl (Or.inr ?_)⟩
    by_cases hi' : i = id
    · subst hi'; rw [hb]; rfl
    · simp [Mem.get, Ne.symm hi'] at hi

theorem op_sound1 (R : RelM c β M N w) (hE : ∀ i, RepT w (SS c β M w) β M N (E i) (a.tmps.getD i undef)) (hN : N ≤ site) (hsite : ∀ i, site ≤ i → i < site + 64 → M i = none) {o : Oper} {r : ROp} {xs : List RO}
    (hc : compOp1 P o = some (r, xs)) : Exec P c β M N site a w o (opQ site r (xs.map (RO.val E))) := by
  unfold compOp1 at hc
  split at hc
  · rename_i t len parts ho
    split at hc
    rotate_left
    · simp at hc
    rename_i hcond
    obtain ⟨rfl, hp⟩ := hcond
    obtain rfl : parts = #[] := Array.size_eq_zero_iff.1 hp
    split at hc
    · rename_i e he
      have hu : P.underlying t = some (.slice e) := by
        unfold elemT at he; split at he
        · simp only [Option.some.injEq] at he; subst he; assumption
        · simp at he
      split at hc
      · rename_i sz hs
        simp only [Option.some.injEq, Prod.mk.injEq] at hc
        obtain ⟨rfl, rfl⟩ := hc
        refine (sound_nslice R hu hs fun v w' hv => ?_).exec
        simp [execOp, ho, hv]
      · simp at hc
    · simp at hc
  · rename_i s d x ho
    split at hc
    · rename_i e0 e hu0 hu
      split at hc
      · rename_i hcond
        obtain ⟨rfl, he0⟩ := hcond
        have he : P.underlying e = some (.int .u8) := by unfold u8T at he0; split at he0 <;> simp_all
        obtain ⟨y, h4, rfl, rfl⟩ := opt1_some hc
        exact (sound_cvb R hu he (ro_rep hE h4) fun v w' hv => by simp [execOp, ho, hv]).exec
      · simp at hc
    · simp at hc
  · rename_i op xt x y yt ho
    split at hc
    · simp at hc
    rename_i hg
    have hrun : ∀ v, (eqGuard op xt x y (a.eval x) (a.eval y)).run P w = .ok () w → (binOp op xt (a.eval x) (a.eval y)).run P w = .ok v w → (execOp a.eval o).run P w = .ok (.value v) w := fun v hg hv => by simp [execOp, ho, hg, hv]
    split at hc
    · rename_i ks hk
      split at hc
      · obtain ⟨p, q, h4, h5, rfl, rfl⟩ := opt2_some hc
        exact (sound_eqa (neg := false) (op := .eql) R rfl hk (by simpa using hg) (ro_rep hE h4) (ro_rep hE h5) hrun).exec
      · obtain ⟨p, q, h4, h5, rfl, rfl⟩ := opt2_some hc
        exact (sound_eqa (neg := true) (op := .neq) R rfl hk (by simpa using hg) (ro_rep hE h4) (ro_rep hE h5) hrun).exec
      · simp at hc
    · simp at hc
  · simp at hc

theorem op_sound (R : RelM c β M N w) (hE : ∀ i, RepT w (SS c β M w) β M N (E i) (a.tmps.getD i undef)) (hN : N ≤ site) (hsite : ∀ i, site ≤ i → i < site + 64 → M i = none) {o : Oper} {r : ROp} {xs : List RO}
    (hc : compOp P o = some (r, xs)) : Exec P c β M N site a w o (opQ site r (xs.map (RO.val E))) := by
  unfold compOp at hc
  split at hc
  · rename_i q hq
    simp only [Option.some.injEq] at hc; subst hc
    exact op_sound0 R hE hN hsite hq
  · split at hc
    · rename_i q hq
      simp only [Option.some.injEq] at hc; subst hc
      exact op_sound1 R hE hN hsite hq
    · simp only [Option.some.injEq, Prod.mk.injEq] at hc
      obtain ⟨rfl, rfl⟩ := hc
      exact Exec.fail
end
end Go.RW

/-! Regions. -/
namespace Go.RW

inductive All2 {α γ : Type} (R : α → γ → Prop) : List α → List γ → Prop where
  | nil : All2 R [] []
  | cons {x : α} {y : γ} {xs : List α} {ys : List γ} : R x y → All2 R xs ys → All2 R (x :: xs) (y :: ys)

def envE (env : Mem PV) (i : Nat) : PV := match Mem.get env i with | some p => p | none => .any
def putE (d : Option Nat) (v : PV) (env : Mem PV) : Mem PV := match d with | some d => (d, v) :: env | none => env
def updE (d : Option Nat) (v : PV) (E : Nat → PV) : Nat → PV := fun i => if d = some i then v else E i

theorem envE_put (d : Option Nat) (v : PV) (env : Mem PV) : envE (putE d v env) = updE d v (envE env) := by
  funext i
  cases d with
  | none => simp [putE, updE]
  | some d =>
    simp only [putE, updE, envE, Mem.get, Option.some.injEq]
    by_cases h : d = i <;> simp [h]
theorem mf_append (u mem : Mem Blk) : mf (u ++ mem) = over u (mf mem) := by
  funext i
  unfold mf over
  rw [Mem.get_append]
  cases u.get i <;> rfl

section
variable {P : Program} {c : Cx} {nt : Nat} {E : Nat → PV} {M : MF} {a : Act} {w : World}

def RelS (c : Cx) (nt : Nat) (E : Nat → PV) (M : MF) (a : Act) (w : World) : Prop :=
  ∃ β, RelM c β M 0 w ∧ (∀ i, RepT w (SS c β M w) β M 0 (E i) (a.tmps.getD i undef)) ∧ a.defers = [] ∧ a.tmps.size = nt

theorem put_getD {a : Act} {d : Option Nat} {v : Value} (h : ∀ k, d = some k → k < a.tmps.size) (i : Nat) : (a.put d v).tmps.getD i undef = if d = some i then v else a.tmps.getD i undef := by
  cases d with
  | none => simp [Act.put]
  | some k =>
    have := h k rfl
    by_cases hi : k = i
    · subst hi; simp [Act.put, this]
    · simp [Act.put, hi]
theorem put_size {a : Act} {d : Option Nat} {v : Value} : (a.put d v).tmps.size = a.tmps.size := by cases d <;> simp [Act.put]
theorem put_defers' {a : Act} {d : Option Nat} {v : Value} : (a.put d v).defers = a.defers := by cases d <;> rfl

theorem step_op {o : Oper} {r : ROp} {xs : List RO} {site : Nat} (hc : compOp P o = some (r, xs)) (hd : ∀ k, o.dst = some k → k < nt) (hS : RelS c nt E M a w) (hsite : ∀ i, site ≤ i → i < site + 64 → M i = none) {H : PV → Mem Blk → Prop}
    (hG : (opQ site r (xs.map (RO.val E))).wp M (Res.fin P H)) :
    ∃ v u, H v u ∧ (∀ id, (u.get id).isSome → (M id).isSome ∨ (site ≤ id ∧ id < site + 64)) ∧ ∀ (K : Act → World → Prop) (Q : Exit → Act → World → Prop), (∀ a' w', RelS c nt (updE o.dst v E) (over u M) a' w' → K a' w') → o.wp P a w K Q := by
  obtain ⟨β, R, hE, hdef, hsz⟩ := hS
  obtain ⟨v, u, h1, h2, h3⟩ := op_sound R hE (Nat.zero_le _) hsite hc H hG
  refine ⟨v, u, h1, fun id hid => ?_, fun K Q hK => h2 K Q fun β' v' w' R' L hv => hK _ _ ⟨β', R', fun i => ?_, by rw [put_defers', hdef], by rw [put_size, hsz]⟩⟩
  · rcases h3 id hid with h | h
    · rcases h with h | h
      · omega
      · exact Or.inl h
    · exact Or.inr h
  · rw [put_getD (fun k hk => by rw [hsz]; exact hd k hk)]
    unfold updE
    split
    · exact hv
    · exact (hE i).later L

theorem skip_op {d : Option Nat} (hd : ∀ k, d = some k → k < nt) (hS : RelS c nt E M a w) : RelS c nt (updE d (.tup []) E) M (a.put d undef) w := by
  obtain ⟨β, R, hE, hdef, hsz⟩ := hS
  refine ⟨β, R, fun i => ?_, by rw [put_defers', hdef], by rw [put_size, hsz]⟩
  rw [put_getD (fun k hk => by rw [hsz]; exact hd k hk)]
  unfold updE
  split
  · exact RepT_tup.2 ⟨[], rfl, by unfold RepTL; rfl⟩
  · exact hE i

/-- An operation and what it was compiled to. -/
structure Comp1 (P : Program) (nt : Nat) (ops : Array Oper) (o : Oper) (r : ROper) : Prop where
  op : compOp P o = some (r.op, r.xs)
  dst : r.dst = o.dst
  lt : ∀ k, o.dst = some k → k < nt
  guard : (o.guard = none ∧ r.guard = none) ∨ ∃ j want d, o.guard = some (j, want) ∧ r.guard = some (d, want) ∧ (ops[j]?).bind (·.dst) = some d

/-- Whether an operation is wanted, where that is clear. -/
theorem wanted_none {ops : Array Oper} {o : Oper} {r : ROper} (h : Comp1 P nt ops o r) (hg : r.guard = none) : Region.wanted o (yielded ops a.tmps) = true := by
  rcases h.guard with ⟨h1, _⟩ | ⟨j, want, d, _, h2, _⟩
  · simp [Region.wanted, h1]
  · rw [hg] at h2; simp at h2
theorem getD_some {a : Act} {d : Nat} {v : Value} (h : a.tmps.getD d undef = v) (hv : v ≠ undef) : a.tmps[d]? = some v := by
  rw [Array.getD_eq_getD_getElem?] at h
  cases hq : a.tmps[d]? with
  | none => rw [hq] at h; exact absurd h.symm hv
  | some u => rw [hq] at h; simp at h; rw [h]
theorem wanted_bool {ops : Array Oper} {o : Oper} {r : ROper} (h : Comp1 P nt ops o r) {g : Nat} {want b : Bool} (hg : r.guard = some (g, want)) (hS : RelS c nt E M a w) (hb : E g = .d (.bool b)) : Region.wanted o (yielded ops a.tmps) = (b == want) := by
  rcases h.guard with ⟨_, h1⟩ | ⟨j, want', d, h1, h2, h3⟩
  · rw [hg] at h1; simp at h1
  · rw [hg] at h2; simp only [Option.some.injEq, Prod.mk.injEq] at h2
    obtain ⟨rfl, rfl⟩ := h2
    obtain ⟨β, R, hE, _, _⟩ := hS
    have := hE g
    rw [hb] at this
    have := getD_some (RepT_bool.1 this) (by simp [undef])
    simp [Region.wanted, h1, yielded, h3, this]
theorem wanted_tup {ops : Array Oper} {o : Oper} {r : ROper} (h : Comp1 P nt ops o r) {g : Nat} {want : Bool} (hg : r.guard = some (g, want)) (hS : RelS c nt E M a w) (hb : E g = .tup []) : Region.wanted o (yielded ops a.tmps) = false := by
  rcases h.guard with ⟨_, h1⟩ | ⟨j, want', d, h1, h2, h3⟩
  · rw [hg] at h1; simp at h1
  · rw [hg] at h2; simp only [Option.some.injEq, Prod.mk.injEq] at h2
    obtain ⟨rfl, rfl⟩ := h2
    obtain ⟨β, R, hE, _, _⟩ := hS
    have := hE g
    rw [hb] at this
    obtain ⟨vs, h4, h5⟩ := RepT_tup.1 this
    unfold RepTL at h5
    subst h5
    rw [Array.getD_eq_getD_getElem?] at h4
    cases hq : a.tmps[g]? with
    | none => simp [Region.wanted, h1, yielded, h3, hq]
    | some u =>
      rw [hq] at h4; simp at h4; subst h4
      simp [Region.wanted, h1, yielded, h3, hq]

/-- A memory with some blocks anew. -/
def updM (u mem : Mem Blk) : Mem Blk := u ++ mem.filter fun x => (Mem.get u x.1).isNone
theorem updM_nil (mem : Mem Blk) : updM [] mem = mem := by
  unfold updM
  rw [List.nil_append, List.filter_eq_self]
  intro x _; rfl
theorem get_filter {u : Mem Blk} {i : Nat} (h : Mem.get u i = none) : ∀ mem : Mem Blk, Mem.get (mem.filter fun x => (Mem.get u x.1).isNone) i = Mem.get mem i
  | [] => rfl
  | (j, b) :: mem => by
    rw [List.filter_cons]
    by_cases hj : j = i
    · subst hj
      simp only [h, Option.isNone_none, if_true, Mem.get]
    · split
      · simp only [Mem.get, if_neg hj]; exact get_filter h mem
      · simp only [Mem.get, if_neg hj]; exact get_filter h mem
theorem mf_updM (u mem : Mem Blk) : mf (updM u mem) = over u (mf mem) := by
  funext i
  unfold updM mf over
  rw [Mem.get_append]
  cases h : Mem.get u i with
  | none => simp only; exact get_filter h mem
  | some b => rfl

def rwOps (P : Program) : List ROper → Nat → Mem PV → Mem Blk → (Mem PV → Mem Blk → Prop) → Prop
  | [], _, env, mem, G => G env mem
  | o :: r, site, env, mem, G => match o.guard with
    | none => (opQ site o.op (o.xs.map (RO.val (envE env)))).wp (mf mem) (Res.fin P fun v u => rwOps P r (site + 64) (putE o.dst v env) (updM u mem) G)
    | some (g, want) => match envE env g with
      | .d (.bool b) => if b = want then (opQ site o.op (o.xs.map (RO.val (envE env)))).wp (mf mem) (Res.fin P fun v u => rwOps P r (site + 64) (putE o.dst v env) (updM u mem) G)
          else rwOps P r (site + 64) (putE o.dst (.tup []) env) mem G
      | .tup [] => rwOps P r (site + 64) (putE o.dst (.tup []) env) mem G
      | _ => False

def Fresh (mem : Mem Blk) (next : Nat) : Prop := ∀ id, (mf mem id).isSome → id < next
theorem Fresh.none {mem : Mem Blk} {next i : Nat} (h : Fresh mem next) (hi : next ≤ i) : mf mem i = none := by
  cases hq : mf mem i with
  | none => rfl
  | some b => have := h i (by simp [hq]); omega
theorem Fresh.step {mem u : Mem Blk} {site : Nat} (h : Fresh mem site) (hu : ∀ id, (u.get id).isSome → (mf mem id).isSome ∨ (site ≤ id ∧ id < site + 64)) : Fresh (updM u mem) (site + 64) := by
  intro id hid
  rw [mf_updM] at hid
  unfold over at hid
  split at hid
  · rename_i b hb
    rcases hu id (by simp [hb]) with h1 | h1
    · have := h id h1; omega
    · exact h1.2
  · have := h id hid; omega

theorem rwOps_sound {all : Array Oper} {Q : Exit → Act → World → Prop} {G : Mem PV → Mem Blk → Prop} : ∀ {ops : List Oper} {rops : List ROper} {site : Nat} {env : Mem PV} {mem : Mem Blk} {a : Act} {w : World},
    All2 (Comp1 P nt all) ops rops → RelS c nt (envE env) (mf mem) a w → Fresh mem site → rwOps P rops site env mem G →
    (∀ env' mem' a' w', G env' mem' → RelS c nt (envE env') (mf mem') a' w' → Fresh mem' (site + 64 * rops.length) → Q .normal a' w') → wpList P all Q ops a w
  | [], rops, site, env, mem, a, w, hc, hS, hf, hG, hQ => by
    cases hc
    exact hQ env mem a w hG hS (by simpa using hf)
  | o :: ops, rops, site, env, mem, a, w, hc, hS, hf, hG, hQ => by
    cases hc with
    | cons h1 h2 =>
      rename_i r rops
      have hlt : ∀ k, r.dst = some k → k < nt := fun k hk => h1.lt k (h1.dst ▸ hk)
      have run : (opQ site r.op (r.xs.map (RO.val (envE env)))).wp (mf mem) (Res.fin P fun v u => rwOps P rops (site + 64) (putE r.dst v env) (updM u mem) G) → o.wp P a w (wpList P all Q ops) Q := by
        intro hG
        obtain ⟨v, u, h3, h4, h5⟩ := step_op h1.op h1.lt hS (fun i h _ => hf.none h) hG
        refine h5 _ _ fun a' w' hS' => ?_
        rw [← h1.dst, ← envE_put, ← mf_updM] at hS'
        exact rwOps_sound h2 hS' (hf.step h4) h3 fun env' mem' a' w' g s f => hQ env' mem' a' w' g s (by simp only [List.length_cons]; rw [show site + 64 * (rops.length + 1) = site + 64 + 64 * rops.length by omega]; exact f)
      have skip : rwOps P rops (site + 64) (putE r.dst (.tup []) env) mem G → wpList P all Q ops (a.put o.dst undef) w := by
        intro hG
        have hS' := skip_op (d := r.dst) hlt hS
        rw [← envE_put, h1.dst] at hS'
        rw [h1.dst] at hG
        exact rwOps_sound h2 hS' (fun id h => by have := hf id h; omega) hG fun env' mem' a' w' g s f => hQ env' mem' a' w' g s (by simp only [List.length_cons]; rw [show site + 64 * (rops.length + 1) = site + 64 + 64 * rops.length by omega]; exact f)
      simp only [rwOps] at hG
      unfold wpList
      split at hG
      · rename_i hg
        rw [if_pos (wanted_none h1 hg)]
        exact Or.inl (run hG)
      · rename_i g want hg
        split at hG
        · rename_i b hb
          rw [wanted_bool h1 hg hS hb]
          split at hG
          · rename_i he; subst he
            rw [if_pos (by simp)]
            exact Or.inl (run hG)
          · rename_i he
            rw [if_neg (by simpa using he)]
            exact skip hG
        · rename_i hb
          rw [wanted_tup h1 hg hS hb]
          exact skip hG
        · exact hG.elim
end
end Go.RW

/-! Regions whose order is open. -/
namespace Go.RW

def lastW (p : Nat → Bool) : Nat → Option Nat
  | 0 => none
  | k + 1 => if p k then some k else lastW p k
theorem lastW_congr {p q : Nat → Bool} : ∀ {n : Nat}, (∀ i, i < n → p i = q i) → lastW p n = lastW q n
  | 0, _ => rfl
  | n + 1, h => by
    simp only [lastW]
    rw [h n (by omega), lastW_congr fun i hi => h i (by omega)]
theorem lastW_some {p : Nat → Bool} : ∀ {n i : Nat}, lastW p n = some i → i < n ∧ p i = true
  | 0, i, h => by simp [lastW] at h
  | n + 1, i, h => by
    simp only [lastW] at h
    split at h
    · rename_i hp; simp only [Option.some.injEq] at h; subst h; exact ⟨by omega, hp⟩
    · have := lastW_some h; exact ⟨by omega, this.2⟩
theorem lastW_none {p : Nat → Bool} : ∀ {n : Nat}, lastW p n = none → ∀ i, i < n → p i = false
  | 0, _, i, hi => by omega
  | n + 1, h, i, hi => by
    simp only [lastW] at h
    split at h
    · simp at h
    · rename_i hp
      by_cases he : i = n
      · subst he; simpa using hp
      · exact lastW_none h i (by omega)
theorem lastW_eq {p : Nat → Bool} : ∀ {n i : Nat}, i < n → p i = true → (∀ k, i < k → k < n → p k = false) → lastW p n = some i
  | 0, i, h, _, _ => by omega
  | n + 1, i, h, hp, hk => by
    simp only [lastW]
    by_cases he : i = n
    · subst he; rw [if_pos hp]
    · rw [if_neg (by rw [hk n (by omega) (by omega)]; simp)]
      exact lastW_eq (by omega) hp fun k h1 h2 => hk k h1 (by omega)
theorem lastW_lt {p : Nat → Bool} {i n : Nat} (hi : i ≤ n) : lastW (fun j => decide (j < i) && p j) n = lastW p i := by
  induction n with
  | zero => have : i = 0 := by omega
            subst this; rfl
  | succ n ih =>
    by_cases he : i = n + 1
    · subst he; exact lastW_congr fun j hj => by simp [hj]
    · simp only [lastW]
      rw [if_neg (by simp; omega)]
      exact ih (by omega)

section
variable (D : Nat → Option Nat) (V : Nat → PV) (U : Nat → Mem Blk)
def EL (E0 : Nat → PV) (L : Nat → Bool) (n : Nat) : Nat → PV := fun t => match lastW (fun i => L i && D i == some t) n with | some i => V i | none => E0 t
def ML (M0 : MF) (L : Nat → Bool) (n : Nat) : MF := fun id => match lastW (fun i => L i && ((U i).get id).isSome) n with | some i => (U i).get id | none => M0 id
end

section
variable {D : Nat → Option Nat} {V V' : Nat → PV} {U U' : Nat → Mem Blk} {E0 : Nat → PV} {M0 : MF}
theorem EL_congr {n : Nat} (h : ∀ i, i < n → V i = V' i) (L : Nat → Bool) : EL D V E0 L n = EL D V' E0 L n := by
  funext t
  unfold EL
  split
  · rename_i i hi; exact h i (lastW_some hi).1
  · rfl
theorem ML_congr {n : Nat} (h : ∀ i, i < n → U i = U' i) (L : Nat → Bool) : ML U M0 L n = ML U' M0 L n := by
  funext id
  have : lastW (fun i => L i && ((U i).get id).isSome) n = lastW (fun i => L i && ((U' i).get id).isSome) n := lastW_congr fun i hi => by rw [h i hi]
  unfold ML
  rw [this]
  split
  · rename_i i hi; rw [h i (lastW_some hi).1]
  · rfl
theorem EL_succ (k : Nat) : EL D V E0 (fun _ => true) (k + 1) = updE (D k) (V k) (EL D V E0 (fun _ => true) k) := by
  funext t
  unfold EL updE
  simp only [lastW, Bool.true_and]
  by_cases h : D k = some t <;> simp [h]
theorem ML_succ (k : Nat) : ML U M0 (fun _ => true) (k + 1) = over (U k) (ML U M0 (fun _ => true) k) := by
  funext id
  unfold ML over
  simp only [lastW, Bool.true_and]
  cases h : (U k).get id <;> simp [h]

/-- What an outcome comes to. -/
def Res.FinOK (P : Program) (res : Res) (v : PV) (u : Mem Blk) : Prop := match res with
  | .val v' u' => v = v' ∧ u = u'
  | .call f aps k => ∃ outs r mr, CallOK P f aps outs r mr ∧ v = (k outs r mr).1 ∧ u = (k outs r mr).2
theorem Res.fin_ok {P : Program} {H : PV → Mem Blk → Prop} {res : Res} (h : res.fin P H) : ∃ v u, H v u ∧ res.FinOK P v u := by
  cases res with
  | val v u => exact ⟨v, u, h, rfl, rfl⟩
  | call f aps k => obtain ⟨outs, r, mr, h1, h2⟩ := h; exact ⟨_, _, h2, outs, r, mr, h1, rfl, rfl⟩
theorem Res.ok_fin {P : Program} {H : PV → Mem Blk → Prop} {res : Res} {v : PV} {u : Mem Blk} (h : res.FinOK P v u) (hH : H v u) : res.fin P H := by
  cases res with
  | val v' u' => obtain ⟨rfl, rfl⟩ := h; exact hH
  | call f aps k => obtain ⟨outs, r, mr, h1, rfl, rfl⟩ := h; exact ⟨outs, r, mr, h1, hH⟩

def disj (l l' : List Nat) : Bool := l.all fun i => !l'.contains i
def keys (u : Mem Blk) : List Nat := u.map (·.1)
theorem keys_get {u : Mem Blk} {id : Nat} (h : (u.get id).isSome) : id ∈ keys u := by
  obtain ⟨b, hb⟩ := Option.isSome_iff_exists.1 h
  exact List.mem_map_of_mem (Mem.get_mem hb)
theorem disj_get {l l' : List Nat} (h : disj l l' = true) {i : Nat} (hi : i ∈ l) : i ∉ l' := by
  have := List.all_eq_true.1 h i hi
  simpa using this

def clash (bef : List Nat) (rd wr : List Nat) : Nat → List (List Nat × List Nat) → Bool
  | _, [] => true
  | j, x :: recs => (bef.contains j || (disj x.2 rd && disj x.2 wr && disj wr x.1)) && clash bef rd wr (j + 1) recs

def rwDraw (P : Program) : List ROper → Nat → Mem PV → Mem Blk → List (List Nat × List Nat) → (Mem PV → Mem Blk → Prop) → Prop
  | [], _, env, mem, _, G => G env mem
  | o :: r, site, env, mem, recs, G => match o.guard with
    | none => (opQ site o.op (o.xs.map (RO.val (envE env)))).wpr (mf mem) fun rd res => res.fin P fun v u =>
        (clash o.bef rd (keys u) 0 recs && (keys u).all (fun i => (Mem.get mem i).isSome || (decide (site ≤ i) && decide (i < site + 64)))) = true ∧ rwDraw P r (site + 64) (putE o.dst v env) (updM u mem) (recs ++ [(rd, keys u)]) G
    | some (g, want) => match envE env g with
      | .d (.bool b) => if b = want then (opQ site o.op (o.xs.map (RO.val (envE env)))).wpr (mf mem) fun rd res => res.fin P fun v u =>
            (clash o.bef rd (keys u) 0 recs && (keys u).all (fun i => (Mem.get mem i).isSome || (decide (site ≤ i) && decide (i < site + 64)))) = true ∧ rwDraw P r (site + 64) (putE o.dst v env) (updM u mem) (recs ++ [(rd, keys u)]) G
          else rwDraw P r (site + 64) (putE o.dst (.tup []) env) mem (recs ++ [([], [])]) G
      | .tup [] => rwDraw P r (site + 64) (putE o.dst (.tup []) env) mem (recs ++ [([], [])]) G
      | _ => False

theorem clash_get {bef rd wr : List Nat} : ∀ {recs : List (List Nat × List Nat)} {j : Nat}, clash bef rd wr j recs = true → ∀ i x, recs[i]? = some x → j + i ∈ bef ∨ (disj x.2 rd = true ∧ disj x.2 wr = true ∧ disj wr x.1 = true)
  | [], j, _, i, x, h => by simp at h
  | y :: recs, j, hc, i, x, h => by
    simp only [clash, Bool.and_eq_true, Bool.or_eq_true] at hc
    cases i with
    | zero =>
      simp at h; subst h
      rcases hc.1 with h | h
      · left; simpa using h
      · exact Or.inr ⟨h.1.1, h.1.2, h.2⟩
    | succ i =>
      have := clash_get hc.2 i x (by simpa using h)
      rwa [show j + 1 + i = j + (i + 1) by omega] at this

/-- How a guard comes out. -/
def GuardIs (E : Nat → PV) (o : ROper) (b : Bool) : Prop := match o.guard with
  | none => b = true
  | some (g, want) => (∃ x, E g = .d (.bool x) ∧ b = (x == want)) ∨ (E g = .tup [] ∧ b = false)

/-- An operation's place in the order of the text. -/
structure SeqAt (P : Program) (rops : List ROper) (D : Nat → Option Nat) (V : Nat → PV) (U : Nat → Mem Blk) (RD : Nat → List Nat) (E0 : Nat → PV) (M0 : MF) (site0 k : Nat) (o : ROper) : Prop where
  run : (GuardIs (EL D V E0 (fun _ => true) k) o true ∧ ∃ res, (opQ (site0 + 64 * k) o.op (o.xs.map (RO.val (EL D V E0 (fun _ => true) k)))).Runs (ML U M0 (fun _ => true) k) (RD k) res ∧ res.FinOK P (V k) (U k)) ∨
    (GuardIs (EL D V E0 (fun _ => true) k) o false ∧ V k = .tup [] ∧ U k = [] ∧ RD k = [])
  apart : ∀ j, j < k → j ∈ o.bef ∨ ((∀ id, ((U j).get id).isSome → id ∉ RD k ∧ (U k).get id = none) ∧ ∀ id, ((U k).get id).isSome → id ∉ RD j)
  wr : ∀ id, ((U k).get id).isSome → (M0 id).isSome ∨ ∃ k', k' ≤ k ∧ site0 + 64 * k' ≤ id ∧ id < site0 + 64 * k' + 64 ∧ ((U k').get id).isSome

theorem rwDraw_seq {P : Program} {rops : List ROper} {site0 : Nat} {G : Mem PV → Mem Blk → Prop} (hD : ∀ i o, rops[i]? = some o → D i = o.dst) : ∀ {suf : List ROper} {k : Nat} {env : Mem PV} {mem : Mem Blk} {V : Nat → PV} {U : Nat → Mem Blk} {RD : Nat → List Nat},
    (∀ i, suf[i]? = rops[k + i]?) → envE env = EL D V E0 (fun _ => true) k → mf mem = ML U M0 (fun _ => true) k →
    (∀ i, i < k → ∀ o, rops[i]? = some o → SeqAt P rops D V U RD E0 M0 site0 i o) → (∀ i, i < k → (rops[i]?).isSome) →
    rwDraw P suf (site0 + 64 * k) env mem ((List.range k).map fun j => (RD j, keys (U j))) G →
    ∃ V' U' RD' env' mem', G env' mem' ∧ envE env' = EL D V' E0 (fun _ => true) (k + suf.length) ∧ mf mem' = ML U' M0 (fun _ => true) (k + suf.length) ∧ ∀ i, i < k + suf.length → ∀ o, rops[i]? = some o → SeqAt P rops D V' U' RD' E0 M0 site0 i o
  | [], k, env, mem, V, U, RD, hsuf, hE, hM, hseq, _, hG => ⟨V, U, RD, env, mem, hG, hE, hM, hseq⟩
  | o :: suf, k, env, mem, V, U, RD, hsuf, hE, hM, hseq, hall, hG => by
    have ho : rops[k]? = some o := by have := hsuf 0; simpa using this.symm
    have hDk := hD k o ho
    have step : ∀ v u rd, ((GuardIs (EL D V E0 (fun _ => true) k) o true ∧ ∃ res, (opQ (site0 + 64 * k) o.op (o.xs.map (RO.val (EL D V E0 (fun _ => true) k)))).Runs (ML U M0 (fun _ => true) k) rd res ∧ res.FinOK P v u) ∨
        (GuardIs (EL D V E0 (fun _ => true) k) o false ∧ v = .tup [] ∧ u = [] ∧ rd = [])) →
        (clash o.bef rd (keys u) 0 ((List.range k).map fun j => (RD j, keys (U j))) && (keys u).all (fun i => (Mem.get mem i).isSome || (decide (site0 + 64 * k ≤ i) && decide (i < site0 + 64 * k + 64)))) = true →
        rwDraw P suf (site0 + 64 * k + 64) (putE o.dst v env) (updM u mem) (((List.range k).map fun j => (RD j, keys (U j))) ++ [(rd, keys u)]) G →
        ∃ V' U' RD' env' mem', G env' mem' ∧ envE env' = EL D V' E0 (fun _ => true) (k + (o :: suf).length) ∧ mf mem' = ML U' M0 (fun _ => true) (k + (o :: suf).length) ∧ ∀ i, i < k + (o :: suf).length → ∀ o, rops[i]? = some o → SeqAt P rops D V' U' RD' E0 M0 site0 i o := by
      intro v u rd hrun hcl hG
      rw [Bool.and_eq_true] at hcl
      obtain ⟨hcl, hkeys⟩ := hcl
      let V1 : Nat → PV := fun i => if i = k then v else V i
      let U1 : Nat → Mem Blk := fun i => if i = k then u else U i
      let RD1 : Nat → List Nat := fun i => if i = k then rd else RD i
      have hV : ∀ i, i < k → V i = V1 i := fun i hi => by simp only [V1]; rw [if_neg (by omega)]
      have hU : ∀ i, i < k → U i = U1 i := fun i hi => by simp only [U1]; rw [if_neg (by omega)]
      have hRD : ∀ i, i < k → RD i = RD1 i := fun i hi => by simp only [RD1]; rw [if_neg (by omega)]
      have hVk : V1 k = v := by simp [V1]
      have hUk : U1 k = u := by simp [U1]
      have hRDk : RD1 k = rd := by simp [RD1]
      have hEL : ∀ i, i ≤ k → EL D V E0 (fun _ => true) i = EL D V1 E0 (fun _ => true) i := fun i hi => EL_congr (fun j hj => hV j (by omega)) _
      have hML : ∀ i, i ≤ k → ML U M0 (fun _ => true) i = ML U1 M0 (fun _ => true) i := fun i hi => ML_congr (fun j hj => hU j (by omega)) _
      have hold : ∀ i, i < k → ∀ o, rops[i]? = some o → SeqAt P rops D V1 U1 RD1 E0 M0 site0 i o := by
        intro i hi o ho
        have h := hseq i hi o ho
        refine ⟨?_, fun j hj => ?_, fun id hid => ?_⟩
        · have := h.run
          rw [hEL i (by omega), hML i (by omega), hV i hi, hU i hi, hRD i hi] at this
          exact this
        · have := h.apart j hj
          rw [hU i hi, hU j (by omega), hRD i hi, hRD j (by omega)] at this
          exact this
        · rw [← hU i hi] at hid
          rcases h.wr id hid with h | ⟨k', h1, h2, h3, h4⟩
          · exact Or.inl h
          · exact Or.inr ⟨k', h1, h2, h3, by rw [← hU k' (by omega)]; exact h4⟩
      have hk : SeqAt P rops D V1 U1 RD1 E0 M0 site0 k o := by
        refine ⟨?_, fun j hj => ?_, fun id hid => ?_⟩
        · rw [← hEL k (Nat.le_refl _), ← hML k (Nat.le_refl _), hVk, hUk, hRDk]; exact hrun
        · rw [← hU j hj, ← hRD j hj, hUk, hRDk]
          have := clash_get hcl j (RD j, keys (U j)) (by simp [hj])
          rw [Nat.zero_add] at this
          rcases this with h | ⟨h1, h2, h3⟩
          · exact Or.inl h
          · refine Or.inr ⟨fun id hid => ⟨disj_get h1 (keys_get hid), ?_⟩, fun id hid => disj_get h3 (keys_get hid)⟩
            cases hq : u.get id with
            | none => rfl
            | some b => exact absurd (keys_get (by simp [hq])) (disj_get h2 (keys_get hid))
        · rw [hUk] at hid
          have := List.all_eq_true.1 hkeys id (keys_get hid)
          simp only [Bool.or_eq_true, Bool.and_eq_true, decide_eq_true_eq] at this
          rcases this with h | ⟨h1, h2⟩
          · have h' : (mf mem id).isSome := h
            rw [hM] at h'
            unfold ML at h'
            split at h'
            · rename_i i hi
              obtain ⟨h3, _⟩ := lastW_some hi
              obtain ⟨oi, hoi⟩ := Option.isSome_iff_exists.1 (hall i h3)
              rcases (hseq i h3 oi hoi).wr id h' with h4 | ⟨k', h4, h5, h6, h7⟩
              · exact Or.inl h4
              · exact Or.inr ⟨k', by omega, h5, h6, by rw [← hU k' (by omega)]; exact h7⟩
            · exact Or.inl h'
          · exact Or.inr ⟨k, Nat.le_refl _, h1, h2, by rw [hUk]; exact hid⟩
      have hrecs : ((List.range k).map fun j => (RD j, keys (U j))) ++ [(rd, keys u)] = (List.range (k + 1)).map fun j => (RD1 j, keys (U1 j)) := by
        rw [List.range_succ, List.map_append]
        congr 1
        · apply List.map_congr_left
          intro j hj
          rw [List.mem_range] at hj
          rw [hRD j hj, hU j hj]
        · simp [hRDk, hUk]
      rw [hrecs] at hG
      have hE' : envE (putE o.dst v env) = EL D V1 E0 (fun _ => true) (k + 1) := by
        rw [envE_put, EL_succ, hDk, hVk, ← hEL k (Nat.le_refl _), hE]
      have hM' : mf (updM u mem) = ML U1 M0 (fun _ => true) (k + 1) := by
        rw [mf_updM, ML_succ, hUk, ← hML k (Nat.le_refl _), hM]
      obtain ⟨V', U', RD', env', mem', q1, q2, q3, q4⟩ := rwDraw_seq hD (suf := suf) (k := k + 1) (fun i => by have := hsuf (i + 1); simpa [Nat.add_assoc, Nat.add_comm 1] using this) hE' hM' (fun i hi o' ho' => by
        by_cases he : i = k
        · subst he; rw [ho] at ho'; simp only [Option.some.injEq] at ho'; subst ho'; exact hk
        · exact hold i (by omega) o' ho') (fun i hi => by
        by_cases he : i = k
        · subst he; simp [ho]
        · exact hall i (by omega)) (by rw [show site0 + 64 * (k + 1) = site0 + 64 * k + 64 by omega]; exact hG)
      have hlen : k + 1 + suf.length = k + (o :: suf).length := by simp; omega
      rw [hlen] at q2 q3 q4
      exact ⟨V', U', RD', env', mem', q1, q2, q3, q4⟩
    simp only [rwDraw] at hG
    have clempty : ∀ recs : List (List Nat × List Nat), ∀ j, clash o.bef [] (keys ([] : Mem Blk)) j recs = true := by
      intro recs
      induction recs with
      | nil => intro j; rfl
      | cons x recs ih =>
        intro j
        have h1 : ∀ l : List Nat, disj l [] = true := fun l => List.all_eq_true.2 (by simp)
        have h2 : ∀ l : List Nat, disj [] l = true := fun l => rfl
        have h3 : keys ([] : Mem Blk) = [] := rfl
        rw [h3] at ih
        simp [clash, h3, h1, h2, ih]
    have runs : GuardIs (EL D V E0 (fun _ => true) k) o true → (opQ (site0 + 64 * k) o.op (o.xs.map (RO.val (envE env)))).wpr (mf mem) (fun rd res => res.fin P fun v u =>
        (clash o.bef rd (keys u) 0 ((List.range k).map fun j => (RD j, keys (U j))) && (keys u).all (fun i => (Mem.get mem i).isSome || (decide (site0 + 64 * k ≤ i) && decide (i < site0 + 64 * k + 64)))) = true ∧ rwDraw P suf (site0 + 64 * k + 64) (putE o.dst v env) (updM u mem) (((List.range k).map fun j => (RD j, keys (U j))) ++ [(rd, keys u)]) G) →
        ∃ V' U' RD' env' mem', G env' mem' ∧ envE env' = EL D V' E0 (fun _ => true) (k + (o :: suf).length) ∧ mf mem' = ML U' M0 (fun _ => true) (k + (o :: suf).length) ∧ ∀ i, i < k + (o :: suf).length → ∀ o, rops[i]? = some o → SeqAt P rops D V' U' RD' E0 M0 site0 i o := by
      intro hg h
      obtain ⟨rd, res, h1, h2⟩ := Q.wpr_runs h
      obtain ⟨v, u, ⟨h3, h4⟩, h5⟩ := Res.fin_ok h2
      rw [hE, hM] at h1
      exact step v u rd (Or.inl ⟨hg, res, h1, h5⟩) h3 h4
    split at hG
    · rename_i hg
      exact runs (by simp [GuardIs, hg]) hG
    · rename_i g want hg
      split at hG
      · rename_i b hb
        rw [hE] at hb
        split at hG
        · rename_i he
          exact runs (by simp only [GuardIs, hg]; exact Or.inl ⟨b, hb, by simp [he]⟩) hG
        · rename_i he
          exact step _ [] [] (Or.inr ⟨by simp only [GuardIs, hg]; exact Or.inl ⟨b, hb, by simpa using he⟩, rfl, rfl, rfl⟩) (by rw [clempty]; rfl) (by rw [updM_nil]; exact hG)
      · rename_i hb
        rw [hE] at hb
        exact step _ [] [] (Or.inr ⟨by simp only [GuardIs, hg]; exact Or.inr ⟨hb, trivial⟩, rfl, rfl, rfl⟩) (by rw [clempty]; rfl) (by rw [updM_nil]; exact hG)
      · exact hG.elim
end
end Go.RW

/-! Regions whose order is open: every order comes to the same. -/
namespace Go.RW

section
variable {P : Program} {c : Cx} {nt : Nat} {ops : Array Oper} {rops : List ROper} {D : Nat → Option Nat} {V : Nat → PV} {U : Nat → Mem Blk} {RD : Nat → List Nat} {E0 : Nat → PV} {M0 : MF} {site0 n : Nat} {Q : Exit → Act → World → Prop}

def unl (L : Nat → Bool) : Nat → Nat
  | 0 => 0
  | k + 1 => unl L k + if L k then 0 else 1
theorem unl_set {L L' : Nat → Bool} {i : Nat} (hi : L i = false) (h : ∀ j, L' j = (L j || j == i)) : ∀ n, i < n → unl L' n + 1 = unl L n
  | 0, hn => by omega
  | n + 1, hn => by
    have same : ∀ m, m ≤ i → unl L' m = unl L m := by
      intro m
      induction m with
      | zero => intro _; rfl
      | succ m ih =>
        intro hm
        simp only [unl]
        rw [ih (by omega), h m]
        have : (m == i) = false := by simp; omega
        rw [this, Bool.or_false]
    simp only [unl]
    by_cases he : i = n
    · subst he
      rw [same i (Nat.le_refl _), h i, hi]
      simp
    · have := unl_set hi h n (by omega)
      have hn' : (n == i) = false := by simp; omega
      rw [h n, hn', Bool.or_false]
      omega

/-- What is known of the operations of a region whose order is open. -/
structure Plan (P : Program) (c : Cx) (nt : Nat) (ops : Array Oper) (rops : List ROper) (D : Nat → Option Nat) (V : Nat → PV) (U : Nat → Mem Blk) (RD : Nat → List Nat) (E0 : Nat → PV) (M0 : MF) (site0 n : Nat) : Prop where
  size : ops.size = n
  get : ∀ i o, ops[i]? = some o → ∃ r, rops[i]? = some r ∧ Comp1 P nt ops o r ∧ D i = r.dst ∧ SeqAt P rops D V U RD E0 M0 site0 i r ∧
    (∀ e ∈ o.after, Region.binds .any e = true → e.on < i) ∧
    (∀ j, j ∈ r.bef → ∃ e ∈ o.after, Region.binds .any e = true ∧ (j = e.on ∨ ∃ r', rops[e.on]? = some r' ∧ j ∈ r'.bef))
  apart : ∀ i j x y, i < j → rops[i]? = some x → rops[j]? = some y → i ∈ y.bef ∨ apartR x y = true
  fresh : ∀ i, site0 ≤ i → M0 i = none

def Closed (rops : List ROper) (L : Nat → Bool) : Prop := ∀ i r, L i = true → rops[i]? = some r → ∀ j, j ∈ r.bef → L j = true

theorem apartR_spec {x y : ROper} (h : apartR x y = true) : (∀ d, x.dst = some d → d ∉ y.looks) ∧ (∀ d, x.dst = some d → y.dst ≠ some d) ∧ (∀ d, y.dst = some d → d ∉ x.looks) := by
  refine ⟨fun d hd => ?_, fun d hd => ?_, fun d hd => ?_⟩ <;> simp [apartR, hd] at h
  · exact h.1.1
  · exact h.1.2
  · exact h.2

/-- An operation that is ready finds what it would find in the order of the text. -/
theorem Plan.here (hp : Plan P c nt ops rops D V U RD E0 M0 site0 n) {L : Nat → Bool} (hL : Closed rops L) {i : Nat} {o : Oper} {r : ROper} (ho : ops[i]? = some o) (hr : rops[i]? = some r) (hi : L i = false) (hbef : ∀ j, j ∈ r.bef → L j = true) :
    (∀ t, t ∈ r.looks → EL D V E0 L n t = EL D V E0 (fun _ => true) i t) ∧ (∀ id, id ∈ RD i → ML U M0 L n id = ML U M0 (fun _ => true) i id) ∧
    (∀ id, site0 + 64 * i ≤ id → id < site0 + 64 * i + 64 → ML U M0 L n id = none) ∧
    (∀ L' : Nat → Bool, (∀ j, L' j = (L j || j == i)) → EL D V E0 L' n = updE (D i) (V i) (EL D V E0 L n) ∧ ML U M0 L' n = over (U i) (ML U M0 L n)) := by
  have hin : i < n := by rw [← hp.size]; exact (Array.getElem?_eq_some_iff.1 ho).1
  obtain ⟨r', hr', hcomp, hDi, hseq, _, _⟩ := hp.get i o ho
  rw [hr] at hr'; simp only [Option.some.injEq] at hr'; subst hr'
  have getj : ∀ j, j < n → ∃ oj rj, ops[j]? = some oj ∧ rops[j]? = some rj ∧ D j = rj.dst ∧ SeqAt P rops D V U RD E0 M0 site0 j rj := by
    intro j hj
    have : ∃ oj, ops[j]? = some oj := ⟨ops[j]'(by rw [hp.size]; exact hj), Array.getElem?_eq_getElem _⟩
    obtain ⟨oj, hoj⟩ := this
    obtain ⟨rj, h1, _, h2, h3, _⟩ := hp.get j oj hoj
    exact ⟨oj, rj, hoj, h1, h2, h3⟩
  have later : ∀ j rj, rops[j]? = some rj → i ∈ rj.bef → L j = false := by
    intro j rj h1 h2
    cases hq : L j with
    | false => rfl
    | true => have := hL j rj hq h1 i h2; rw [hi] at this; simp at this
  refine ⟨fun t ht => ?_, fun id hid => ?_, fun id h1 h2 => ?_, fun L' hL' => ⟨?_, ?_⟩⟩
  · unfold EL
    rw [← lastW_lt (p := fun j => true && D j == some t) (Nat.le_of_lt hin)]
    have : lastW (fun j => L j && D j == some t) n = lastW (fun j => decide (j < i) && (true && D j == some t)) n := by
      refine lastW_congr fun j hj => ?_
      obtain ⟨oj, rj, h1, h2, h3, h4⟩ := getj j hj
      cases hd : (D j == some t) with
      | false => simp
      | true =>
        have hd' : rj.dst = some t := by rw [← h3]; simpa using hd
        simp only [Bool.and_true]
        by_cases hlt : j < i
        · rcases hp.apart j i rj r hlt h2 hr with h | h
          · rw [hbef j h]; simp [hlt]
          · exact absurd ht ((apartR_spec h).1 t hd')
        · by_cases he : j = i
          · subst he; rw [hi]; simp
          · rcases hp.apart i j r rj (by omega) hr h2 with h | h
            · rw [later j rj h2 h]; simp [hlt]
            · exact absurd ht ((apartR_spec h).2.2 t hd')
    rw [this]
  · unfold ML
    rw [← lastW_lt (p := fun j => true && ((U j).get id).isSome) (Nat.le_of_lt hin)]
    have : lastW (fun j => L j && ((U j).get id).isSome) n = lastW (fun j => decide (j < i) && (true && ((U j).get id).isSome)) n := by
      refine lastW_congr fun j hj => ?_
      obtain ⟨oj, rj, h1, h2, h3, h4⟩ := getj j hj
      cases hd : ((U j).get id).isSome with
      | false => simp
      | true =>
        simp only [Bool.and_true]
        by_cases hlt : j < i
        · rcases hseq.apart j hlt with h | h
          · rw [hbef j h]; simp [hlt]
          · exact absurd hid (h.1 id hd).1
        · by_cases he : j = i
          · subst he; rw [hi]; simp
          · rcases h4.apart i (by omega) with h | h
            · rw [later j rj h2 h]; simp [hlt]
            · exact absurd hid (h.2 id hd)
    rw [this]
  · unfold ML
    split
    · rename_i j hj
      obtain ⟨hjn, hj2⟩ := lastW_some hj
      simp only [Bool.and_eq_true] at hj2
      obtain ⟨oj, rj, h3, h4, h5, h6⟩ := getj j hjn
      rcases h6.wr id hj2.2 with h7 | ⟨k', h7, h8, h9, h10⟩
      · rw [hp.fresh id (by omega)] at h7; simp at h7
      · have : k' = i := by omega
        subst this
        by_cases he : j = k'
        · subst he; rw [hi] at hj2; simp at hj2
        · rcases h6.apart k' (by omega) with h | h
          · have := later j rj h4 h; rw [this] at hj2; simp at hj2
          · have := (h.1 id h10).2; rw [this] at hj2; simp at hj2
    · exact hp.fresh id (by omega)
  · funext t
    unfold updE
    split
    · rename_i hd
      have : lastW (fun j => L' j && D j == some t) n = some i := by
        refine lastW_eq hin (by simp [hL', hd]) fun k hk hkn => ?_
        obtain ⟨ok, rk, h1, h2, h3, h4⟩ := getj k hkn
        rw [hL' k]
        have hki : (k == i) = false := by simp; omega
        rw [hki, Bool.or_false]
        cases hdk : (D k == some t) with
        | false => simp
        | true =>
          simp only [Bool.and_true]
          have hdk' : rk.dst = some t := by rw [← h3]; simpa using hdk
          rcases hp.apart i k r rk hk hr h2 with h | h
          · exact later k rk h2 h
          · exact absurd hdk' ((apartR_spec h).2.1 t (by rw [← hDi]; exact hd))
      unfold EL
      rw [this]
    · rename_i hd
      have : lastW (fun j => L' j && D j == some t) n = lastW (fun j => L j && D j == some t) n := by
        refine lastW_congr fun j hj => ?_
        rw [hL' j]
        by_cases he : j = i
        · subst he
          have : (D j == some t) = false := by simpa using hd
          simp [this]
        · have : (j == i) = false := by simpa using he
          rw [this, Bool.or_false]
      unfold EL
      rw [this]
  · funext id
    unfold over
    split
    · rename_i b hb
      have : lastW (fun j => L' j && ((U j).get id).isSome) n = some i := by
        refine lastW_eq hin (by simp [hL', hb]) fun k hk hkn => ?_
        obtain ⟨ok, rk, h1, h2, h3, h4⟩ := getj k hkn
        rw [hL' k]
        have hki : (k == i) = false := by simp; omega
        rw [hki, Bool.or_false]
        cases hdk : ((U k).get id).isSome with
        | false => simp
        | true =>
          simp only [Bool.and_true]
          rcases h4.apart i hk with h | h
          · exact later k rk h2 h
          · have := (h.1 id (by simp [hb])).2
            rw [this] at hdk; simp at hdk
      unfold ML
      rw [this]
      exact hb
    · rename_i hb
      have : lastW (fun j => L' j && ((U j).get id).isSome) n = lastW (fun j => L j && ((U j).get id).isSome) n := by
        refine lastW_congr fun j hj => ?_
        rw [hL' j]
        by_cases he : j = i
        · subst he
          simp [hb]
        · have : (j == i) = false := by simpa using he
          rw [this, Bool.or_false]
      unfold ML
      rw [this]

theorem args_congr {E E' : Nat → PV} {xs : List RO} (h : ∀ t, t ∈ (xs.filterMap fun | .t k => some k | .k _ => none) → E t = E' t) : xs.map (RO.val E) = xs.map (RO.val E') := by
  apply List.map_congr_left
  intro x hx
  cases x with
  | t k => exact h k (List.mem_filterMap.2 ⟨.t k, hx, rfl⟩)
  | k p => rfl

theorem Plan.any (hp : Plan P c nt ops rops D V U RD E0 M0 site0 n) (hQ : ∀ a w, RelS c nt (EL D V E0 (fun _ => true) n) (ML U M0 (fun _ => true) n) a w → Q .normal a w) :
    ∀ (fuel : Nat) (listed : Array Bool) (a : Act) (w : World), listed.size = n → Closed rops (fun j => listed.getD j false) → unl (fun j => listed.getD j false) n ≤ fuel →
      RelS c nt (EL D V E0 (fun j => listed.getD j false) n) (ML U M0 (fun j => listed.getD j false) n) a w → wpAny P .any ops Q fuel listed a w := by
  intro fuel
  have rdy : ∀ (listed : Array Bool) (a : Act) (w : World), listed.size = n → RelS c nt (EL D V E0 (fun j => listed.getD j false) n) (ML U M0 (fun j => listed.getD j false) n) a w → Region.ready .any ops listed = [] →
      (∀ i, i < n → listed.getD i false = true) ∧ Q .normal a w := by
    intro listed a w hsz hS hr
    have all : ∀ m i, i < m → i < n → listed.getD i false = true := by
      intro m
      induction m with
      | zero => intro i h; omega
      | succ m ih =>
        intro i him hin
        by_cases hlt : i < m
        · exact ih i hlt hin
        · cases hq : listed.getD i false with
          | true => rfl
          | false =>
            have hio : ∃ o, ops[i]? = some o := ⟨ops[i]'(by rw [hp.size]; exact hin), Array.getElem?_eq_getElem _⟩
            obtain ⟨o, ho⟩ := hio
            obtain ⟨r, _, _, _, _, hlt', _⟩ := hp.get i o ho
            have : i ∈ Region.ready .any ops listed := mem_ready.2 ⟨by
              rw [Array.getD_eq_getD_getElem?, Array.getElem?_eq_getElem (by omega)] at hq ⊢
              simpa using hq, o, ho, fun e he hb => ih e.on (by have := hlt' e he hb; omega) (by have := hlt' e he hb; omega)⟩
            rw [hr] at this; simp at this
    refine ⟨fun i hi => all n i hi hi, hQ a w ?_⟩
    have e1 : EL D V E0 (fun j => listed.getD j false) n = EL D V E0 (fun _ => true) n := by
      funext t
      unfold EL
      rw [lastW_congr (q := fun i => true && D i == some t) fun i hi => by simp only [all n i hi hi]]
    have e2 : ML U M0 (fun j => listed.getD j false) n = ML U M0 (fun _ => true) n := by
      funext t
      unfold ML
      rw [lastW_congr (q := fun i => true && ((U i).get t).isSome) fun i hi => by simp only [all n i hi hi]]
    rw [e1, e2] at hS
    exact hS
  induction fuel with
  | zero =>
    intro listed a w hsz hcl hf hS
    have hall : ∀ i, i < n → listed.getD i false = true := by
      have : ∀ m, unl (fun j => listed.getD j false) m = 0 → ∀ i, i < m → listed.getD i false = true := by
        intro m
        induction m with
        | zero => intro _ i h; omega
        | succ m ih =>
          intro h i hi
          simp only [unl] at h
          by_cases he : i = m
          · subst he
            cases hq : listed.getD i false with
            | true => rfl
            | false => simp only [hq, Bool.false_eq_true, if_false] at h; omega
          · exact ih (by omega) i (by omega)
      exact this n (by omega)
    have hr : Region.ready .any ops listed = [] := by
      cases hq : Region.ready .any ops listed with
      | nil => rfl
      | cons i l =>
        have : i ∈ Region.ready .any ops listed := by rw [hq]; simp
        obtain ⟨h1, o, ho, _⟩ := mem_ready.1 this
        have hin : i < n := by rw [← hp.size]; exact (Array.getElem?_eq_some_iff.1 ho).1
        have h2 := hall i hin
        rw [Array.getD_eq_getD_getElem?, Array.getElem?_eq_getElem (by omega)] at h1 h2
        simp at h1 h2
        rw [h1] at h2; simp at h2
    exact ⟨hr, (rdy listed a w hsz hS hr).2⟩
  | succ fuel ih =>
    intro listed a w hsz hcl hf hS
    refine ⟨fun hr => (rdy listed a w hsz hS hr).2, fun i hi => ?_⟩
    obtain ⟨h1, o, ho, hedges⟩ := mem_ready.1 hi
    have hin : i < n := by rw [← hp.size]; exact (Array.getElem?_eq_some_iff.1 ho).1
    have hLi : listed.getD i false = false := by
      rw [Array.getD_eq_getD_getElem?, Array.getElem?_eq_getElem (by omega)] at h1 ⊢
      simpa using h1
    obtain ⟨r, hr, hcomp, hDi, hseq, _, hbefs⟩ := hp.get i o ho
    have hbef : ∀ j, j ∈ r.bef → listed.getD j false = true := by
      intro j hj
      obtain ⟨e, he, hb, h | ⟨r', h2, h3⟩⟩ := hbefs j hj
      · rw [h]; exact hedges e he hb
      · exact hcl e.on r' (hedges e he hb) h2 j h3
    obtain ⟨q1, q2, q3, q4⟩ := hp.here hcl ho hr hLi hbef
    have hset : ∀ j, (listed.setIfInBounds i true).getD j false = (listed.getD j false || j == i) := by
      intro j
      by_cases he : j = i
      · subst he
        simp [Array.getD_eq_getD_getElem?, Array.getElem?_setIfInBounds, show j < listed.size by omega]
      · have : (j == i) = false := by simpa using he
        rw [this, Bool.or_false, Array.getD_eq_getD_getElem?, Array.getD_eq_getD_getElem?, Array.getElem?_setIfInBounds_ne (Ne.symm he)]
    obtain ⟨q5, q6⟩ := q4 (fun j => (listed.setIfInBounds i true).getD j false) hset
    have next : ∀ a' w', RelS c nt (updE (D i) (V i) (EL D V E0 (fun j => listed.getD j false) n)) (over (U i) (ML U M0 (fun j => listed.getD j false) n)) a' w' → wpAny P .any ops Q fuel (listed.setIfInBounds i true) a' w' := by
      intro a' w' hS'
      rw [← q5, ← q6] at hS'
      refine ih _ _ _ (by simpa using hsz) ?_ ?_ hS'
      · intro j rj hj hrj k hk
        simp only [hset] at hj ⊢
        rw [Bool.or_eq_true] at hj ⊢
        left
        rcases hj with hj | hj
        · exact hcl j rj hj hrj k hk
        · have : j = i := by simpa using hj
          subst this
          rw [hr] at hrj; simp only [Option.some.injEq] at hrj; subst hrj
          exact hbef k hk
      · have := unl_set (L := fun j => listed.getD j false) (L' := fun j => (listed.setIfInBounds i true).getD j false) hLi hset n hin
        omega
    have hlt : ∀ k, r.dst = some k → k < nt := fun k hk => hcomp.lt k (hcomp.dst ▸ hk)
    unfold wpOp
    simp only [ho]
    have hguard : ∀ b, GuardIs (EL D V E0 (fun _ => true) i) r b → Region.wanted o (yielded ops a.tmps) = b := by
      intro b hg
      unfold GuardIs at hg
      cases hgd : r.guard with
      | none => rw [hgd] at hg; simp only at hg; rw [wanted_none hcomp hgd, hg]
      | some x =>
        obtain ⟨g, want⟩ := x
        rw [hgd] at hg
        simp only at hg
        have hlook : g ∈ r.looks := by unfold ROper.looks; rw [hgd]; simp
        rw [← q1 g hlook] at hg
        rcases hg with ⟨x, h2, h3⟩ | ⟨h2, h3⟩
        · rw [wanted_bool hcomp hgd hS h2, h3]
        · rw [wanted_tup hcomp hgd hS h2, h3]
    rcases hseq.run with ⟨hg, res, hrun, hfin⟩ | ⟨hg, hV, hU, _⟩
    · rw [if_pos (hguard _ hg)]
      left
      have hargs : r.xs.map (RO.val (EL D V E0 (fun j => listed.getD j false) n)) = r.xs.map (RO.val (EL D V E0 (fun _ => true) i)) :=
        args_congr fun t ht => q1 t (by unfold ROper.looks; exact List.mem_append_left _ ht)
      have hrun' := (hrun.frame (M' := ML U M0 (fun j => listed.getD j false) n) q2).wp (G := Res.fin P fun v u => v = V i ∧ u = U i) (Res.ok_fin hfin ⟨rfl, rfl⟩)
      rw [← hargs] at hrun'
      obtain ⟨v, u, ⟨rfl, rfl⟩, _, h5⟩ := step_op hcomp.op hcomp.lt hS q3 hrun'
      refine h5 _ _ fun a' w' hS' => next a' w' ?_
      rw [hDi, hcomp.dst]; exact hS'
    · rw [hguard _ hg]
      simp only [Bool.false_eq_true, if_false]
      refine next _ _ ?_
      have := skip_op (d := r.dst) hlt hS
      rw [hDi, hV, hU]
      rw [← hcomp.dst]
      have e : over ([] : Mem Blk) (ML U M0 (fun j => listed.getD j false) n) = ML U M0 (fun j => listed.getD j false) n := rfl
      rw [e]; exact this
end
end Go.RW

/-! Numbers chosen anew: at a loop's head, at a function's end. -/
namespace Go.RW

mutual
/-- The numbers that a value leads to. -/
def PV.refs : PV → List Nat
  | .ref id _ _ _ => [id]
  | .ptr id _ => [id]
  | .rptr id _ _ _ => [id]
  | .agg ps => PV.refsL ps
  | .tup ps => PV.refsL ps
  | .clo _ ps => PV.refsL ps
  | _ => []
def PV.refsL : List PV → List Nat
  | [] => []
  | p :: ps => PV.refs p ++ PV.refsL ps
end
def Blk.refs : Blk → List Nat
  | .var _ ps => PV.refsL ps
  | _ => []

structure UnRn (w : World) (S S' : Nat → Prop) (β β' : Nat → Option Nat) (M M' : MF) (N : Nat) (ρ : Nat → Nat) : Prop where
  hS : ∀ b, S b → S' b
  hM : ∀ id blk, M' id = some blk → M (ρ id) = some (blk.ren ρ) ∧ β' id = β (ρ id)

section
variable {w : World} {S S' : Nat → Prop} {β β' : Nat → Option Nat} {M M' : MF} {N : Nat} {ρ : Nat → Nat}
theorem RepP_unren (h : UnRn w S S' β β' M M' N ρ) : ∀ {p : PV} {v : Value}, (∀ i ∈ p.refs, (M' i).isSome) → RepP w S β M N (p.ren ρ) v → RepP w S' β' M' 0 p v
  | .d x, v, _, r => by unfold PV.ren at r; exact ⟨r.1, RepC.mono (fun b hb => ⟨h.hS b hb, rfl⟩) x _ r.2⟩
  | .nil _, _, _, r => by unfold PV.ren at r; exact r
  | .any, _, _, _ => trivial
  | .ref id ver off len, v, hr, r => by
    unfold PV.ren at r
    obtain ⟨r0, r1, r2⟩ := r
    refine ⟨r0, Or.inr (hr id (by simp [PV.refs])), fun o sz xs hm => ?_⟩
    obtain ⟨h1, h2⟩ := h.hM id _ hm
    rw [h2]
    exact r2 o sz xs (by simpa [Blk.ren] using h1)
  | .cut sz xs, v, _, r => by
    unfold PV.ren at r
    obtain ⟨a, r1, r2⟩ := r
    refine ⟨a, r1, ?_⟩
    rcases r2 with r2 | ⟨b, o, r3, r4, r5⟩
    · exact Or.inl r2
    · exact Or.inr ⟨b, o, r3, h.hS b r4, RepE.mono (fun b hb => ⟨h.hS b hb, rfl⟩) sz b o xs rfl r5⟩
  | .ptr id off, v, hr, r => by
    unfold PV.ren at r
    obtain ⟨r0, r1, r2⟩ := r
    refine ⟨r0, Or.inr (hr id (by simp [PV.refs])), fun o ps hm => ?_⟩
    obtain ⟨h1, h2⟩ := h.hM id _ hm
    rw [h2]
    exact r2 o _ (by simpa [Blk.ren] using h1)
  | .rptr id ver i off, v, hr, r => by
    unfold PV.ren at r
    obtain ⟨r0, r1, r2⟩ := r
    refine ⟨r0, Or.inr (hr id (by simp [PV.refs])), fun o sz xs hm => ?_⟩
    obtain ⟨h1, h2⟩ := h.hM id _ hm
    rw [h2]
    exact r2 o sz xs (by simpa [Blk.ren] using h1)
  | .iptr xs, v, _, r => by
    unfold PV.ren at r
    obtain ⟨b, o, vs, r1, r2, r3, r4⟩ := r
    exact ⟨b, o, vs, r1, h.hS b r2, r3, RepL.mono (fun b hb => ⟨h.hS b hb, rfl⟩) xs vs r4⟩
  | .agg _, _, _, r => by unfold PV.ren at r; exact r.elim
  | .tup _, _, _, r => by unfold PV.ren at r; exact r.elim
  | .clo f ps, v, hr, r => by
    unfold PV.ren at r
    obtain ⟨vs, r1, r2, r3⟩ := r
    refine ⟨vs, r1, by rw [renL_length] at r2; exact r2, fun i id off hp => ?_⟩
    obtain ⟨r4, r7, r5, r6⟩ := r3 i (ρ id) off (by rw [renL_get, hp]; rfl)
    have hmem : ∀ (ps : List PV) (i : Nat), ps[i]? = some (PV.ptr id off) → id ∈ PV.refsL ps := by
      intro ps
      induction ps with
      | nil => intro i h; simp at h
      | cons p ps ih =>
        intro i h
        unfold PV.refsL
        cases i with
        | zero => simp at h; subst h; simp [PV.refs]
        | succ i => exact List.mem_append_right _ (ih i (by simpa using h))
    refine ⟨r4, r7, Or.inr (hr id (by unfold PV.refs; exact hmem ps i hp)), fun o ps' hm => ?_⟩
    obtain ⟨h1, h2⟩ := h.hM id _ hm
    rw [h2]
    exact r6 o _ (by simpa [Blk.ren] using h1)
theorem RepPL_unren (h : UnRn w S S' β β' M M' N ρ) : ∀ {ps : List PV} {vs : List Value}, (∀ i ∈ PV.refsL ps, (M' i).isSome) → RepPL w S β M N (PV.renL ρ ps) vs → RepPL w S' β' M' 0 ps vs
  | [], _, _, r => by unfold PV.renL at r; exact r
  | p :: ps, _, hr, r => by
    unfold PV.renL at r
    obtain ⟨v, r, r1, r2, r3⟩ := r
    unfold PV.refsL at hr
    exact ⟨v, r, r1, RepP_unren h (fun i hi => hr i (List.mem_append_left _ hi)) r2, RepPL_unren h (fun i hi => hr i (List.mem_append_right _ hi)) r3⟩
mutual
theorem RepT_unren (h : UnRn w S S' β β' M M' N ρ) : ∀ {p : PV} {v : Value}, (∀ i ∈ p.refs, (M' i).isSome) → RepT w S β M N (p.ren ρ) v → RepT w S' β' M' 0 p v
  | .d x, v, _, r => by unfold PV.ren at r; unfold RepT at *; exact Rep.mono (fun b hb => ⟨h.hS b hb, rfl⟩) r
  | .agg ps, v, hr, r => by unfold PV.ren at r; unfold RepT at *; obtain ⟨vs, r1, r2⟩ := r; exact ⟨vs, r1, RepPL_unren h (by unfold PV.refs at hr; exact hr) r2⟩
  | .tup ps, v, hr, r => by unfold PV.ren at r; unfold RepT at *; obtain ⟨vs, r1, r2⟩ := r; exact ⟨vs, r1, RepTL_unren h (by unfold PV.refs at hr; exact hr) r2⟩
  | .nil _, _, _, r => by unfold PV.ren at r; unfold RepT at *; exact r
  | .any, _, _, _ => RepT_any
  | .ref .., _, hr, r => by unfold RepT; exact RepP_unren (p := .ref ..) h hr (by unfold PV.ren at r ⊢; unfold RepT at r; exact r)
  | .cut .., _, hr, r => by unfold RepT; exact RepP_unren (p := .cut ..) h hr (by unfold PV.ren at r ⊢; unfold RepT at r; exact r)
  | .ptr .., _, hr, r => by unfold RepT; exact RepP_unren (p := .ptr ..) h hr (by unfold PV.ren at r ⊢; unfold RepT at r; exact r)
  | .rptr .., _, hr, r => by unfold RepT; exact RepP_unren (p := .rptr ..) h hr (by unfold PV.ren at r ⊢; unfold RepT at r; exact r)
  | .iptr .., _, hr, r => by unfold RepT; exact RepP_unren (p := .iptr ..) h hr (by unfold PV.ren at r ⊢; unfold RepT at r; exact r)
  | .clo .., _, hr, r => by unfold RepT; exact RepP_unren (p := .clo ..) h hr (by unfold PV.ren at r ⊢; unfold RepT at r; exact r)
theorem RepTL_unren (h : UnRn w S S' β β' M M' N ρ) : ∀ {ps : List PV} {vs : List Value}, (∀ i ∈ PV.refsL ps, (M' i).isSome) → RepTL w S β M N (PV.renL ρ ps) vs → RepTL w S' β' M' 0 ps vs
  | [], _, _, r => by unfold PV.renL at r; unfold RepTL at *; exact r
  | p :: ps, _, hr, r => by
    unfold PV.renL at r
    unfold RepTL at *
    obtain ⟨v, r, r1, r2, r3⟩ := r
    unfold PV.refsL at hr
    exact ⟨v, r, r1, RepT_unren h (fun i hi => hr i (List.mem_append_left _ hi)) r2, RepTL_unren h (fun i hi => hr i (List.mem_append_right _ hi)) r3⟩
end
end

/-- A memory's numbers anew: mem2 is what mem holds, under other numbers. -/
structure RetagM (ρ : Nat → Nat) (mem mem2 : Mem Blk) : Prop where
  blk : ∀ id blk, mf mem2 id = some blk → mf mem (ρ id) = some (blk.ren ρ) ∧ ∀ i ∈ blk.refs, (mf mem2 i).isSome
  inj : ∀ id id', (mf mem2 id).isSome → (mf mem2 id').isSome → ρ id = ρ id' → id = id'
  bor : ∀ id blk, mf mem2 id = some blk → blk.bor = true → ρ id = id

theorem ren_own (blk : Blk) (ρ : Nat → Nat) : (blk.ren ρ).own = blk.own := by cases blk <;> rfl
theorem ren_bor (blk : Blk) (ρ : Nat → Nat) : (blk.ren ρ).bor = blk.bor := by
  cases blk with
  | var o ps => cases o <;> rfl
  | _ => rfl

theorem retag {c : Cx} {β : Nat → Option Nat} {w : World} {mem mem2 : Mem Blk} {ρ : Nat → Nat} (R : RelM c β (mf mem) 0 w) (h : RetagM ρ mem mem2) :
    ∃ β2, RelM c β2 (mf mem2) 0 w ∧ UnRn w (SS c β (mf mem) w) (SS c β2 (mf mem2) w) β β2 (mf mem) (mf mem2) 0 ρ := by
  let β2 : Nat → Option Nat := fun id => β (ρ id)
  have hOwn : ∀ b, Own β2 (mf mem2) b → Own β (mf mem) b := by
    rintro b ⟨id, blk, h1, h2, h3⟩
    exact ⟨ρ id, _, (h.blk id blk h1).1, by rw [ren_own]; exact h2, h3⟩
  have hS : ∀ b, SS c β (mf mem) w b → SS c β2 (mf mem2) w b := fun b ⟨h1, h2, h3⟩ => ⟨h1, h2, fun ho => h3 (hOwn b ho)⟩
  have hU : UnRn w (SS c β (mf mem) w) (SS c β2 (mf mem2) w) β β2 (mf mem) (mf mem2) 0 ρ := ⟨hS, fun id blk hm => ⟨(h.blk id blk hm).1, rfl⟩⟩
  refine ⟨β2, ⟨R.keep, R.cK, R.cB, fun id blk hm => ?_, fun id id' b h1 h2 h3 h4 => ?_, fun id blk b hm hb => ?_⟩, hU⟩
  · obtain ⟨h1, h2⟩ := h.blk id blk hm
    have hr := R.mem _ _ h1
    cases blk with
    | row o sz xs =>
      rcases hr with hr | ⟨b, cs, T, fr, q1, q2, q3, q4, q5, q6⟩
      · exact Or.inl hr
      · exact Or.inr ⟨b, cs, T, fr, q1, q2, q3, q4, fun ho => hS b (q5 ho), RepE.mono (fun b hb => ⟨hS b hb, rfl⟩) _ _ _ _ rfl q6⟩
    | var o ps =>
      obtain ⟨b, cs, T, fr, q1, q2, q3, q4, q5⟩ := hr
      exact ⟨b, cs, T, fr, q1, q2, q3, fun ho => hS b (q4 ho), RepPL_unren hU h2 q5⟩
    | dead => exact hr
  · obtain ⟨b1, hb1⟩ := Option.isSome_iff_exists.1 h1
    obtain ⟨b2, hb2⟩ := Option.isSome_iff_exists.1 h2
    exact h.inj id id' h1 h2 (R.inj _ _ b (by simp [(h.blk id b1 hb1).1]) (by simp [(h.blk id' b2 hb2).1]) h3 h4)
  · obtain ⟨h1, _⟩ := h.blk id blk hm
    have := R.ok _ _ b h1 hb
    rw [ren_bor] at this
    refine ⟨this.1, ?_⟩
    have h3 := this.2
    split
    · rename_i hbb
      rw [if_pos hbb, h.bor id blk hm hbb] at h3; exact h3
    · rename_i hbb
      rw [if_neg hbb] at h3; exact h3

/-- A nil slice as a row without elements. -/
theorem lift_row {c : Cx} {β : Nat → Option Nat} {w : World} {M : MF} {id sz : Nat} (R : RelM c β M 0 w) (hn : M id = none) :
    RelM c (bset β id none) (over [(id, .row true sz [])] M) 0 w ∧ Later w w (SS c β M w) (SS c (bset β id none) (over [(id, .row true sz [])] M) w) β (bset β id none) M (over [(id, .row true sz [])] M) 0 0 ∧
      ∀ S', RepT w S' (bset β id none) (over [(id, .row true sz [])] M) 0 (.ref id 0 0 0) (.slice none 0 0) := by
  obtain ⟨h1, h2⟩ := upd (w' := w) (id := id) (blk := .row true sz []) (bo := none) (kill := none) (wb := none) (M' := over [(id, .row true sz [])] M) (β' := bset β id none) R (fun i => by rw [over_one]; simp) (fun i => by simp [bset]) (by simp) R.keep (Nat.le_refl _) (fun _ _ _ => rfl) (by simp) (by simp) (fun _ => Nat.zero_le _)
    (fun _ _ _ _ b0 h => by rw [hn] at h; simp at h) (fun _ _ _ b0 h => by rw [hn] at h; simp at h) (by simp) (fun hL => Or.inl ⟨by simp [bset], rfl⟩)
  refine ⟨h1, h2, fun S' => RepT_ref.2 ⟨⟨_, _, rfl⟩, Or.inr (by simp [over_one]), fun o s zs hm => ?_⟩⟩
  simp only [over_one, if_true, Option.some.injEq, Blk.row.injEq] at hm
  obtain ⟨_, rfl, rfl⟩ := hm
  exact ⟨by simp, fun _ => ⟨by simp, Or.inl ⟨by simp [bset], rfl, rfl⟩⟩⟩
end Go.RW

/-! Code. -/
namespace Go.RW

/-- Nil slices in slots as rows without elements. -/
def liftE : List (Nat × Nat) → Mem PV → Mem Blk → Mem PV × Mem Blk
  | [], env, mem => (env, mem)
  | (s, id) :: r, env, mem => match envE env s, Mem.get mem id with
    | .nil sz, none => liftE r ((s, .ref id 0 0 0) :: env) ((id, .row true sz []) :: mem)
    | _, _ => liftE r env mem

/-- The same for the cells of variables. -/
def liftV : List (Nat × Nat × Nat) → Mem Blk → Mem Blk
  | [], mem => mem
  | (id, cell, nid) :: r, mem => match Mem.get mem id, Mem.get mem nid with
    | some (.var own ps), none => match ps[cell]? with
      | some (.nil sz) => liftV r ((id, .var own (ps.set cell (.ref nid 0 0 0))) :: (nid, .row true sz []) :: mem)
      | _ => liftV r mem
    | _, _ => liftV r mem
abbrev Lifts := List (Nat × Nat) × List (Nat × Nat × Nat)

/-- Some slots and cells as values that nobody writes any more. -/
inductive Settled : Mem PV → Mem Blk → Mem PV → Mem Blk → Prop where
  | refl {env : Mem PV} {mem : Mem Blk} : Settled env mem env mem
  | slot {env env' : Mem PV} {mem mem' fz : Mem Blk} {rd : List Nat} {x : D} (s : Nat) (h : (toD (envE env s)).Runs (mf mem) rd (x, fz)) (k : Settled ((s, .d x) :: env) (updM fz mem) env' mem') : Settled env mem env' mem'
  | cell {env env' : Mem PV} {mem mem' fz : Mem Blk} {rd : List Nat} {x : D} {own : Ow} {ps : List PV} {p : PV} (id c : Nat) (hm : Mem.get mem id = some (.var own ps)) (hp : ps[c]? = some p) (h : (toDs [p]).Runs (mf mem) rd ([x], fz)) (hf : (Mem.get fz id).isNone = true)
    (k : Settled env ((id, .var own (ps.set c (.d x))) :: updM fz mem) env' mem') : Settled env mem env' mem'
  | trunc {env env' : Mem PV} {mem mem' : Mem Blk} {sz ver len : Nat} {xs : List D} (s id id' : Nat) (hs : envE env s = .ref id ver 0 len) (hm : Mem.get mem id = some (.row true sz xs)) (hv : ver = xs.length) (hn : Mem.get mem id' = none)
    (k : Settled ((s, .ref id' len 0 len) :: env) ((id', .row true sz (xs.take len)) :: (id, .dead) :: mem) env' mem') : Settled env mem env' mem'

def rhoE (env : Mem PV) : Mem PV → List (Nat × Nat)
  | [] => []
  | (i, p) :: r => p.refs.zip (envE env i).refs ++ rhoE env r
def appN (l : List (Nat × Nat)) (i : Nat) : Nat := match Mem.get l i with | some j => j | none => i
def rhoM (mem : Mem Blk) (l : List (Nat × Nat)) : Mem Blk → List (Nat × Nat)
  | [] => []
  | (id, blk) :: r => (match Mem.get mem (appN l id) with | some b => blk.refs.zip b.refs | none => []) ++ rhoM mem l r
def rhoOf (env : Mem PV) (mem : Mem Blk) (env2 : Mem PV) (mem2 : Mem Blk) : Nat → Nat := appN (rhoE env env2 ++ rhoM mem (rhoE env env2) mem2)
def allIn (mem2 : Mem Blk) (l : List Nat) : Bool := l.all fun x => (Mem.get mem2 x).isSome
def retE (ρ : Nat → Nat) (env : Mem PV) (mem2 : Mem Blk) : Mem PV → Prop
  | [] => True
  | (i, p) :: r => (envE env i = p.ren ρ ∧ allIn mem2 p.refs = true) ∧ retE ρ env mem2 r
def retM (ρ : Nat → Nat) (mem mem2 : Mem Blk) : Mem Blk → Prop
  | [] => True
  | (id, blk) :: r => (Mem.get mem (ρ id) = some (blk.ren ρ) ∧ (allIn mem2 blk.refs && (!blk.bor || ρ id == id)) = true) ∧ retM ρ mem mem2 r
def nodupB : List Nat → Bool
  | [] => true
  | x :: l => !l.contains x && nodupB l
def Retag (env : Mem PV) (mem : Mem Blk) (env2 : Mem PV) (mem2 : Mem Blk) : Prop :=
  nodupB ((keys mem2).map (rhoOf env mem env2 mem2)) = true ∧ retE (rhoOf env mem env2 mem2) env mem2 env2 ∧ retM (rhoOf env mem env2 mem2) mem mem2 mem2
/-- A round's begin. -/
def Enter (ls : Lifts) (next0 : Nat) (I : Nat → Mem PV → Mem Blk → Prop) (k : Nat) (env : Mem PV) (mem : Mem Blk) : Prop :=
  ∃ env1 mem1, Settled env mem env1 mem1 ∧ ∃ env2 mem2, I k env2 mem2 ∧ Retag (liftE ls.1 env1 mem1).1 (liftV ls.2 (liftE ls.1 env1 mem1).2) env2 mem2 ∧ (keys mem2).all (fun i => decide (i < next0)) = true

def keepE (live : List Nat) (env : Mem PV) : Mem PV := live.map fun i => (i, envE env i)

def rwp (P : Program) : RCode → (Exit → Nat → Mem PV → Mem Blk → Prop) → Nat → Mem PV → Mem Blk → Prop
  | .skip, G, n, env, mem => G .normal n env mem
  | .region draw ops live, G, n, env, mem => if draw then rwDraw P ops n env mem [] (fun env' mem' => G .normal (n + 64 * ops.length) (keepE live env') mem')
      else rwOps P ops n env mem (fun env' mem' => G .normal (n + 64 * ops.length) (keepE live env') mem')
  | .seq a b, G, n, env, mem => rwp P a (fun e n env mem => match e with | .normal => rwp P b G n env mem ∨ ∃ ls next0, Enter ls next0 (fun _ env mem => rwp P b G next0 env mem) 0 env mem | e => G e n env mem) n env mem
  | .cond c a b, G, n, env, mem => match c.val (envE env) with
    | .d (.bool t) => if t then rwp P a G n env mem else rwp P b G n env mem
    | _ => False
  | .block id b, G, n, env, mem => rwp P b (fun e n env mem => match e with | .exit id' => if id' = id then G .normal n env mem else G (.exit id') n env mem | e => G e n env mem) n env mem
  | .loop _ b, G, _, env, mem => ∃ ls next0 I k, Enter ls next0 I k env mem ∧
      ∀ k env1 mem1, I k env1 mem1 → rwp P b (fun e n env' mem' => match e with | .normal => ∃ k', k' < k ∧ Enter ls next0 I k' env' mem' | e => G e n env' mem') next0 env1 mem1
  | .exit id, G, n, env, mem => G (.exit id) n env mem
  | .ret, G, n, env, mem => G .ret n env mem

section
variable {P : Program} {c : Cx} {nt : Nat}

theorem envE_keep (live : List Nat) (env : Mem PV) (i : Nat) : envE (keepE live env) i = envE env i ∨ envE (keepE live env) i = .any := by
  unfold keepE
  induction live with
  | nil => right; rfl
  | cons j live ih =>
    simp only [List.map_cons, envE, Mem.get] at ih ⊢
    by_cases h : j = i
    · subst h; left; simp
    · simp only [if_neg h]; exact ih

theorem RelS.keep {env : Mem PV} {M : MF} {a : Act} {w : World} (live : List Nat) (h : RelS c nt (envE env) M a w) : RelS c nt (envE (keepE live env)) M a w := by
  obtain ⟨β, R, hE, h1, h2⟩ := h
  refine ⟨β, R, fun i => ?_, h1, h2⟩
  rcases envE_keep live env i with h | h
  · rw [h]; exact hE i
  · rw [h]; exact RepT_any

theorem lift_sound : ∀ {ls : List (Nat × Nat)} {env : Mem PV} {mem : Mem Blk} {a : Act} {w : World}, RelS c nt (envE env) (mf mem) a w → RelS c nt (envE (liftE ls env mem).1) (mf (liftE ls env mem).2) a w
  | [], _, _, _, _, h => h
  | (s, id) :: r, env, mem, a, w, h => by
    unfold liftE
    split
    · rename_i sz h1 h2
      refine lift_sound ?_
      obtain ⟨β, R, hE, h3, h4⟩ := h
      obtain ⟨q1, q2, q3⟩ := lift_row (id := id) (sz := sz) R h2
      refine ⟨_, by rw [show (id, Blk.row true sz []) :: mem = [(id, Blk.row true sz [])] ++ mem from rfl, mf_append]; exact q1, fun i => ?_, h3, h4⟩
      rw [show (id, Blk.row true sz []) :: mem = [(id, Blk.row true sz [])] ++ mem from rfl, mf_append]
      by_cases hi : s = i
      · subst hi
        have := hE s
        rw [h1] at this
        rw [RepT_nil.1 this]
        simp only [envE, Mem.get, if_true]
        exact q3 _
      · have : envE ((s, PV.ref id 0 0 0) :: env) i = envE env i := by simp [envE, Mem.get, hi]
        rw [this]
        exact (hE i).later q2
    · exact lift_sound h

theorem RepPL_set {w : World} {S : Nat → Prop} {β : Nat → Option Nat} {M : MF} {N : Nat} {q : PV} : ∀ {ps : List PV} {vs : List Value} {i : Nat} {p : PV}, RepPL w S β M N ps vs → ps[i]? = some p → (∀ v, RepP w S β M N p v → RepP w S β M N q v) → RepPL w S β M N (ps.set i q) vs
  | [], _, _, _, _, h, _ => by simp at h
  | p :: ps, vs, i, p', ⟨v, r, h1, h2, h3⟩, h, hq => by
    cases i with
    | zero => simp at h; subst h; exact ⟨v, r, h1, hq v h2, h3⟩
    | succ i => exact ⟨v, r, h1, h2, RepPL_set h3 (by simpa using h) hq⟩

theorem RepPL_ex {w : World} {S : Nat → Prop} {β : Nat → Option Nat} {M : MF} {N : Nat} : ∀ {ps : List PV} {vs : List Value} {i : Nat} {p : PV}, RepPL w S β M N ps vs → ps[i]? = some p → ∃ v, RepP w S β M N p v
  | [], _, _, _, _, h => by simp at h
  | p :: ps, vs, i, p', ⟨v, r, h1, h2, h3⟩, h => by
    cases i with
    | zero => simp at h; subst h; exact ⟨v, h2⟩
    | succ i => exact RepPL_ex h3 (by simpa using h)
theorem RepPL_at {w : World} {S : Nat → Prop} {β : Nat → Option Nat} {M : MF} {N : Nat} : ∀ {ps : List PV} {vs : List Value} {i : Nat} {p : PV} {v : Value}, RepPL w S β M N ps vs → ps[i]? = some p → vs[i]? = some v → RepP w S β M N p v
  | [], _, _, _, _, _, h, _ => by simp at h
  | p :: ps, vs, i, p', v', ⟨v, r, h1, h2, h3⟩, h, hv => by
    subst h1
    cases i with
    | zero => simp at h hv; subst h hv; exact h2
    | succ i => exact RepPL_at h3 (by simpa using h) (by simpa using hv)
/-- One cell anew, whose value is known by its place. -/
theorem RepPL_set2 {w : World} {S : Nat → Prop} {β : Nat → Option Nat} {M : MF} {N : Nat} {q : PV} : ∀ {ps : List PV} {vs : List Value} {i : Nat} {p : PV}, RepPL w S β M N ps vs → ps[i]? = some p → (∀ v, vs[i]? = some v → RepP w S β M N q v) → RepPL w S β M N (ps.set i q) vs
  | [], _, _, _, _, h, _ => by simp at h
  | p :: ps, vs, i, p', ⟨v, r, h1, h2, h3⟩, h, hq => by
    subst h1
    cases i with
    | zero => exact ⟨v, r, rfl, hq v (by simp), h3⟩
    | succ i => exact ⟨v, r, rfl, h2, RepPL_set2 h3 (by simpa using h) fun v hv => hq v (by simpa using hv)⟩

theorem liftV_sound : ∀ {ls : List (Nat × Nat × Nat)} {env : Mem PV} {mem : Mem Blk} {a : Act} {w : World}, RelS c nt (envE env) (mf mem) a w → RelS c nt (envE env) (mf (liftV ls mem)) a w
  | [], _, _, _, _, h => h
  | (id, cell, nid) :: r, env, mem, a, w, h => by
    unfold liftV
    split
    · rename_i own ps h1 h2
      split
      · rename_i sz h5
        refine liftV_sound ?_
        obtain ⟨β, R, hE, h3, h4⟩ := h
        obtain ⟨q1, q2, q3⟩ := lift_row (id := nid) (sz := sz) R h2
        have hne : id ≠ nid := by intro e; subst e; rw [h1] at h2; simp at h2
        have hm1 : over [(nid, Blk.row true sz [])] (mf mem) id = some (.var own ps) := by
          rw [over_one, if_neg hne]; exact h1
        obtain ⟨p1, p2⟩ := upd (w' := w) (id := id) (blk := .var own (ps.set cell (.ref nid 0 0 0))) (bo := bset β nid none id) (kill := none) (wb := none) (M' := over [(id, .var own (ps.set cell (.ref nid 0 0 0)))] (over [(nid, .row true sz [])] (mf mem))) (β' := bset β nid none) q1
          (fun i => by rw [over_one]; simp) (fun i => by split <;> simp_all) (by simp) q1.keep (Nat.le_refl _) (fun _ _ _ => rfl) (by simp)
          (fun b hb => Or.inl ⟨_, hm1, hb, fun h => h⟩) (fun _ => Nat.zero_le _) (fun _ _ _ h => by simp at h) (fun o qs he b0 h0 => by rw [hm1] at h0; simp only [Option.some.injEq] at h0; exact ⟨own, ps, h0.symm, rfl⟩)
          (fun b hb => by have := (q1.ok id _ b hm1 hb).2; cases own <;> exact this) (fun L => by
            obtain ⟨b, cs, T, fr, g1, g2, g3, g4, g5⟩ := q1.mem id _ hm1
            refine ⟨b, cs, T, fr, g1, g2, g3, fun ho => (L.hS b (g4 ho)).1, RepPL_set (g5.later L) h5 fun v hv => ?_⟩
            simp only [RepP] at hv
            subst hv
            exact RepT_ref.1 ((q3 (SS c (bset β nid none) (over [(nid, .row true sz [])] (mf mem)) w)).later L))
        rw [show (id, Blk.var own (ps.set cell (.ref nid 0 0 0))) :: (nid, Blk.row true sz []) :: mem = [(id, Blk.var own (ps.set cell (.ref nid 0 0 0)))] ++ ([(nid, Blk.row true sz [])] ++ mem) from rfl, mf_append, mf_append]
        exact ⟨_, p1, fun i => ((hE i).later q2).later p2, h3, h4⟩
      · exact liftV_sound h
    · exact liftV_sound h

theorem settle_slot {env : Mem PV} {mem fz : Mem Blk} {rd : List Nat} {x : D} {s : Nat} (h : (toD (envE env s)).Runs (mf mem) rd (x, fz)) {a : Act} {w : World} (hS : RelS c nt (envE env) (mf mem) a w) : RelS c nt (envE ((s, .d x) :: env)) (mf (updM fz mem)) a w := by
  obtain ⟨β, R, hE, h3, h4⟩ := hS
  obtain ⟨r, hr, h5, h6⟩ := toD_sound R (hE s) (fun r => r = (x, fz)) (h.wp rfl)
  subst hr
  obtain ⟨R1, L1, hc1⟩ := freeze R h5
  rw [mf_updM]
  refine ⟨β, R1, fun i => ?_, h3, h4⟩
  by_cases hi : s = i
  · subst hi
    simp only [envE, Mem.get, if_true]
    exact RepT_d.2 (h6 _ hc1)
  · have : envE ((s, PV.d x) :: env) i = envE env i := by simp [envE, Mem.get, hi]
    rw [this]
    exact (hE i).later L1
theorem settle_cell {env : Mem PV} {mem fz : Mem Blk} {rd : List Nat} {x : D} {own : Ow} {ps : List PV} {p : PV} {id cc : Nat} (hm : Mem.get mem id = some (.var own ps)) (hp : ps[cc]? = some p) (h : (toDs [p]).Runs (mf mem) rd ([x], fz)) (hf : (Mem.get fz id).isNone = true)
    {a : Act} {w : World} (hS : RelS c nt (envE env) (mf mem) a w) : RelS c nt (envE env) (mf ((id, .var own (ps.set cc (.d x))) :: updM fz mem)) a w := by
  obtain ⟨β, R, hE, h3, h4⟩ := hS
  have hm0 : mf mem id = some (.var own ps) := hm
  have key : Frz c β (mf mem) w fz fz ∧ ∀ S', FrzCond c β (mf mem) w fz S' → ∀ v, RepP w (SS c β (mf mem) w) β (mf mem) 0 p v → isAggD x = false ∧ RepC w S' x [v] := by
    obtain ⟨b, cs, T, fr, g1, g2, g3, g4, g5⟩ := R.mem id _ hm0
    obtain ⟨v0, hv0⟩ := RepPL_ex g5 hp
    obtain ⟨r, hr, h5, h6⟩ := toDs_sound R (ps := [p]) (vs := [v0]) ⟨v0, [], rfl, hv0, rfl⟩ (fun r => r = ([x], fz)) (h.wp rfl)
    subst hr
    refine ⟨h5, fun S' hS' v hv => ?_⟩
    obtain ⟨r, hr, _, h7⟩ := toDs_sound R (ps := [p]) (vs := [v]) ⟨v, [], rfl, hv, rfl⟩ (fun r => r = ([x], fz)) (h.wp rfl)
    subst hr
    obtain ⟨v', r', e1, e2, e3, _⟩ := h7 S' hS'
    simp only [List.cons.injEq] at e1
    obtain ⟨rfl, _⟩ := e1
    exact ⟨e2, e3⟩
  obtain ⟨h5, h6⟩ := key
  obtain ⟨R1, L1, hc1⟩ := freeze R h5
  have hm1 : over fz (mf mem) id = some (.var own ps) := by
    unfold over
    cases hq : Mem.get fz id with
    | none => exact hm0
    | some b => rw [hq] at hf; simp at hf
  obtain ⟨b, cs, T, fr, g1, g2, g3, g4, g5⟩ := R.mem id _ hm0
  obtain ⟨p1, p2⟩ := upd (w' := w) (id := id) (blk := .var own (ps.set cc (.d x))) (bo := β id) (kill := none) (wb := none) (M' := over [(id, .var own (ps.set cc (.d x)))] (over fz (mf mem))) (β' := β) R1
    (fun i => by rw [over_one]; simp) (fun i => by split <;> simp_all) (by simp) R1.keep (Nat.le_refl _) (fun _ _ _ => rfl) (by simp)
    (fun b hb => Or.inl ⟨_, hm1, hb, fun h => h⟩) (fun _ => Nat.zero_le _) (fun _ _ _ h => by simp at h) (fun o qs he b0 h0 => by rw [hm1] at h0; simp only [Option.some.injEq] at h0; exact ⟨own, ps, h0.symm, rfl⟩)
    (fun b hb => by have := (R1.ok id _ b hm1 hb).2; cases own <;> exact this) (fun L => by
      obtain ⟨b1, cs1, T1, fr1, k1, k2, k3, k4, k5⟩ := R1.mem id _ hm1
      rw [g1] at k1; simp only [Option.some.injEq] at k1; subst k1
      rw [g2] at k2; simp only [Option.some.injEq, Obj.cells.injEq] at k2
      obtain ⟨rfl, rfl, rfl⟩ := k2
      refine ⟨b, cs, T, fr, g1, g2, g3, fun ho => (L.hS b (k4 ho)).1, ?_⟩
      have hset : RepPL w (SS c β (over fz (mf mem)) w) β (over fz (mf mem)) 0 (ps.set cc (.d x)) cs.toList := RepPL_set2 k5 hp (q := .d x) fun v hv0 => h6 _ hc1 v (RepPL_at g5 hp hv0)
      exact hset.later L)
  rw [show (id, Blk.var own (ps.set cc (.d x))) :: updM fz mem = [(id, Blk.var own (ps.set cc (.d x)))] ++ updM fz mem from rfl, mf_append, mf_updM]
  exact ⟨β, p1, fun i => ((hE i).later L1).later p2, h3, h4⟩
/-- The beginning of a row as a row of its own; the row itself is gone. -/
theorem settle_trunc {env : Mem PV} {mem : Mem Blk} {sz ver len s id id' : Nat} {xs : List D} (hs : envE env s = .ref id ver 0 len) (hm : Mem.get mem id = some (.row true sz xs)) (hv : ver = xs.length) (hn : Mem.get mem id' = none) {a : Act} {w : World}
    (h : RelS c nt (envE env) (mf mem) a w) : RelS c nt (envE ((s, .ref id' len 0 len) :: env)) (mf ((id', .row true sz (xs.take len)) :: (id, .dead) :: mem)) a w := by
  obtain ⟨β, R, hE, h3, h4⟩ := h
  have hx := hE s
  rw [hs] at hx
  obtain ⟨h5, h6, h7⟩ := RepT_ref.1 hx
  obtain ⟨_, h8⟩ := h7 true sz xs hm
  have hsl := h8 hv
  have hlen : len ≤ xs.length := by have := hsl.1; omega
  have htl : (xs.take len).length = len := by rw [List.length_take]; omega
  have hne : id ≠ id' := by intro e; subst e; rw [hm] at hn; simp at hn
  have hM : ∀ i, mf ((id', .row true sz (xs.take len)) :: (id, .dead) :: mem) i = if i = id' then some (.row true sz (xs.take len)) else if some id = some i then some .dead else mf mem i := by
    intro i
    simp only [mf, Mem.get, Option.some.injEq]
    by_cases h1 : id' = i
    · rw [if_pos h1, if_pos h1.symm]
    · rw [if_neg h1, if_neg (Ne.symm h1)]
  have hmm : mf mem id = some (.row true sz xs) := hm
  obtain ⟨p1, p2⟩ := upd (w' := w) (id := id') (blk := .row true sz (xs.take len)) (bo := β id) (kill := some id) (wb := none) R (β' := fun i => if i = id' then β id else if some id = some i then none else β i) hM (fun i => rfl) (by simpa using hne) R.keep (Nat.le_refl _) (fun _ _ _ => rfl)
    (fun b h => by simp at h) (fun b hb => Or.inr (Or.inl ⟨id, _, rfl, hmm, rfl, hb⟩)) (fun _ => Nat.zero_le _) (fun _ _ _ _ b0 h0 => by
      have : mf mem id' = none := hn
      rw [this] at h0; simp at h0) (fun _ _ h => by simp at h) (fun b hb => (R.ok id _ b hmm hb).2) (fun hL => by
      rcases R.mem id _ hmm with ⟨q1, q2⟩ | ⟨b, cs, T, fr, q1, q2, q3, q4, q5, q6⟩
      · exact Or.inl ⟨by simp [q1], by simp [q2]⟩
      · refine Or.inr ⟨b, cs, T, fr, by simp [q1], q2, q3, ?_, by simp, ?_⟩
        · rw [htl]; exact Nat.le_trans (Nat.mul_le_mul_right _ hlen) q4
        · exact RepE_take (RepE.mono hL.hS sz b 0 xs rfl q6))
  refine ⟨_, p1, fun i => ?_, h3, h4⟩
  by_cases hi : s = i
  · subst hi
    have e : envE ((s, PV.ref id' len 0 len) :: env) s = .ref id' len 0 len := by simp [envE, Mem.get]
    rw [e]
    refine RepT_ref.2 ⟨h5, Or.inr (by rw [hM, if_pos rfl]; rfl), fun o z zs hz => ?_⟩
    rw [hM, if_pos rfl] at hz
    simp only [Option.some.injEq, Blk.row.injEq] at hz
    obtain ⟨_, rfl, rfl⟩ := hz
    refine ⟨by omega, fun _ => ⟨by omega, ?_⟩⟩
    rcases hsl.2 with ⟨g1, g2, g3⟩ | ⟨b, o', c', g1, g2, g3, g4⟩
    · exact Or.inl ⟨by simp [g1], g2, by omega⟩
    · exact Or.inr ⟨b, o', c', by simp [g1], g2, g3, g4⟩
  · have e : envE ((s, PV.ref id' len 0 len) :: env) i = envE env i := by simp [envE, Mem.get, hi]
    rw [e]
    exact (hE i).later p2
theorem settled_sound {env env' : Mem PV} {mem mem' : Mem Blk} (h : Settled env mem env' mem') {a : Act} {w : World} : RelS c nt (envE env) (mf mem) a w → RelS c nt (envE env') (mf mem') a w := by
  induction h with
  | refl => exact fun h => h
  | slot s h _ ih => exact fun hS => ih (settle_slot h hS)
  | cell id cc hm hp h hf _ ih => exact fun hS => ih (settle_cell hm hp h hf hS)
  | trunc s id id' hs hm hv hn _ ih => exact fun hS => ih (settle_trunc hs hm hv hn hS)

theorem nodupB_inj {f : Nat → Nat} : ∀ {l : List Nat}, nodupB (l.map f) = true → ∀ x ∈ l, ∀ y ∈ l, f x = f y → x = y
  | [], _, x, hx, _, _, _ => by simp at hx
  | z :: l, h, x, hx, y, hy, he => by
    simp only [List.map_cons, nodupB, Bool.and_eq_true, Bool.not_eq_true'] at h
    have hz : ∀ u ∈ l, f u ≠ f z := fun u hu e => by
      have : (List.map f l).contains (f z) = true := by
        simp only [List.contains_iff_mem, List.mem_map]
        exact ⟨u, hu, e⟩
      rw [h.1] at this; simp at this
    rcases List.mem_cons.1 hx with hx | hx
    · rcases List.mem_cons.1 hy with hy | hy
      · rw [hx, hy]
      · rw [hx] at he; exact absurd he.symm (hz y hy)
    · rcases List.mem_cons.1 hy with hy | hy
      · rw [hy] at he; exact absurd he (hz x hx)
      · exact nodupB_inj h.2 x hx y hy he

theorem retE_get {ρ : Nat → Nat} {env : Mem PV} {mem2 : Mem Blk} : ∀ {l : Mem PV}, retE ρ env mem2 l → ∀ i p, Mem.get l i = some p → envE env i = p.ren ρ ∧ allIn mem2 p.refs = true
  | [], _, i, p, h => by simp [Mem.get] at h
  | (j, q) :: l, hr, i, p, h => by
    simp only [Mem.get] at h
    split at h
    · rename_i he; subst he; simp only [Option.some.injEq] at h; subst h; exact hr.1
    · exact retE_get hr.2 i p h
theorem retM_get {ρ : Nat → Nat} {mem mem2 : Mem Blk} : ∀ {l : Mem Blk}, retM ρ mem mem2 l → ∀ i b, Mem.get l i = some b → Mem.get mem (ρ i) = some (b.ren ρ) ∧ (allIn mem2 b.refs && (!b.bor || ρ i == i)) = true
  | [], _, i, p, h => by simp [Mem.get] at h
  | (j, q) :: l, hr, i, p, h => by
    simp only [Mem.get] at h
    split at h
    · rename_i he; subst he; simp only [Option.some.injEq] at h; subst h; exact hr.1
    · exact retM_get hr.2 i p h
theorem allIn_get {mem2 : Mem Blk} {l : List Nat} (h : allIn mem2 l = true) : ∀ i ∈ l, (mf mem2 i).isSome := fun i hi => List.all_eq_true.1 h i hi

theorem Retag.toM {env env2 : Mem PV} {mem mem2 : Mem Blk} (h : Retag env mem env2 mem2) : RetagM (rhoOf env mem env2 mem2) mem mem2 := by
  obtain ⟨h1, _, h3⟩ := h
  refine ⟨fun id blk hb => ?_, fun id id' h4 h5 he => nodupB_inj h1 id (keys_get h4) id' (keys_get h5) he, fun id blk hb hbor => ?_⟩
  · obtain ⟨q1, q2⟩ := retM_get h3 id blk hb
    rw [Bool.and_eq_true] at q2
    exact ⟨q1, allIn_get q2.1⟩
  · obtain ⟨q1, q2⟩ := retM_get h3 id blk hb
    rw [Bool.and_eq_true, hbor] at q2
    simpa using q2.2

theorem Retag.sound {env env2 : Mem PV} {mem mem2 : Mem Blk} {a : Act} {w : World} (hS : RelS c nt (envE env) (mf mem) a w) (h : Retag env mem env2 mem2) : RelS c nt (envE env2) (mf mem2) a w := by
  obtain ⟨β, R, hE, h1, h2⟩ := hS
  obtain ⟨β2, R2, hU⟩ := retag R h.toM
  refine ⟨β2, R2, fun i => ?_, h1, h2⟩
  unfold envE
  cases hq : Mem.get env2 i with
  | none => exact RepT_any
  | some p =>
    obtain ⟨q1, q2⟩ := retE_get h.2.1 i p hq
    have := hE i
    rw [q1] at this
    exact RepT_unren hU (allIn_get q2) this

theorem Enter.sound {ls : Lifts} {next0 k : Nat} {I : Nat → Mem PV → Mem Blk → Prop} {env : Mem PV} {mem : Mem Blk} {a : Act} {w : World} (hS : RelS c nt (envE env) (mf mem) a w) (h : Enter ls next0 I k env mem) :
    ∃ env2 mem2, I k env2 mem2 ∧ RelS c nt (envE env2) (mf mem2) a w ∧ Fresh mem2 next0 := by
  obtain ⟨env1, mem1, h0, env2, mem2, h1, h2, h3⟩ := h
  refine ⟨env2, mem2, h1, h2.sound (liftV_sound (lift_sound (settled_sound h0 hS))), fun id hid => ?_⟩
  have := List.all_eq_true.1 h3 id (keys_get hid)
  simpa using this

/-! ### what a region was compiled to -/
theorem orAft_bit {acc : List Nat} {j : Nat} : ∀ {es : List Edge}, (orAft acc es).testBit j = true → ∃ e ∈ es, Region.binds .any e = true ∧ (j = e.on ∨ (acc.getD e.on 0).testBit j = true)
  | [], h => by simp [orAft] at h
  | e :: r, h => by
    simp only [orAft, Nat.testBit_or, Bool.or_eq_true] at h
    rcases h with h | h
    · split at h
      · rename_i hb
        rw [Nat.testBit_or, Bool.or_eq_true] at h
        rcases h with h | h
        · rw [Nat.testBit_two_pow] at h
          exact ⟨e, by simp, hb, Or.inl (by simpa using (of_decide_eq_true h).symm)⟩
        · exact ⟨e, by simp, hb, Or.inr h⟩
      · simp at h
    · obtain ⟨e', h1, h2⟩ := orAft_bit h
      exact ⟨e', by simp [h1], h2⟩

theorem befsGo_spec : ∀ (ops : List Oper) (acc : List Nat), ∃ ext, befsGo ops acc = acc ++ ext ∧ ext.length = ops.length ∧ ∀ i o, ops[i]? = some o → (befsGo ops acc)[acc.length + i]? = some (orAft ((befsGo ops acc).take (acc.length + i)) o.after.toList)
  | [], acc => ⟨[], by simp [befsGo], rfl, fun i o h => by simp at h⟩
  | o :: ops, acc => by
    have hgo : befsGo (o :: ops) acc = befsGo ops (acc ++ [orAft acc o.after.toList]) := by rw [befsGo, force_eq]
    obtain ⟨ext, h1, h2, h3⟩ := befsGo_spec ops (acc ++ [orAft acc o.after.toList])
    refine ⟨orAft acc o.after.toList :: ext, by rw [hgo]; simp [h1], by simp [h2], fun i o' hi => ?_⟩
    rw [hgo]
    cases i with
    | zero =>
      simp at hi; subst hi
      rw [h1]
      simp [List.append_assoc]
    | succ i =>
      have := h3 i o' (by simpa using hi)
      simp only [List.length_append, List.length_cons, List.length_nil] at this
      rwa [show acc.length + (0 + 1) + i = acc.length + (i + 1) by omega] at this

theorem compOper_spec {ops : Array Oper} {draw : Bool} {bef : List Nat} {i : Nat} {o : Oper} {r : ROper} (h : compOper P nt ops draw bef i o = some r) :
    Comp1 P nt ops o r ∧ (∀ e ∈ o.after, Region.binds .any e = true → e.on < i) ∧ r.bef = if draw then befOf (bef.getD i 0) ops.size else [] := by
  unfold compOper at h
  split at h
  · rename_i hc
    rw [Bool.and_eq_true] at hc
    have hlt : ∀ k, o.dst = some k → k < nt := fun k hk => by have := hc.1; rw [hk] at this; simpa [dstOk] using this
    have he : ∀ e ∈ o.after, Region.binds .any e = true → e.on < i := fun e he hb => by
      have := List.all_eq_true.1 hc.2 e (by simpa using he)
      simpa [hb] using this
    split at h
    · rename_i rop xs hop
      split at h
      · rename_i hg
        simp only [Option.some.injEq] at h; subst h
        exact ⟨⟨hop, rfl, hlt, Or.inl ⟨hg, rfl⟩⟩, he, rfl⟩
      · rename_i j want hg
        split at h
        · rename_i d hd
          simp only [Option.some.injEq] at h; subst h
          exact ⟨⟨hop, rfl, hlt, Or.inr ⟨j, want, d, hg, rfl, hd⟩⟩, he, rfl⟩
        · simp at h
    · simp at h
  · simp at h

theorem compRegion_get {ops : Array Oper} {draw : Bool} {rops : List ROper} (h : compRegion P nt ops draw = some rops) :
    rops.length = ops.size ∧ (∀ i o, ops[i]? = some o → ∃ r, rops[i]? = some r ∧ compOper P nt ops draw (if draw then befsGo ops.toList [] else []) i o = some r) ∧ (draw = true → apartOk rops = true) := by
  unfold compRegion at h
  rw [forceL_eq] at h
  split at h
  · rename_i l hl
    have hs := seqO_some hl
    split at h
    · simp at h
    · rename_i hap
      simp only [Option.some.injEq] at h; subst h
      have hlen : l.length = ops.size := by
        have := congrArg List.length hs
        simpa using this.symm
      refine ⟨hlen, fun i o hi => ?_, fun hd => by subst hd; simpa using hap⟩
      have := congrArg (fun x => x[i]?) hs
      simp only [List.getElem?_map, List.getElem?_zipIdx, Array.getElem?_toList, hi] at this
      cases hq : l[i]? with
      | none => rw [hq] at this; simp at this
      | some r =>
        rw [hq] at this
        simp at this
        exact ⟨r, rfl, this⟩
  · simp at h

theorem all2_of {R : Oper → ROper → Prop} : ∀ {ops : List Oper} {rops : List ROper}, ops.length = rops.length → (∀ (i : Nat) (o : Oper) (r : ROper), ops[i]? = some o → rops[i]? = some r → R o r) → All2 R ops rops
  | [], [], _, _ => .nil
  | [], _ :: _, h, _ => by simp at h
  | _ :: _, [], h, _ => by simp at h
  | o :: ops, r :: rops, h, hr => .cons (hr 0 o r rfl rfl) (all2_of (by simpa using h) fun i o r h1 h2 => hr (i + 1) o r (by simpa using h1) (by simpa using h2))

theorem apartOk_spec {rops : List ROper} (h : apartOk rops = true) {i j : Nat} {x y : ROper} (hij : i < j) (hx : rops[i]? = some x) (hy : rops[j]? = some y) : i ∈ y.bef ∨ apartR x y = true := by
  unfold apartOk at h
  have hj : j < rops.length := (List.getElem?_eq_some_iff.1 hy).1
  have h1 := List.all_eq_true.1 h j (List.mem_range.2 hj)
  have h2 := List.all_eq_true.1 h1 i (List.mem_range.2 hij)
  rw [hx, hy] at h2
  simp only [Bool.or_eq_true] at h2
  rcases h2 with h2 | h2
  · left; simpa using h2
  · exact Or.inr h2

theorem region_sound {ops : Array Oper} {draw : Bool} {id n : Nat} {rops : List ROper} {env : Mem PV} {mem : Mem Blk} {a : Act} {w : World} {Q : Exit → Act → World → Prop} {G : Mem PV → Mem Blk → Prop} (hm : P.follows .mixedOrders = true)
    (hc : compRegion P nt ops draw = some rops) (hS : RelS c nt (envE env) (mf mem) a w) (hf : Fresh mem n) (hG : if draw then rwDraw P rops n env mem [] G else rwOps P rops n env mem G)
    (hQ : ∀ env' mem' a' w', G env' mem' → RelS c nt (envE env') (mf mem') a' w' → Fresh mem' (n + 64 * rops.length) → Q .normal a' w') : (Code.region id ops draw).wp P Q a w := by
  obtain ⟨hlen, hget, hap⟩ := compRegion_get hc
  cases draw with
  | false =>
    simp only [Bool.false_eq_true, if_false] at hG
    refine wp_region_list (rwOps_sound (all2_of (by simp [hlen]) fun i o r h1 h2 => ?_) hS hf hG hQ)
    obtain ⟨r', h3, h4⟩ := hget i o (by simpa using h1)
    rw [h2] at h3; simp only [Option.some.injEq] at h3; subst h3
    exact (compOper_spec h4).1
  | true =>
    simp only [if_true] at hG hget
    have hD : ∀ (i : Nat) (o : ROper), rops[i]? = some o → ((rops[i]?).bind (fun (x : ROper) => x.dst)) = o.dst := fun i o h => by rw [h]; rfl
    obtain ⟨V, U, RD, env', mem', q1, q2, q3, q4⟩ := rwDraw_seq (rops := rops) (suf := rops) (D := fun i => (rops[i]?).bind (fun (x : ROper) => x.dst)) (E0 := envE env) (M0 := mf mem) (V := fun _ => .any) (U := fun _ => []) (RD := fun _ => []) (k := 0) (site0 := n) hD (fun i => by simp) (by rfl) (by rfl) (fun i hi => by omega) (fun i hi => by omega) (by simpa using hG)
    simp only [Nat.zero_add] at q2 q3 q4
    refine wp_region_any hm ?_
    have hfr : ∀ i, n ≤ i → mf mem i = none := fun i hi => hf.none hi
    obtain ⟨ext, _, hel, hbs⟩ := befsGo_spec ops.toList []
    simp only [List.length_nil, Nat.zero_add] at hbs
    have hp : Plan P c nt ops rops (fun i => (rops[i]?).bind (fun (x : ROper) => x.dst)) V U RD (envE env) (mf mem) n rops.length := by
      refine ⟨hlen.symm, fun i o hi => ?_, fun i j x y hij hx hy => apartOk_spec (hap rfl) hij hx hy, hfr⟩
      obtain ⟨r, h1, h2⟩ := hget i o hi
      obtain ⟨h3, h4, h5⟩ := compOper_spec h2
      simp only [if_true] at h5
      refine ⟨r, h1, h3, hD i r h1, q4 i (by rw [hlen]; exact (Array.getElem?_eq_some_iff.1 hi).1) r h1, h4, fun j hj => ?_⟩
      rw [h5] at hj
      unfold befOf at hj
      rw [List.mem_filter, List.mem_range] at hj
      obtain ⟨hjn, hjb⟩ := hj
      have hb := hbs i o (by simpa using hi)
      rw [List.getD_eq_getElem?_getD, hb] at hjb
      obtain ⟨e, he, hbind, h6⟩ := orAft_bit (by simpa using hjb)
      refine ⟨e, by simpa using he, hbind, ?_⟩
      rcases h6 with h6 | h6
      · exact Or.inl h6
      · right
        have hei := h4 e (by simpa using he) hbind
        have hin : i < ops.size := (Array.getElem?_eq_some_iff.1 hi).1
        have : ∃ oe, ops[e.on]? = some oe := ⟨ops[e.on], Array.getElem?_eq_getElem (by omega)⟩
        obtain ⟨oe, hoe⟩ := this
        obtain ⟨r', h7, h8⟩ := hget e.on oe hoe
        obtain ⟨_, _, h9⟩ := compOper_spec h8
        simp only [if_true] at h9
        refine ⟨r', h7, ?_⟩
        rw [h9]
        unfold befOf
        rw [List.mem_filter, List.mem_range]
        refine ⟨hjn, ?_⟩
        rw [List.getD_eq_getElem?_getD, List.getElem?_take, if_pos hei, ← List.getD_eq_getElem?_getD] at h6
        exact h6
    have hw : RelS c nt (envE env) (mf mem) a { w with drawn := w.drawn + 1 } := by
      obtain ⟨β, R, hE, h1, h2⟩ := hS
      obtain ⟨R', L⟩ := R.grow (w' := { w with drawn := w.drawn + 1 }) rfl rfl rfl (Nat.le_refl _) (fun _ _ => rfl)
      exact ⟨β, R', fun i => (hE i).later L, h1, h2⟩
    have e0 : ∀ j : Nat, (Array.replicate ops.size false).getD j false = false := by
      intro j
      rw [Array.getD_eq_getD_getElem?, Array.getElem?_replicate]
      split <;> rfl
    have eE : EL (fun i => (rops[i]?).bind (fun (x : ROper) => x.dst)) V (envE env) (fun j => (Array.replicate ops.size false).getD j false) rops.length = envE env := by
      funext t
      unfold EL
      rw [lastW_congr (q := fun _ => false) fun i _ => by simp only [e0, Bool.false_and]]
      have : ∀ m, lastW (fun _ => false) m = none := by intro m; induction m with | zero => rfl | succ m ih => simp [lastW, ih]
      rw [this]
    have eM : ML U (mf mem) (fun j => (Array.replicate ops.size false).getD j false) rops.length = mf mem := by
      funext t
      unfold ML
      rw [lastW_congr (q := fun _ => false) fun i _ => by simp only [e0, Bool.false_and]]
      have : ∀ m, lastW (fun _ => false) m = none := by intro m; induction m with | zero => rfl | succ m ih => simp [lastW, ih]
      rw [this]
    have hunl : ∀ m, unl (fun j => (Array.replicate ops.size false).getD j false) m = m := by
      intro m
      induction m with
      | zero => rfl
      | succ m ih =>
        have := e0 m
        simp only [unl, ih, this, Bool.false_eq_true, if_false]
    refine hp.any (fun a' w' hS' => hQ env' mem' a' w' q1 (by rw [q2, q3]; exact hS') ?_) ops.size _ a _ (by simp [hlen]) (fun i r hi => by simp only [e0] at hi; simp at hi) (by rw [hunl, hlen]; exact Nat.le_refl _) (by rw [eE, eM]; exact hw)
    intro i hi
    rw [q3] at hi
    unfold ML at hi
    split at hi
    · rename_i k hk
      obtain ⟨hk1, _⟩ := lastW_some hk
      obtain ⟨r, hr⟩ : ∃ r, rops[k]? = some r := ⟨rops[k], List.getElem?_eq_getElem hk1⟩
      rcases (q4 k hk1 r hr).wr i hi with h | ⟨k', h1, h2, h3, _⟩
      · have := hf i h; omega
      · omega
    · have := hf i hi; omega

theorem rwp_sound (hm : P.follows .mixedOrders = true) (h : Hints) : ∀ {code : Code} {rc : RCode} {G : Exit → Nat → Mem PV → Mem Blk → Prop} {n : Nat} {env : Mem PV} {mem : Mem Blk} {a : Act} {w : World} {Q : Exit → Act → World → Prop},
    comp P nt h code = some rc → RelS c nt (envE env) (mf mem) a w → Fresh mem n → rwp P rc G n env mem →
    (∀ e n env' mem' a' w', G e n env' mem' → RelS c nt (envE env') (mf mem') a' w' → Fresh mem' n → Q e a' w') → code.wp P Q a w := by
  intro code
  induction code with
  | skip =>
    intro rc G n env mem a w Q hc hS hf hG hQ
    simp only [comp, Option.some.injEq] at hc; subst hc
    exact wp_skip (hQ _ _ _ _ _ _ hG hS hf)
  | region id ops draw =>
    intro rc G n env mem a w Q hc hS hf hG hQ
    simp only [comp, Option.map_eq_some_iff] at hc
    obtain ⟨rops, hc, rfl⟩ := hc
    simp only [rwp] at hG
    exact region_sound hm hc hS hf hG fun env' mem' a' w' g s f => hQ _ _ _ _ _ _ g (s.keep _) f
  | seq x y ihx ihy =>
    intro rc G n env mem a w Q hc hS hf hG hQ
    simp only [comp] at hc
    split at hc
    · rename_i rx ry hx hy
      simp only [Option.some.injEq] at hc; subst hc
      simp only [rwp] at hG
      refine wp_seq (ihx hx hS hf hG fun e n env' mem' a' w' g s f => ?_)
      cases e with
      | normal =>
        rcases g with g | ⟨ls, next0, hent⟩
        · exact ihy hy s f g hQ
        · obtain ⟨env2, mem2, hI, hS2, hf2⟩ := hent.sound s
          exact ihy hy hS2 hf2 hI hQ
      | _ => exact hQ _ _ _ _ _ _ g s f
    · simp at hc
  | cond cc x y ihx ihy =>
    intro rc G n env mem a w Q hc hS hf hG hQ
    simp only [comp] at hc
    split at hc
    · rename_i rcc rx ry hcc hx hy
      simp only [Option.some.injEq] at hc; subst hc
      simp only [rwp] at hG
      split at hG
      · rename_i t ht
        obtain ⟨β, R, hE, _⟩ := id hS
        have := ro_rep hE hcc
        rw [ht] at this
        refine wp_cond (RepT_bool.1 this) ?_
        cases t with
        | true => exact ihx hx hS hf hG hQ
        | false => exact ihy hy hS hf hG hQ
      · exact hG.elim
    · simp at hc
  | block id b ih =>
    intro rc G n env mem a w Q hc hS hf hG hQ
    simp only [comp, Option.map_eq_some_iff] at hc
    obtain ⟨rb, hb, rfl⟩ := hc
    simp only [rwp] at hG
    refine wp_block (ih hb hS hf hG fun e n env' mem' a' w' g s f => ?_)
    cases e with
    | exit id' =>
      simp only at g
      simp only [Exit.inBlock]
      split at g
      · rename_i he; rw [if_pos he]; exact hQ _ _ _ _ _ _ g s f
      · rename_i he; rw [if_neg he]; exact hQ _ _ _ _ _ _ g s f
    | _ => exact hQ _ _ _ _ _ _ g s f
  | loop b ih =>
    intro rc G n env mem a w Q hc hS hf hG hQ
    simp only [comp, Option.map_eq_some_iff] at hc
    obtain ⟨rb, hb, rfl⟩ := hc
    simp only [rwp] at hG
    obtain ⟨ls, next0, I, k, hent, hround⟩ := hG
    refine wp_loop_ghost (fun k a w => ∃ env mem, I k env mem ∧ RelS c nt (envE env) (mf mem) a w ∧ Fresh mem next0) k (hent.sound hS) fun k a w ⟨env1, mem1, hI, hS1, hf1⟩ => ?_
    refine ih hb hS1 hf1 (hround k env1 mem1 hI) fun e n env' mem' a' w' g s f => ?_
    cases e with
    | normal =>
      obtain ⟨k', hk, hent'⟩ := g
      exact ⟨k', hk, hent'.sound s⟩
    | _ => exact hQ _ _ _ _ _ _ g s f
  | exit id =>
    intro rc G n env mem a w Q hc hS hf hG hQ
    simp only [comp, Option.some.injEq] at hc; subst hc
    exact wp_exit (hQ _ _ _ _ _ _ hG hS hf)
  | ret =>
    intro rc G n env mem a w Q hc hS hf hG hQ
    simp only [comp, Option.some.injEq] at hc; subst hc
    exact wp_ret (hQ _ _ _ _ _ _ hG hS hf)
  | _ => intro rc G n env mem a w Q hc; simp [comp] at hc
end
end Go.RW
