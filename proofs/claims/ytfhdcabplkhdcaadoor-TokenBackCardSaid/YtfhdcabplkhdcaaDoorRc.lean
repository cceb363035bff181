/- Values by value: an interpreter of the model's code, sound for every world; part 3. -/
import Derived.Test.YtfhdcabplkhdcaaDoorRb
import Derived.Below
import Derived.SizedLaws
import Derived.ChangeSlices
import Derived.OpenShut
import Derived.DataReads
import Derived.ChangeArms
import Derived.Lib.Bytealg
set_option linter.unusedVariables false
set_option linter.unusedSimpArgs false
/-! Functions. -/
namespace Go.RW

inductive RR where
  | t (i : Nat)
  | c (a n : Nat) (agg : Bool)
def compRes (P : Program) : List ResultVar → Option (List RR)
  | [] => some []
  | .tmp i :: r => (compRes P r).map (.t i :: ·)
  | .cell a t :: r => match sizeT P t, aggT P t, compRes P r with
    | some n, some g, some l => if g = true ∨ n = 1 then some (.c a n g :: l) else none
    | _, _, _ => none

def resQ (env : Mem PV) : List RR → Q (List PV)
  | [] => .ret []
  | .t i :: r => (resQ env r).bind fun l => .ret (envE env i :: l)
  | .c a n g :: r => match envE env a with
    | .ptr id off => .look id fun b => match b with
      | .var _ ps => .ask (off + n ≤ ps.length) ((resQ env r).bind fun l => .ret (partP g ps off n :: l))
      | _ => .fail
    | _ => .fail

/-- Arguments in their slots. -/
def initE : List AP → Nat → Nat → Mem PV
  | [], _, _ => []
  | .d x :: r, i, k => (i, .d x) :: initE r (i + 1) k
  | .p _ :: r, i, k => (i, .ptr k 0) :: initE r (i + 1) (k + 1)
  | .ip xs :: r, i, k => (i, .iptr xs) :: initE r (i + 1) k
def initM : List AP → Nat → Mem Blk
  | [], _ => []
  | .p xs :: r, k => (k, .var .bor (xs.map .d)) :: initM r (k + 1)
  | _ :: r, k => initM r k
def nbor : List AP → Nat
  | [] => 0
  | .p _ :: r => nbor r + 1
  | _ :: r => nbor r

/-- What is handed back, put into the form that the contract says. -/
def endQ : Nat → List PV → List PV → Q (List PV × Mem Blk × Mem Blk)
  | _, [], [] => .ret ([], [], [])
  | n, r :: rs, v :: vs => (match r with
      | .ref _ _ _ _ => match v with
        | .nil sz => .ret (.ref n 0 0 0, [(n, .row true sz [])], [])
        | v => .ret (v, [], [])
      | .ptr _ _ => .ret (v, [], [])
      | .agg _ => match v with
        | .agg ps => .ret (.agg ps, [], [])
        | v => (toD v).bind fun x => .ret (.d x.1, [], x.2)
      | _ => (toD v).bind fun x => .ret (.d x.1, [], x.2) : Q (PV × Mem Blk × Mem Blk)).bind fun a => (endQ (n + 1) rs vs).bind fun b => .ret (a.1 :: b.1, a.2.1 ++ b.2.1, a.2.2 ++ b.2.2)
  | _, _, _ => .fail
def outQ : Nat → Nat → Q (List (List D) × Mem Blk)
  | 0, _ => .ret ([], [])
  | m + 1, k => .look k fun b => match b with
    | .var .bor ps => (toDs ps).bind fun r => (outQ m (k + 1)).bind fun s => .ret (r.1 :: s.1, r.2 ++ s.2)
    | _ => .fail
def comps : PV → List PV
  | .tup ps => ps
  | p => [p]
def rhoR (rs vs : List PV) : List (Nat × Nat) := (PV.refsL rs).zip (PV.refsL vs)
def EndOK (r : PV) (mr : Mem Blk) (outs : List (List D)) (mem : Mem Blk) (vals : List PV) (lifts fz : Mem Blk) (outs' : List (List D)) : Prop :=
  let mem1 := lifts ++ (fz ++ mem)
  let ρ := appN (rhoR (comps r) vals ++ rhoM mem1 (rhoR (comps r) vals) mr)
  outs' = outs ∧ nodupB ((keys mr).map ρ) = true ∧ (vals = PV.renL ρ (comps r) ∧ allIn mr (PV.refsL (comps r)) = true) ∧ retM ρ mem1 mr mr
def endG (rr : List RR) (m : Nat) (outs : List (List D)) (r : PV) (mr : Mem Blk) : Exit → Nat → Mem PV → Mem Blk → Prop := fun e n env mem =>
  (match e with | .normal => True | .ret => True | _ => False) ∧
  ((resQ env rr).bind fun vs => (endQ n (comps r) vs).bind fun x => (outQ m 0).bind fun y => .ret (x, y)).wp (mf mem) fun z => EndOK r mr outs mem z.1.1 z.1.2.1 (z.1.2.2 ++ z.2.2) z.2.1

/-- The end, where some slots may be settled first. -/
def endG2 (rr : List RR) (m : Nat) (outs : List (List D)) (r : PV) (mr : Mem Blk) : Exit → Nat → Mem PV → Mem Blk → Prop := fun e n env mem =>
  endG rr m outs r mr e n env mem ∨ ∃ env1 mem1 n1, Settled env mem env1 mem1 ∧ (keys mem1).all (fun i => decide (i < n1)) = true ∧ endG rr m outs r mr e n1 env1 mem1

section
variable {P : Program} {c : Cx} {nt : Nat} {β : Nat → Option Nat} {M : MF} {w : World} {a : Act} {env : Mem PV}

def resSem (tmps : Array Value) : ResultVar → Sem Value
  | .tmp t => pure (tmps.getD t undef)
  | .cell a t => do loadVar t (← asAddr (tmps.getD a undef))

theorem resQ_sound (R : RelM c β M 0 w) (hE : ∀ i, RepT w (SS c β M w) β M 0 (envE env i) (a.tmps.getD i undef)) : ∀ {rs : List ResultVar} {rr : List RR} {G : List PV → Prop}, compRes P rs = some rr → (resQ env rr).wp M G →
    ∃ ps vs, G ps ∧ (rs.mapM (resSem a.tmps)).run P w = .ok vs w ∧ RepTL w (SS c β M w) β M 0 ps vs
  | [], rr, G, hc, hG => by
    simp only [compRes, Option.some.injEq] at hc; subst hc
    exact ⟨[], [], hG, by simp, by unfold RepTL; rfl⟩
  | .tmp i :: rs, rr, G, hc, hG => by
    simp only [compRes, Option.map_eq_some_iff] at hc
    obtain ⟨rr', hc, rfl⟩ := hc
    simp only [resQ] at hG
    rw [Q.wp_bind] at hG
    obtain ⟨ps, vs, h1, h2, h3⟩ := resQ_sound R hE hc hG
    refine ⟨_, a.tmps.getD i undef :: vs, h1, by simp [List.mapM_cons, resSem, h2], ?_⟩
    unfold RepTL
    exact ⟨_, _, rfl, hE i, h3⟩
  | .cell ad t :: rs, rr, G, hc, hG => by
    simp only [compRes] at hc
    split at hc
    · rename_i n g l hs hg hl
      split at hc
      · rename_i hcond
        simp only [Option.some.injEq] at hc; subst hc
        simp only [resQ] at hG
        split at hG
        · rename_i id off hp
          simp only [Q.wp] at hG
          split at hG
          · rename_i b hb
            split at hG
            · rename_i o ps
              obtain ⟨hn, hG⟩ := hG
              rw [Q.wp_bind] at hG
              obtain ⟨qs, vs, h1, h2, h3⟩ := resQ_sound R hE hl hG
              have hx := hE ad
              rw [hp] at hx
              obtain ⟨_, _, h4⟩ := RepT_ptr.1 hx
              obtain ⟨bb, h5, h6⟩ := h4 _ _ hb
              obtain ⟨b', cs, T, fr, h7, h8, _, _, h9⟩ := R.mem id _ hb
              rw [h5] at h7; simp only [Option.some.injEq] at h7; subst h7
              obtain ⟨v, h10, h11⟩ := part_rep (agg := g) h9 hn hcond
              have hlen := RepPL_length h9
              have hl' : ((cs.toList.drop off).take n).length = n := by rw [List.length_take, List.length_drop]; omega
              have hload := run_loadVar (P := P) hg hs hl' hcond (cellsAt_take (n := n) (cellsAt_blk h8))
              have hv : (if g then Value.agg ((cs.toList.drop off).take n).toArray else ((cs.toList.drop off).take n).getD 0 undef) = v := by
                cases g with
                | true => simpa using h10.symm
                | false =>
                  have : n = 1 := by simpa using hcond
                  subst this
                  simp only [Bool.false_eq_true, if_false] at h10 ⊢
                  rw [List.getD_eq_getElem?_getD, List.getElem?_take, if_pos (by omega), List.getElem?_drop, Nat.add_zero, h10]
                  rfl
              rw [hv] at hload
              refine ⟨_, v :: vs, h1, ?_, ?_⟩
              · simp [List.mapM_cons, resSem, asAddr, h6, hload, h2]
              · unfold RepTL
                exact ⟨_, _, rfl, h11, h3⟩
            · exact hG.elim
          · exact hG.elim
        · exact hG.elim
      · simp at hc
    · simp at hc

def retV : List Value → Value
  | [v] => v
  | vs => .tuple vs.toArray

theorem results_run {fn : Func} {vs : List Value} (h : (fn.results.toList.mapM (resSem a.tmps)).run P w = .ok vs w) : (results fn a.tmps).run P w = .ok (retV vs) w := by
  have : (fn.results.mapM (resSem a.tmps)).run P w = .ok vs.toArray w := by
    rw [Array.mapM_eq_mapM_toList]
    simp [h]
  have e : results fn a.tmps = (do
      let vs ← fn.results.mapM (resSem a.tmps)
      pure (if h : vs.size = 1 then vs[0] else .tuple vs)) := by
    unfold results
    congr 1
  rw [e]
  simp only [Sem.run_bind, this, Result.andThen_ok, Sem.run_pure]
  match vs with
  | [] => rfl
  | [v] => rfl
  | _ :: _ :: _ => rfl

/-- The lifted rows. -/
theorem lifts_sound : ∀ {l : Mem Blk} {n : Nat} {β : Nat → Option Nat} {M : MF}, RelM c β M 0 w → (∀ i, n ≤ i → M i = none) → ((∀ x ∈ l, n ≤ x.1) ∧ (l.map (·.1)).Nodup ∧ ∀ x ∈ l, ∃ sz, x.2 = .row true sz []) →
    ∃ β', RelM c β' (over l M) 0 w ∧ Later w w (SS c β M w) (SS c β' (over l M) w) β β' M (over l M) 0 0 ∧ ∀ x ∈ l, ∀ S', RepT w S' β' (over l M) 0 (.ref x.1 0 0 0) (.slice none 0 0)
  | [], n, β, M, R, hf, hl => ⟨β, R, Later.refl _ _ _ _ _, fun x hx => by simp at hx⟩
  | (i, blk) :: l, n, β, M, R, hf, ⟨h1, h2, h3⟩ => by
    simp only [List.map_cons, List.nodup_cons] at h2
    obtain ⟨β', R', L', hr⟩ := lifts_sound (l := l) (n := n) R hf ⟨fun x hx => h1 x (by simp [hx]), h2.2, fun x hx => h3 x (by simp [hx])⟩
    obtain ⟨sz, hb⟩ := h3 (i, blk) (by simp)
    simp only at hb
    subst hb
    have hn : over l M i = none := by
      rw [over_none, hf i (h1 (i, Blk.row true sz []) (by simp))]
      cases hq : Mem.get l i with
      | none => rfl
      | some b => exact absurd (List.mem_map_of_mem (f := (·.1)) (Mem.get_mem hq)) h2.1
    obtain ⟨q1, q2, q3⟩ := lift_row (id := i) (sz := sz) R' hn
    rw [← over_cons] at q1 q2
    refine ⟨_, q1, L'.trans q2, fun x hx S' => ?_⟩
    rcases List.mem_cons.1 hx with rfl | hx
    · rw [over_cons]; exact q3 S'
    · have := (hr x hx (SS c β' (over l M) w)).later q2
      obtain ⟨h4, h5, h6⟩ := RepT_ref.1 this
      exact RepT_ref.2 ⟨h4, h5, h6⟩

theorem RepTL_later {w' : World} {S S' : Nat → Prop} {β' : Nat → Option Nat} {M' : MF} {N N' : Nat} (h : Later w w' S S' β β' M M' N N') {ps : List PV} {vs : List Value} (hr : RepTL w S β M N ps vs) : RepTL w' S' β' M' N' ps vs := RepTL.later h hr

theorem endQ_sound (R : RelM c β M 0 w) : ∀ {rs vs : List PV} {us : List Value} {n : Nat} {G : List PV × Mem Blk × Mem Blk → Prop}, RepTL w (SS c β M w) β M 0 vs us → (endQ n rs vs).wp M G →
    ∃ z, G z ∧ Frz c β M w z.2.2 z.2.2 ∧ ((∀ x ∈ z.2.1, n ≤ x.1) ∧ (z.2.1.map (·.1)).Nodup ∧ ∀ x ∈ z.2.1, ∃ sz, x.2 = .row true sz []) ∧
      ∀ S' β' M', Later w w (SS c β M w) S' β β' M M' 0 0 → FrzCond c β M w z.2.2 S' → (∀ x ∈ z.2.1, RepT w S' β' M' 0 (.ref x.1 0 0 0) (.slice none 0 0)) → RepTL w S' β' M' 0 z.1 us
  | [], vs, us, n, G, hx, hG => by
    cases vs with
    | nil => exact ⟨_, hG, Frz.nil, ⟨by simp, by simp, by simp⟩, fun S' β' M' _ _ _ => by unfold RepTL at *; exact hx⟩
    | cons v vs => simp [endQ, Q.wp] at hG
  | r :: rs, vs, us, n, G, hx, hG => by
    cases vs with
    | nil => simp [endQ, Q.wp] at hG
    | cons v vs =>
      unfold RepTL at hx
      obtain ⟨u, us, rfl, h1, h2⟩ := hx
      unfold endQ at hG
      rw [Q.wp_bind] at hG
      have key : ∃ a : PV × Mem Blk × Mem Blk, ((endQ (n + 1) rs vs).bind fun b => .ret (a.1 :: b.1, a.2.1 ++ b.2.1, a.2.2 ++ b.2.2)).wp M G ∧ Frz c β M w a.2.2 a.2.2 ∧ (a.2.1 = [] ∨ ∃ sz, a.2.1 = [(n, .row true sz [])]) ∧
          ∀ S' β' M', Later w w (SS c β M w) S' β β' M M' 0 0 → FrzCond c β M w a.2.2 S' → (∀ x ∈ a.2.1, RepT w S' β' M' 0 (.ref x.1 0 0 0) (.slice none 0 0)) → RepT w S' β' M' 0 a.1 u := by
        have same : ((endQ (n + 1) rs vs).bind fun b => .ret ((v, ([] : Mem Blk), ([] : Mem Blk)).1 :: b.1, ([] : Mem Blk) ++ b.2.1, ([] : Mem Blk) ++ b.2.2)).wp M G → _ := fun hG => (⟨(v, [], []), hG, Frz.nil, Or.inl rfl, fun S' β' M' hL _ _ => h1.later hL⟩ : ∃ a : PV × Mem Blk × Mem Blk, ((endQ (n + 1) rs vs).bind fun b => .ret (a.1 :: b.1, a.2.1 ++ b.2.1, a.2.2 ++ b.2.2)).wp M G ∧ Frz c β M w a.2.2 a.2.2 ∧ (a.2.1 = [] ∨ ∃ sz, a.2.1 = [(n, .row true sz [])]) ∧
          ∀ S' β' M', Later w w (SS c β M w) S' β β' M M' 0 0 → FrzCond c β M w a.2.2 S' → (∀ x ∈ a.2.1, RepT w S' β' M' 0 (.ref x.1 0 0 0) (.slice none 0 0)) → RepT w S' β' M' 0 a.1 u)
        split at hG
        · split at hG
          · rename_i sz
            refine ⟨_, hG, Frz.nil, Or.inr ⟨sz, rfl⟩, fun S' β' M' _ _ h => ?_⟩
            rw [RepT_nil.1 h1]
            exact h (n, .row true sz []) (by simp)
          · exact same hG
        · exact same hG
        · split at hG
          · exact same hG
          · rw [Q.wp_bind] at hG
            obtain ⟨x, h3, h4, h5⟩ := toD_sound R h1 _ hG
            exact ⟨_, h3, h4, Or.inl rfl, fun S' β' M' _ hc _ => RepT_d.2 (h5 S' hc)⟩
        · rw [Q.wp_bind] at hG
          obtain ⟨x, h3, h4, h5⟩ := toD_sound R h1 _ hG
          exact ⟨_, h3, h4, Or.inl rfl, fun S' β' M' _ hc _ => RepT_d.2 (h5 S' hc)⟩
      obtain ⟨a, hG2, ha1, ha2, ha3⟩ := key
      rw [Q.wp_bind] at hG2
      obtain ⟨b, hb1, hb2, ⟨hb3, hb4, hb5⟩, hb6⟩ := endQ_sound R h2 hG2
      refine ⟨_, hb1, ha1.both hb2, ⟨fun x hx => ?_, ?_, fun x hx => ?_⟩, fun S' β' M' hL hc hl => ?_⟩
      · rcases List.mem_append.1 hx with hx | hx
        · rcases ha2 with h | ⟨sz, h⟩
          · rw [h] at hx; simp at hx
          · rw [h] at hx; simp at hx; subst hx; exact Nat.le_refl _
        · have := hb3 x hx; omega
      · rcases ha2 with h | ⟨sz, h⟩
        · simp only [h, List.nil_append]; exact hb4
        · simp only [h, List.cons_append, List.nil_append, List.map_cons, List.nodup_cons]
          refine ⟨fun hm => ?_, hb4⟩
          obtain ⟨x, hx, he⟩ := List.mem_map.1 hm
          have := hb3 x hx; omega
      · rcases List.mem_append.1 hx with hx | hx
        · rcases ha2 with h | ⟨sz, h⟩
          · rw [h] at hx; simp at hx
          · rw [h] at hx; simp at hx; subst hx; exact ⟨sz, rfl⟩
        · exact hb5 x hx
      · unfold RepTL
        exact ⟨u, us, rfl, ha3 S' β' M' hL (hc.sub isSome_append_left) (fun x hx => hl x (List.mem_append_left _ hx)), hb6 S' β' M' hL (hc.sub isSome_append_right) (fun x hx => hl x (List.mem_append_right _ hx))⟩

theorem outQ_sound (R : RelM c β M 0 w) : ∀ {m k : Nat} {G : List (List D) × Mem Blk → Prop}, k + m = c.bor.length → (outQ m k).wp M G → ∃ z, G z ∧ Frz c β M w z.2 z.2 ∧ ∀ S', FrzCond c β M w z.2 S' → OutsRep w S' z.1 (c.bor.drop k)
  | 0, k, G, hm, hG => ⟨_, hG, Frz.nil, fun S' _ => by simp only [OutsRep]; exact List.drop_of_length_le (by omega)⟩
  | m + 1, k, G, hm, hG => by
    simp only [outQ, Q.wp] at hG
    split at hG
    · rename_i b hb
      split at hG
      · rename_i ps
        rw [Q.wp_bind] at hG
        obtain ⟨bb, cs, T, fr, h1, h2, h3, _, h5⟩ := R.mem k _ hb
        obtain ⟨r, hr1, hr2, hr3⟩ := toDs_sound R h5 _ hG
        rw [Q.wp_bind] at hr1
        obtain ⟨s, hs1, hs2, hs3⟩ := outQ_sound R (k := k + 1) (by omega) hr1
        refine ⟨_, hs1, hr2.both hs2, fun S' hS' => ?_⟩
        have hok := (R.ok k _ bb hb h1).2
        simp only [Blk.bor, if_true] at hok
        have hlt : k < c.bor.length := by omega
        have hd : c.bor.drop k = bb :: c.bor.drop (k + 1) := by
          rw [List.drop_eq_getElem_cons hlt]
          congr 1
          rw [List.getElem?_eq_getElem hlt] at hok
          simpa using hok
        exact ⟨bb, _, cs, T, fr, hd, h2, h3, hr3 S' (hS'.sub isSome_append_left), hs3 S' (hS'.sub isSome_append_right)⟩
      · exact hG.elim
    · exact hG.elim

theorem initM_ge : ∀ {aps : List AP} {k id : Nat} {blk : Blk}, Mem.get (initM aps k) id = some blk → k ≤ id
  | [], k, id, blk, h => by simp [initM, Mem.get] at h
  | .d x :: r, k, id, blk, h => initM_ge (aps := r) (by simpa [initM] using h)
  | .ip x :: r, k, id, blk, h => initM_ge (aps := r) (by simpa [initM] using h)
  | .p x :: r, k, id, blk, h => by
    simp only [initM, Mem.get] at h
    split at h
    · omega
    · have := initM_ge (aps := r) h; omega

theorem init_blk {K : Nat → Prop} : ∀ {aps : List AP} {vs : List Value} {bs : List Nat} {k : Nat}, ArgsRep w K aps vs bs → ∀ id blk, Mem.get (initM aps k) id = some blk → ∃ xs b cs T fr, blk = .var .bor (xs.map .d) ∧ k ≤ id ∧ bs[id - k]? = some b ∧ w.heap[b]? = some (.cells cs T fr) ∧ Unfr cs.size fr ∧ RepL w K xs cs.toList
  | [], vs, bs, k, h, id, blk, hg => by simp [initM, Mem.get] at hg
  | .d x :: aps, vs, bs, k, h, id, blk, hg => by
    obtain ⟨v, r, rfl, _, h2⟩ := h
    exact init_blk h2 id blk (by simpa [initM] using hg)
  | .ip x :: aps, vs, bs, k, h, id, blk, hg => by
    obtain ⟨b, o, us, r, rfl, _, _, _, h2⟩ := h
    exact init_blk h2 id blk (by simpa [initM] using hg)
  | .p xs :: aps, vs, bs, k, h, id, blk, hg => by
    obtain ⟨b, r, bs', cs, T, fr, rfl, rfl, h1, h2, h3, h4⟩ := h
    simp only [initM, Mem.get] at hg
    split at hg
    · rename_i he
      simp only [Option.some.injEq] at hg; subst he; subst hg
      exact ⟨xs, b, cs, T, fr, rfl, Nat.le_refl _, by simp, h1, h2, h3⟩
    · obtain ⟨xs', b', cs', T', fr', q1, q2, q3, q4⟩ := init_blk h4 id blk hg
      refine ⟨xs', b', cs', T', fr', q1, by omega, ?_, q4⟩
      rw [show id - k = (id - (k + 1)) + 1 by omega]
      simpa using q3

theorem init_env {K S : Nat → Prop} {β : Nat → Option Nat} {M : MF} (hK : ∀ b, K b → S b) : ∀ {aps : List AP} {vs : List Value} {bs : List Nat} {i k : Nat}, ArgsRep w K aps vs bs → (∀ id blk, Mem.get (initM aps k) id = some blk → M id = some blk) → (∀ t b, bs[t]? = some b → β (k + t) = some b) →
    ∀ j p, Mem.get (initE aps i k) j = some p → ∃ v, i ≤ j ∧ vs[j - i]? = some v ∧ RepT w S β M 0 p v
  | [], vs, bs, i, k, h, hM, hβ, j, p, hg => by simp [initE, Mem.get] at hg
  | .d x :: aps, vs, bs, i, k, h, hM, hβ, j, p, hg => by
    obtain ⟨v, r, rfl, h1, h2⟩ := h
    simp only [initE, Mem.get] at hg
    split at hg
    · rename_i he; simp only [Option.some.injEq] at hg; subst he; subst hg
      exact ⟨v, Nat.le_refl _, by simp, RepT_d.2 (Rep.mono (fun b hb => ⟨hK b hb, rfl⟩) h1)⟩
    · obtain ⟨v', q1, q2, q3⟩ := init_env hK h2 (by simpa [initM] using hM) hβ j p hg
      exact ⟨v', by omega, by rw [show j - i = (j - (i + 1)) + 1 by omega]; simpa using q2, q3⟩
  | .ip x :: aps, vs, bs, i, k, h, hM, hβ, j, p, hg => by
    obtain ⟨b, o, us, r, rfl, h3, h4, h5, h2⟩ := h
    simp only [initE, Mem.get] at hg
    split at hg
    · rename_i he; simp only [Option.some.injEq] at hg; subst he; subst hg
      exact ⟨_, Nat.le_refl _, by simp, RepT_iptr.2 ⟨b, o, us, rfl, hK b h3, h4, RepL.mono (fun b hb => ⟨hK b hb, rfl⟩) _ _ h5⟩⟩
    · obtain ⟨v', q1, q2, q3⟩ := init_env hK h2 (by simpa [initM] using hM) hβ j p hg
      exact ⟨v', by omega, by rw [show j - i = (j - (i + 1)) + 1 by omega]; simpa using q2, q3⟩
  | .p xs :: aps, vs, bs, i, k, h, hM, hβ, j, p, hg => by
    obtain ⟨b, r, bs', cs, T, fr, rfl, rfl, h1, h2, h3, h4⟩ := h
    simp only [initE, Mem.get] at hg
    split at hg
    · rename_i he; simp only [Option.some.injEq] at hg; subst he; subst hg
      have hMk := hM k (.var .bor (xs.map .d)) (by simp [initM, Mem.get])
      exact ⟨_, Nat.le_refl _, by simp, RepT_ptr.2 ⟨⟨_, rfl⟩, Or.inr (by simp [hMk]), fun o cells _ => ⟨b, by simpa using hβ 0 b (by simp), rfl⟩⟩⟩
    · obtain ⟨v', q1, q2, q3⟩ := init_env hK h4 (k := k + 1) (fun id blk hq => hM id blk (by
        have := initM_ge hq
        simp only [initM, Mem.get]
        rw [if_neg (by omega)]; exact hq)) (fun t b' ht => by
        have := hβ (t + 1) b' (by simpa using ht)
        rwa [show k + (t + 1) = k + 1 + t by omega] at this) j p hg
      exact ⟨v', by omega, by rw [show j - i = (j - (i + 1)) + 1 by omega]; simpa using q2, q3⟩

theorem nodup_get : ∀ {l : List Nat} {i j b : Nat}, l.Nodup → l[i]? = some b → l[j]? = some b → i = j
  | [], i, j, b, _, h, _ => by simp at h
  | x :: l, i, j, b, hn, h1, h2 => by
    rw [List.nodup_cons] at hn
    cases i with
    | zero =>
      cases j with
      | zero => rfl
      | succ j =>
        simp at h1 h2; subst h1
        exact absurd (List.mem_of_getElem? h2) hn.1
    | succ i =>
      cases j with
      | zero =>
        simp at h1 h2; subst h2
        exact absurd (List.mem_of_getElem? h1) hn.1
      | succ j => exact congrArg (· + 1) (nodup_get (i := i) (j := j) hn.2 (by simpa using h1) (by simpa using h2))

theorem args_len {K : Nat → Prop} : ∀ {aps : List AP} {vs : List Value} {bs : List Nat}, ArgsRep w K aps vs bs → vs.length = aps.length ∧ bs.length = nbor aps ∧ ∀ b ∈ bs, b < w.heap.size
  | [], vs, bs, h => by obtain ⟨rfl, rfl⟩ := h; exact ⟨rfl, rfl, by simp⟩
  | .d x :: aps, vs, bs, h => by
    obtain ⟨v, r, rfl, h1, h2⟩ := h
    obtain ⟨q1, q2, q3⟩ := args_len h2
    exact ⟨by simp [q1], q2, q3⟩
  | .ip x :: aps, vs, bs, h => by
    obtain ⟨b, o, us, r, rfl, h3, h4, h5, h2⟩ := h
    obtain ⟨q1, q2, q3⟩ := args_len h2
    exact ⟨by simp [q1], q2, q3⟩
  | .p xs :: aps, vs, bs, h => by
    obtain ⟨b, r, bs', cs, T, fr, rfl, rfl, h1, h2, h3, h4⟩ := h
    obtain ⟨q1, q2, q3⟩ := args_len h4
    refine ⟨by simp [q1], by simp [nbor, q2], fun b' hb' => ?_⟩
    rcases List.mem_cons.1 hb' with rfl | hb'
    · exact (Array.getElem?_eq_some_iff.1 h1).1
    · exact q3 b' hb'

def tupOk : PV → Bool
  | .tup ps => ps.length != 1
  | _ => true
def retOk (mr : Mem Blk) : Bool := mr.all fun x => decide (x.1 < 64) && !x.2.bor

/-- A FUNCTION'S CONTRACT, from its code. -/
theorem callOK_of_rwp {f : FuncId} {fn : Func} {code : Code} {rc : RCode} {h : Hints} {rr : List RR} {aps : List AP} {outs : List (List D)} {r : PV} {mr : Mem Blk} (hm : P.follows .mixedOrders = true) (hf : P.funcs[f]? = some fn) (hname : (fn.name == "runtime.NumGoroutine") = false)
    (hb : fn.body = some code) (hc : comp P fn.ntmps h code = some rc) (hr : compRes P fn.results.toList = some rr) (hlen : aps.length ≤ fn.ntmps) (hnb : nbor aps ≤ 64) (htup : tupOk r = true) (hmr : retOk mr = true)
    (H : rwp P rc (endG2 rr (nbor aps) outs r mr) 64 (initE aps 0 0) (initM aps 0)) : CallOK P f aps outs r mr := by
  refine ⟨fun x hx => ?_, fun w K vs bs hargs hnd hK => Or.inl ⟨?_, ?_⟩⟩
  · have := List.all_eq_true.1 hmr x hx
    simpa using this
  · have hname' : fn.name ≠ "runtime.NumGoroutine" := by simpa using hname
    simp [callFunc, hf, hname', hb]
  · obtain ⟨hl1, hl2, hl3⟩ := args_len hargs
    refine calls_of_wp hf hb ?_
    have hblk := init_blk (k := 0) hargs
    have R0 : RelM ⟨w, K, bs⟩ (fun i => bs[i]?) (mf (initM aps 0)) 0 w ∧ (∀ b, K b → SS ⟨w, K, bs⟩ (fun i => bs[i]?) (mf (initM aps 0)) w b) := by
      have hSK : ∀ b, K b → SS ⟨w, K, bs⟩ (fun i => bs[i]?) (mf (initM aps 0)) w b := by
        intro b hb
        refine ⟨(hK b hb).1, Or.inl hb, fun ⟨id, blk, h1, h2, h3⟩ => ?_⟩
        exact (hK b hb).2 (List.mem_of_getElem? h3)
      refine ⟨⟨⟨rfl, rfl, rfl, Nat.le_refl _, fun b _ _ => rfl⟩, hK, hl3, fun id blk hm => ?_, fun id id' b _ _ h1 h2 => ?_, fun id blk b hm hb => ?_⟩, hSK⟩
      · obtain ⟨xs, b, cs, T, fr, rfl, _, q3, q4, q5, q6⟩ := hblk id blk hm
        exact ⟨b, cs, T, fr, by simpa using q3, q4, q5, by simp [Ow.w], RepPL_d.2 (RepL.mono (fun b hb => ⟨hSK b hb, rfl⟩) _ _ q6)⟩
      · exact nodup_get hnd h1 h2
      · obtain ⟨xs, b', cs, T, fr, rfl, _, q3, q4, q5, q6⟩ := hblk id blk hm
        exact ⟨hl3 b (List.mem_of_getElem? hb), by simpa [Blk.bor] using hb⟩
    obtain ⟨R0, hSK⟩ := R0
    refine rwp_sound (c := ⟨w, K, bs⟩) hm h hc ⟨_, R0, fun i => ?_, rfl, ?_⟩ (fun id hid => ?_) H fun e n env' mem' a' w' hG hS hfr => ?_
    · unfold envE
      cases hq : Mem.get (initE aps 0 0) i with
      | none => exact RepT_any
      | some p =>
        obtain ⟨v, _, q2, q3⟩ := init_env (β := fun i => bs[i]?) (M := mf (initM aps 0)) hSK hargs (fun id blk h => h) (fun t b ht => by simpa using ht) i p hq
        rw [Nat.sub_zero] at q2
        have : (vs.toArray ++ Array.replicate (fn.ntmps - vs.toArray.size) undef).getD i undef = v := by
          obtain ⟨h1, h2⟩ := List.getElem?_eq_some_iff.1 q2
          rw [Array.getD_eq_getD_getElem?, Array.getElem?_append_left (by simpa using h1)]
          simp [q2]
        simp only
        rw [this]; exact q3
    · simp; omega
    · obtain ⟨blk, hb⟩ := Option.isSome_iff_exists.1 hid
      obtain ⟨xs, b, cs, T, fr, _, _, q3, _⟩ := hblk id blk hb
      have := (List.getElem?_eq_some_iff.1 q3).1
      omega
    · have hG : ∃ env1 mem1 n1, RelS ⟨w, K, bs⟩ fn.ntmps (envE env1) (mf mem1) a' w' ∧ Fresh mem1 n1 ∧ endG rr (nbor aps) outs r mr e n1 env1 mem1 := by
        rcases hG with hG | ⟨env1, mem1, n1, g1, g2, g3⟩
        · exact ⟨env', mem', n, hS, hfr, hG⟩
        · refine ⟨env1, mem1, n1, settled_sound g1 hS, fun id hid => ?_, g3⟩
          have := List.all_eq_true.1 g2 id (keys_get hid)
          simpa using this
      clear hS hfr
      obtain ⟨env', mem', n, hS, hfr, hG⟩ := hG
      obtain ⟨hex, hG⟩ := hG
      obtain ⟨β, R, hE, hdef, hsz⟩ := hS
      rw [Q.wp_bind] at hG
      obtain ⟨ps, us, hG, hrun, hps⟩ := resQ_sound (P := P) R hE hr hG
      rw [Q.wp_bind] at hG
      obtain ⟨z, hG, hz1, hz2, hz3⟩ := endQ_sound R hps hG
      rw [Q.wp_bind] at hG
      obtain ⟨y, hG, hy1, hy2⟩ := outQ_sound R (k := 0) (m := nbor aps) (by simp [hl2]) hG
      obtain ⟨e1, e2, ⟨e3, e4⟩, e5⟩ := hG
      have hfzz := hz1.both hy1
      obtain ⟨R1, L1, hc1⟩ := freeze R hfzz
      have hno : ∀ i, n ≤ i → over (z.2.2 ++ y.2) (mf mem') i = none := by
        intro i hi
        rw [over_none, hfr.none hi]
        cases hq : Mem.get (z.2.2 ++ y.2) i with
        | none => rfl
        | some b =>
          obtain ⟨b0, h0, _⟩ := hfzz i b hq
          rw [hfr.none hi] at h0; simp at h0
      obtain ⟨β1, R2, L2, hl⟩ := lifts_sound R1 hno hz2
      rw [← mf_append, ← mf_append] at R2 L2 hl
      have hfc1 : FrzCond ⟨w, K, bs⟩ β (mf mem') w' (z.2.2 ++ y.2) (SS ⟨w, K, bs⟩ β1 (mf (z.2.1 ++ ((z.2.2 ++ y.2) ++ mem'))) w') := by
        rw [← mf_append] at hc1
        exact ⟨fun b hb => (L2.hS b (hc1.1 b hb)).1, fun id b h1 h2 => (L2.hS b (hc1.2 id b h1 h2)).1⟩
      have L1' := L1
      rw [← mf_append] at L1'
      have hvals := hz3 _ _ _ (L1'.trans L2) (hfc1.sub isSome_append_left) (fun x hx => hl x hx _)
      obtain ⟨β2, R3, hU⟩ := retag R2 (show RetagM _ _ mr from by
        refine ⟨fun id blk hb => ?_, fun id id' h4 h5 he => nodupB_inj e2 id (keys_get h4) id' (keys_get h5) he, fun id blk hb hbor => ?_⟩
        · obtain ⟨q1, q2⟩ := retM_get e5 id blk hb
          rw [Bool.and_eq_true] at q2
          exact ⟨q1, allIn_get q2.1⟩
        · obtain ⟨q1, q2⟩ := retM_get e5 id blk hb
          rw [Bool.and_eq_true, hbor] at q2
          simpa using q2.2)
      have hvals' := hvals
      rw [e3] at hvals'
      have hcomps := RepTL_unren hU (allIn_get e4) hvals'
      have hret : RepT w' (SS ⟨w, K, bs⟩ β2 (mf mr) w') β2 (mf mr) 0 r (retV us) := by
        cases r with
        | tup qs =>
          simp only [comps] at hcomps
          have hll : qs.length = us.length := by
            have gen : ∀ (ps : List PV) (vs : List Value), RepTL w' (SS ⟨w, K, bs⟩ β2 (mf mr) w') β2 (mf mr) 0 ps vs → ps.length = vs.length := by
              intro ps
              induction ps with
              | nil => intro vs h; unfold RepTL at h; subst h; rfl
              | cons p ps ih => intro vs h; unfold RepTL at h; obtain ⟨v, r, rfl, _, h2⟩ := h; simp [ih r h2]
            exact gen _ _ hcomps
          simp only [tupOk, bne_iff_ne, ne_eq] at htup
          refine RepT_tup.2 ⟨us, ?_, hcomps⟩
          match us, hll with
          | [], _ => rfl
          | [v], hl => exact absurd hl htup
          | _ :: _ :: _, _ => rfl
        | _ =>
          simp only [comps] at hcomps
          unfold RepTL at hcomps
          obtain ⟨v, rest, rfl, h1, h2⟩ := hcomps
          unfold RepTL at h2
          subst h2
          exact h1
      have hR := results_run (fn := fn) hrun
      have fin : ∃ v β, Ending.returned (retV us) = .returned v ∧ RetRep ⟨w, K, bs⟩ w' outs r mr v β := by
        refine ⟨_, β2, rfl, ⟨R3, hret, ?_⟩⟩
        rw [← e1]
        have := hy2 (SS ⟨w, K, bs⟩ β2 (mf mr) w') ⟨fun b hb => hU.hS b (hfc1.1 b hb), fun id b h1 h2 => hU.hS b (hfc1.2 id b (isSome_append_right id h1) h2)⟩
        simpa using this
      cases e with
      | normal => exact ⟨hdef, _, hR, fin⟩
      | ret => exact ⟨hdef, _, hR, fin⟩
      | _ => exact hex.elim

/-- A function, compiled: its code, its results, its slots. -/
def compFn (P : Program) (f : FuncId) (h : Hints) : Option (RCode × List RR × Nat) := match P.funcs[f]? with
  | some fn => if fn.name == "runtime.NumGoroutine" then none else match fn.body with
    | some code => match comp P fn.ntmps h code, compRes P fn.results.toList with
      | some rc, some rr => some (rc, rr, fn.ntmps)
      | _, _ => none
    | none => none
  | none => none
/-- A FUNCTION'S CONTRACT, from what it was compiled to. -/
theorem callOK {P : Program} {f : FuncId} {rc : RCode} {h : Hints} {rr : List RR} {nt : Nat} {aps : List AP} {outs : List (List D)} {r : PV} {mr : Mem Blk} (hc : compFn P f h = some (rc, rr, nt)) (hm : P.follows .mixedOrders = true)
    (hs : (decide (aps.length ≤ nt) && decide (nbor aps ≤ 64) && tupOk r && retOk mr) = true)
    (H : rwp P rc (endG2 rr (nbor aps) outs r mr) 64 (initE aps 0 0) (initM aps 0)) : CallOK P f aps outs r mr := by
  unfold compFn at hc
  split at hc
  · rename_i fn hf
    split at hc
    · simp at hc
    · rename_i hname
      split at hc
      · rename_i code hb
        split at hc
        · rename_i rc' rr' h1 h2
          simp only [Option.some.injEq, Prod.mk.injEq] at hc
          obtain ⟨rfl, rfl, rfl⟩ := hc
          simp only [Bool.and_eq_true, decide_eq_true_eq] at hs
          obtain ⟨⟨⟨q1, q2⟩, q3⟩, q4⟩ := hs
          exact callOK_of_rwp hm hf (by simpa using hname) hb h1 h2 q1 q2 q3 q4 H
        · simp at hc
      · simp at hc
  · simp at hc
end
end Go.RW

/-! Steps of rwp, one at a time: what follows stands behind a variable. -/
namespace Go.RW
/-- A fact laid aside. -/
structure Box (p : Prop) : Prop where
  out : p

section
variable {P : Program}
def thenK (K : Nat → Mem PV → Mem Blk → Prop) (G : Exit → Nat → Mem PV → Mem Blk → Prop) : Exit → Nat → Mem PV → Mem Blk → Prop
  | .normal, n, env, mem => K n env mem
  | e, n, env, mem => G e n env mem
def blockK (id : Nat) (K : Nat → Mem PV → Mem Blk → Prop) (G : Exit → Nat → Mem PV → Mem Blk → Prop) : Exit → Nat → Mem PV → Mem Blk → Prop
  | .normal, n, env, mem => K n env mem
  | .exit id', n, env, mem => if id' = id then K n env mem else G (.exit id') n env mem
  | e, n, env, mem => G e n env mem

theorem rwp_mono {c : RCode} {G G' : Exit → Nat → Mem PV → Mem Blk → Prop} {n : Nat} {env : Mem PV} {mem : Mem Blk} (h : rwp P c G n env mem) (hG : G = G') : rwp P c G' n env mem := hG ▸ h

theorem rwp_skip {G : Exit → Nat → Mem PV → Mem Blk → Prop} {n : Nat} {env : Mem PV} {mem : Mem Blk} (h : G .normal n env mem) : rwp P .skip G n env mem := h
theorem rwp_ret {G : Exit → Nat → Mem PV → Mem Blk → Prop} {n : Nat} {env : Mem PV} {mem : Mem Blk} (h : G .ret n env mem) : rwp P .ret G n env mem := h
theorem rwp_exit {id : Nat} {G : Exit → Nat → Mem PV → Mem Blk → Prop} {n : Nat} {env : Mem PV} {mem : Mem Blk} (h : G (.exit id) n env mem) : rwp P (.exit id) G n env mem := h
theorem rwp_seq {a b : RCode} {G : Exit → Nat → Mem PV → Mem Blk → Prop} {n : Nat} {env : Mem PV} {mem : Mem Blk} (h : ∀ K : Nat → Mem PV → Mem Blk → Prop, (∀ n env mem, rwp P b G n env mem → K n env mem) → rwp P a (thenK K G) n env mem) : rwp P (.seq a b) G n env mem := by
  have := h (fun n env mem => rwp P b G n env mem ∨ ∃ ls next0, Enter ls next0 (fun _ env mem => rwp P b G next0 env mem) 0 env mem) fun n env mem h => Or.inl h
  simp only [rwp]
  refine rwp_mono this ?_
  funext e n env mem
  cases e <;> rfl
/-- The ways of a meet before b. -/
theorem rwp_join {a b : RCode} {G : Exit → Nat → Mem PV → Mem Blk → Prop} {n : Nat} {env : Mem PV} {mem : Mem Blk} (ls : Lifts) (next0 : Nat) (I : Mem PV → Mem Blk → Prop)
    (hb : ∀ env mem, I env mem → rwp P b G next0 env mem)
    (h : ∀ K : Nat → Mem PV → Mem Blk → Prop, (∀ n env mem, Enter ls next0 (fun _ => I) 0 env mem → K n env mem) → rwp P a (thenK K G) n env mem) : rwp P (.seq a b) G n env mem := by
  have := h (fun n env mem => rwp P b G n env mem ∨ ∃ ls next0, Enter ls next0 (fun _ env mem => rwp P b G next0 env mem) 0 env mem) fun n env mem h => by
    obtain ⟨env1, mem1, h0, env2, mem2, h1, h2, h3⟩ := h
    exact Or.inr ⟨ls, next0, env1, mem1, h0, env2, mem2, hb _ _ h1, h2, h3⟩
  simp only [rwp]
  refine rwp_mono this ?_
  funext e n env mem
  cases e <;> rfl
theorem rwp_block {id : Nat} {b : RCode} {G : Exit → Nat → Mem PV → Mem Blk → Prop} {n : Nat} {env : Mem PV} {mem : Mem Blk} (h : ∀ K : Nat → Mem PV → Mem Blk → Prop, (∀ n env mem, G .normal n env mem → K n env mem) → rwp P b (blockK id K G) n env mem) : rwp P (.block id b) G n env mem := by
  have := h _ fun n env mem h => h
  simp only [rwp]
  refine rwp_mono this ?_
  funext e n env mem
  cases e <;> rfl
theorem rwp_region {ops : List ROper} {live : List Nat} {G : Exit → Nat → Mem PV → Mem Blk → Prop} {n : Nat} {env : Mem PV} {mem : Mem Blk} (h : ∀ K : Mem PV → Mem Blk → Prop, (∀ env mem, G .normal (n + 64 * ops.length) (keepE live env) mem → K env mem) → rwOps P ops n env mem K) : rwp P (.region false ops live) G n env mem := by
  simp only [rwp, Bool.false_eq_true, if_false]
  exact h _ fun _ _ h => h
theorem rwp_draw {ops : List ROper} {live : List Nat} {G : Exit → Nat → Mem PV → Mem Blk → Prop} {n : Nat} {env : Mem PV} {mem : Mem Blk} (h : ∀ K : Mem PV → Mem Blk → Prop, (∀ env mem, G .normal (n + 64 * ops.length) (keepE live env) mem → K env mem) → rwDraw P ops n env mem [] K) : rwp P (.region true ops live) G n env mem := by
  simp only [rwp, if_true]
  exact h _ fun _ _ h => h
theorem rwp_cond {c : RO} {a b : RCode} {G : Exit → Nat → Mem PV → Mem Blk → Prop} {n : Nat} {env : Mem PV} {mem : Mem Blk} {t : Bool} (hc : c.val (envE env) = .d (.bool t)) (h1 : t = true → rwp P a G n env mem) (h2 : t = false → rwp P b G n env mem) : rwp P (.cond c a b) G n env mem := by
  simp only [rwp, hc]
  cases t with
  | true => exact h1 rfl
  | false => exact h2 rfl
theorem rwOps_nil {site : Nat} {env : Mem PV} {mem : Mem Blk} {G : Mem PV → Mem Blk → Prop} (h : G env mem) : rwOps P [] site env mem G := h
theorem rwOps_op {o : ROper} {r : List ROper} {site : Nat} {env : Mem PV} {mem : Mem Blk} {G : Mem PV → Mem Blk → Prop} (hg : o.guard = none) (h : ∀ K : PV → Mem Blk → Prop, (∀ v u, rwOps P r (site + 64) (putE o.dst v env) (updM u mem) G → K v u) → (opQ site o.op (o.xs.map (RO.val (envE env)))).wp (mf mem) (Res.fin P K)) : rwOps P (o :: r) site env mem G := by
  simp only [rwOps, hg]
  exact h _ fun _ _ h => h
theorem rwOps_guard {o : ROper} {r : List ROper} {site : Nat} {env : Mem PV} {mem : Mem Blk} {G : Mem PV → Mem Blk → Prop} {g : Nat} {want b : Bool} (hg : o.guard = some (g, want)) (hb : envE env g = .d (.bool b))
    (h1 : b = want → ∀ K : PV → Mem Blk → Prop, (∀ v u, rwOps P r (site + 64) (putE o.dst v env) (updM u mem) G → K v u) → (opQ site o.op (o.xs.map (RO.val (envE env)))).wp (mf mem) (Res.fin P K))
    (h2 : b ≠ want → rwOps P r (site + 64) (putE o.dst (.tup []) env) mem G) : rwOps P (o :: r) site env mem G := by
  simp only [rwOps, hg, hb]
  by_cases h : b = want
  · rw [if_pos h]; exact h1 h _ fun _ _ h => h
  · rw [if_neg h]; exact h2 h
theorem rwOps_skip {o : ROper} {r : List ROper} {site : Nat} {env : Mem PV} {mem : Mem Blk} {G : Mem PV → Mem Blk → Prop} {g : Nat} {want : Bool} (hg : o.guard = some (g, want)) (hb : envE env g = .tup [])
    (h : rwOps P r (site + 64) (putE o.dst (.tup []) env) mem G) : rwOps P (o :: r) site env mem G := by
  simp only [rwOps, hg, hb]
  exact h
theorem rwDraw_nil {site : Nat} {env : Mem PV} {mem : Mem Blk} {recs : List (List Nat × List Nat)} {G : Mem PV → Mem Blk → Prop} (h : G env mem) : rwDraw P [] site env mem recs G := h
theorem wpr_mono {α : Type} {M : MF} {G G' : List Nat → α → Prop} (h : ∀ r a, G r a → G' r a) : ∀ {q : Q α}, q.wpr M G → q.wpr M G' := by
  intro q hq
  induction q generalizing G G' with
  | ret a => exact h _ _ hq
  | look id k ih =>
    simp only [Q.wpr] at *
    split
    · rename_i b hb; rw [hb] at hq; exact ih b (fun r a => h _ a) hq
    · rename_i hb; rw [hb] at hq; exact hq
  | ask p k ih => exact ⟨hq.1, ih h hq.2⟩
  | amb p k ih => exact hq
  | fail => exact hq
/-- What an operation's reads and writes are to satisfy in a region whose order is open. -/
def drawChk (bef : List Nat) (rd wr : List Nat) (recs : List (List Nat × List Nat)) (mem : Mem Blk) (site : Nat) : Bool :=
  clash bef rd wr 0 recs && wr.all (fun i => (Mem.get mem i).isSome || (decide (site ≤ i) && decide (i < site + 64)))
theorem rwDraw_op {o : ROper} {r : List ROper} {site : Nat} {env : Mem PV} {mem : Mem Blk} {recs : List (List Nat × List Nat)} {G : Mem PV → Mem Blk → Prop} (hg : o.guard = none)
    (h : ∀ K : List Nat → PV → Mem Blk → Prop, (∀ rd v u, drawChk o.bef rd (keys u) recs mem site = true → rwDraw P r (site + 64) (putE o.dst v env) (updM u mem) (recs ++ [(rd, keys u)]) G → K rd v u) → (opQ site o.op (o.xs.map (RO.val (envE env)))).wpr (mf mem) fun rd res => res.fin P (K rd)) : rwDraw P (o :: r) site env mem recs G := by
  simp only [rwDraw, hg]
  exact h (fun rd v u => _) fun rd v u h1 h2 => ⟨h1, h2⟩
theorem rwDraw_guard {o : ROper} {r : List ROper} {site : Nat} {env : Mem PV} {mem : Mem Blk} {recs : List (List Nat × List Nat)} {G : Mem PV → Mem Blk → Prop} {g : Nat} {want b : Bool} (hg : o.guard = some (g, want)) (hb : envE env g = .d (.bool b))
    (h1 : b = want → ∀ K : List Nat → PV → Mem Blk → Prop, (∀ rd v u, drawChk o.bef rd (keys u) recs mem site = true → rwDraw P r (site + 64) (putE o.dst v env) (updM u mem) (recs ++ [(rd, keys u)]) G → K rd v u) → (opQ site o.op (o.xs.map (RO.val (envE env)))).wpr (mf mem) fun rd res => res.fin P (K rd))
    (h2 : b ≠ want → rwDraw P r (site + 64) (putE o.dst (.tup []) env) mem (recs ++ [([], [])]) G) : rwDraw P (o :: r) site env mem recs G := by
  simp only [rwDraw, hg, hb]
  by_cases h : b = want
  · rw [if_pos h]; exact h1 h (fun rd v u => _) fun rd v u h1 h2 => ⟨h1, h2⟩
  · rw [if_neg h]; exact h2 h
theorem rwDraw_skip {o : ROper} {r : List ROper} {site : Nat} {env : Mem PV} {mem : Mem Blk} {recs : List (List Nat × List Nat)} {G : Mem PV → Mem Blk → Prop} {g : Nat} {want : Bool} (hg : o.guard = some (g, want)) (hb : envE env g = .tup [])
    (h : rwDraw P r (site + 64) (putE o.dst (.tup []) env) mem (recs ++ [([], [])]) G) : rwDraw P (o :: r) site env mem recs G := by
  simp only [rwDraw, hg, hb]
  exact h
theorem rwp_loop {l : List Nat} {b : RCode} {G : Exit → Nat → Mem PV → Mem Blk → Prop} {n : Nat} {env : Mem PV} {mem : Mem Blk} (ls : Lifts) (next0 : Nat) (I : Nat → Mem PV → Mem Blk → Prop) (k : Nat) (h : Enter ls next0 I k env mem)
    (hr : ∀ k env1 mem1, I k env1 mem1 → ∀ K : Nat → Mem PV → Mem Blk → Prop, Box (∀ n env' mem' k', k' < k → Enter ls next0 I k' env' mem' → K n env' mem') → rwp P b (thenK K G) next0 env1 mem1) : rwp P (.loop l b) G n env mem := by
  simp only [rwp]
  refine ⟨ls, next0, I, k, h, fun k env1 mem1 hI => ?_⟩
  have := hr k env1 mem1 hI (fun _ env' mem' => ∃ k', k' < k ∧ Enter ls next0 I k' env' mem') ⟨fun n env' mem' k' h1 h2 => ⟨k', h1, h2⟩⟩
  refine rwp_mono this ?_
  funext e n env mem
  cases e <;> rfl
end
end Go.RW

/-! From a function's contract to what a law's statement asks. -/
namespace Go.RW
open Go.RowKit

section
variable {P : Program} {W : World}
def oldK (W : World) : Nat → Prop := fun b => b < W.heap.size

theorem law_calls {f : FuncId} {fn : Func} {aps : List AP} {vs : List Value} (h : CallOK P f aps [] (.d (.bool true)) []) (hf : P.funcs[f]? = some fn) (hn : (fn.name == "runtime.NumGoroutine") = false) (hb : fn.body.isNone = false)
    (ha : ArgsRep W (oldK W) aps vs []) : Calls P f vs.toArray W fun e W' => e = .returned (.bool true) ∧ Below W.heap.size W W' := by
  have hc := h.2 W (oldK W) vs [] ha (by simp) (fun b hb => ⟨hb, by simp⟩)
  have fin : ∀ (e : Ending) (w' : World), (∃ v β, e = .returned v ∧ RetRep ⟨W, oldK W, []⟩ w' [] (.d (.bool true)) [] v β) → e = .returned (.bool true) ∧ Below W.heap.size W w' := by
    rintro e w' ⟨v, β, rfl, hr⟩
    obtain rfl := RepT_bool.1 hr.val
    exact ⟨rfl, hr.rel.keep.os, hr.rel.keep.tape, hr.rel.keep.output, hr.rel.keep.size, fun k hk => hr.rel.keep.block k hk (by simp)⟩
  rcases hc with ⟨_, h1⟩ | ⟨v, w', h1, _⟩
  · exact h1.mono fin
  · have hn' : fn.name ≠ "runtime.NumGoroutine" := by simpa using hn
    have hb' : fn.body ≠ none := by intro e; rw [e] at hb; simp at hb
    simp [callFunc, hf, hn', hb'] at h1

theorem args_nil {K : Nat → Prop} : ArgsRep W K [] [] [] := ⟨rfl, rfl⟩
theorem args_cons {K : Nat → Prop} {x : D} {v : Value} {aps : List AP} {vs : List Value} (h : Rep W K x v) (r : ArgsRep W K aps vs []) : ArgsRep W K (.d x :: aps) (v :: vs) [] := ⟨v, vs, rfl, h, r⟩

/-- A slice of numbers that came in. -/
theorem row_rep {k : IntKind} {a : Option Addr} {len cap : Nat} {zs : List Int} (h : (a = none ∧ len = 0 ∧ cap = 0 ∧ zs = []) ∨ ∃ x, a = some x ∧ len ≤ cap ∧ zs.length = cap ∧ x.spot = none ∧ x.block < W.heap.size ∧ ∀ i, i < zs.length → W.cell? (x.add i) = some (.int k (zs.getD i 0))) :
    Rep W (oldK W) (.sl 1 ((zs.take len).map (.int k))) (.slice a len cap) := by
  rcases h with ⟨rfl, rfl, rfl, rfl⟩ | ⟨x, rfl, h1, h2, h3, h4, h5⟩
  · exact Rep_sl.2 ⟨none, 0, rfl, Nat.le_refl _, Or.inl rfl⟩
  · obtain ⟨b, o, s⟩ := x
    simp only at h3; subst h3
    have hl : ((zs.take len).map (D.int k)).length = len := by simp; omega
    refine Rep_sl.2 ⟨_, cap, by rw [hl], by rw [hl]; exact h1, Or.inr ⟨b, o, rfl, h4, ?_⟩⟩
    have key : ∀ (ys : List Int) (j : Nat), (∀ i, i < ys.length → W.cell? ⟨b, o + j + i, none⟩ = some (.int k (ys.getD i 0))) → RepE W (oldK W) 1 b (o + j) (ys.map (D.int k)) := by
      intro ys
      induction ys with
      | nil => intro j _; unfold RepE; trivial
      | cons y ys ih =>
        intro j hj
        simp only [List.map_cons]
        unfold RepE
        refine ⟨⟨[.int k y], rfl, fun i u hi => ?_, rfl⟩, ?_⟩
        · cases i with
          | zero =>
            have := hj 0 (by simp)
            simp at hi this
            rw [← hi]; exact this
          | succ i => simp at hi
        · have := ih (j + 1) fun i hi => by
            have := hj (i + 1) (by simpa using hi)
            rw [show o + (j + 1) + i = o + j + (i + 1) by omega]
            simpa using this
          rwa [← Nat.add_assoc] at this
    refine key (zs.take len) 0 fun i hi => ?_
    have hi' : i < zs.length := by simp at hi; omega
    have hil : i < len := by simp at hi; omega
    have := h5 i hi'
    rw [add_none] at this
    rw [Nat.add_zero, this]
    simp [List.getD_eq_getElem?_getD, List.getElem?_take, hil]
end

/-! ### numbers -/
theorem wrap_uns {k : IntKind} (hk : k.signed = false) (n : Int) : k.wrap n = n % (2 ^ k.bits : Int) := by
  unfold IntKind.wrap
  simp [hk]
theorem wrap_nonneg {k : IntKind} (hk : k.signed = false) (n : Int) : 0 ≤ k.wrap n := by
  rw [wrap_uns hk]; exact Int.emod_nonneg _ (by have : (0 : Int) < 2 ^ k.bits := Int.pow_pos (by decide); omega)
theorem wrap_lt {k : IntKind} (hk : k.signed = false) (n : Int) : k.wrap n < 2 ^ k.bits := by
  rw [wrap_uns hk]; exact Int.emod_lt_of_pos _ (Int.pow_pos (by decide))
theorem ibits_nonneg {k : IntKind} (hk : k.signed = false) (op : BinOp) (x y : Int) : 0 ≤ ibits op k x y := wrap_nonneg hk _
theorem wrap_i64_small {n : Int} (h1 : -9223372036854775808 ≤ n) (h2 : n ≤ 9223372036854775807) : IntKind.i64.wrap n = n := by
  rw [IntKind.wrap_i64]; omega
end Go.RW

/-! Operations on unsigned numbers, in bits. -/
set_option linter.unusedSimpArgs false
set_option linter.unusedVariables false
namespace Go.RW
def eB (b : Bool) : D := .bool b

/-! ### u8 -/
def eU8 (x : BitVec 8) : D := .int .u8 x.toNat
theorem wrap_u8 (n : Int) : IntKind.u8.wrap n = ((BitVec.ofInt 8 n).toNat : Int) := by
  rw [wrap_uns rfl]; simp [BitVec.toNat_ofInt, IntKind.bits]; omega
section
variable {M : MF} {s : Nat} (x y : BitVec 8)
theorem add8 : (opQ s (.bin .add) [.d (eU8 x), .d (eU8 y)]).Runs M [] (.val (.d (eU8 (x + y))) []) := by
  refine ⟨rfl, rfl, ?_⟩
  simp only [eU8, wrap_u8]
  have : x + y = BitVec.ofInt 8 ((x.toNat : Int) + y.toNat) := by
    apply BitVec.eq_of_toNat_eq; simp [BitVec.toNat_ofInt]; omega
  rw [← this]
theorem sub8 : (opQ s (.bin .sub) [.d (eU8 x), .d (eU8 y)]).Runs M [] (.val (.d (eU8 (x - y))) []) := by
  refine ⟨rfl, rfl, ?_⟩
  simp only [eU8, wrap_u8]
  have : x - y = BitVec.ofInt 8 ((x.toNat : Int) - y.toNat) := by
    apply BitVec.eq_of_toNat_eq; have := x.isLt; have := y.isLt; simp [BitVec.toNat_ofInt, BitVec.toNat_sub]; omega
  rw [← this]
theorem mul8 : (opQ s (.bin .mul) [.d (eU8 x), .d (eU8 y)]).Runs M [] (.val (.d (eU8 (x * y))) []) := by
  refine ⟨rfl, rfl, ?_⟩
  simp only [eU8, wrap_u8]
  have : x * y = BitVec.ofInt 8 ((x.toNat : Int) * y.toNat) := by
    apply BitVec.eq_of_toNat_eq
    rw [BitVec.toNat_ofInt, BitVec.toNat_mul, ← Int.natCast_mul]
    norm_cast
  rw [← this]
theorem ofInt8 : BitVec.ofInt 8 (x.toNat : Int) = x := by simp
theorem bits8 (n : Nat) (h : n < 2 ^ 8) : IntKind.u8.wrap (n : Int) = (n : Int) := by
  rw [wrap_uns rfl]; simp [IntKind.bits]; omega
theorem and8 : (opQ s (.bin .and) [.d (eU8 x), .d (eU8 y)]).Runs M [] (.val (.d (eU8 (x &&& y))) []) := by
  refine ⟨rfl, rfl, ?_⟩
  simp only [eU8, ibits, IntKind.bits, ofInt8]
  rw [bits8 _ (BitVec.isLt _)]; rfl
theorem or8 : (opQ s (.bin .or) [.d (eU8 x), .d (eU8 y)]).Runs M [] (.val (.d (eU8 (x ||| y))) []) := by
  refine ⟨rfl, rfl, ?_⟩
  simp only [eU8, ibits, IntKind.bits, ofInt8]
  rw [bits8 _ (BitVec.isLt _)]; rfl
theorem xor8 : (opQ s (.bin .xor) [.d (eU8 x), .d (eU8 y)]).Runs M [] (.val (.d (eU8 (x ^^^ y))) []) := by
  refine ⟨rfl, rfl, ?_⟩
  simp only [eU8, ibits, IntKind.bits, ofInt8]
  rw [bits8 _ (BitVec.isLt _)]; rfl
theorem andNot8 : (opQ s (.bin .andNot) [.d (eU8 x), .d (eU8 y)]).Runs M [] (.val (.d (eU8 (x &&& ~~~y))) []) := by
  refine ⟨rfl, rfl, ?_⟩
  simp only [eU8, ibits, IntKind.bits, ofInt8]
  rw [bits8 _ (BitVec.isLt _)]; rfl
theorem quo8 (h : y ≠ 0#8) : (opQ s (.bin .quo) [.d (eU8 x), .d (eU8 y)]).Runs M [] (.val (.d (eU8 (x / y))) []) := by
  have h0 : y.toNat ≠ 0 := fun e => h (BitVec.eq_of_toNat_eq (by simpa using e))
  refine ⟨rfl, by simpa using h0, rfl, ?_⟩
  simp only [eU8]
  rw [← Int.ofNat_tdiv, bits8 _ (Nat.lt_of_le_of_lt (Nat.div_le_self _ _) x.isLt), BitVec.toNat_udiv]
theorem rem8 (h : y ≠ 0#8) : (opQ s (.bin .rem) [.d (eU8 x), .d (eU8 y)]).Runs M [] (.val (.d (eU8 (x % y))) []) := by
  have h0 : y.toNat ≠ 0 := fun e => h (BitVec.eq_of_toNat_eq (by simpa using e))
  refine ⟨rfl, by simpa using h0, rfl, ?_⟩
  simp only [eU8]
  rw [← Int.ofNat_tmod, BitVec.toNat_umod]
theorem eql8 : (opQ s (.bin .eql) [.d (eU8 x), .d (eU8 y)]).Runs M [] (.val (.d (eB (x == y))) []) := by
  refine ⟨rfl, rfl, ?_⟩
  have : ((x.toNat : Int) == y.toNat) = (x == y) := by
    rw [Bool.eq_iff_iff]; simp [BitVec.toNat_eq]; omega
  simp only [eB, this]
theorem neq8 : (opQ s (.bin .neq) [.d (eU8 x), .d (eU8 y)]).Runs M [] (.val (.d (eB (x != y))) []) := by
  refine ⟨rfl, rfl, ?_⟩
  have : ((x.toNat : Int) != y.toNat) = (x != y) := by
    rw [Bool.eq_iff_iff]; simp [BitVec.toNat_eq]; omega
  simp only [eB, this]
theorem lss8 : (opQ s (.bin .lss) [.d (eU8 x), .d (eU8 y)]).Runs M [] (.val (.d (eB (decide (x.toNat < y.toNat)))) []) := by
  refine ⟨rfl, rfl, ?_⟩
  simp only [eB, Int.ofNat_lt]
theorem leq8 : (opQ s (.bin .leq) [.d (eU8 x), .d (eU8 y)]).Runs M [] (.val (.d (eB (decide (x.toNat ≤ y.toNat)))) []) := by
  refine ⟨rfl, rfl, ?_⟩
  simp only [eB, Int.ofNat_le]
theorem gtr8 : (opQ s (.bin .gtr) [.d (eU8 x), .d (eU8 y)]).Runs M [] (.val (.d (eB (decide (y.toNat < x.toNat)))) []) := by
  refine ⟨rfl, rfl, ?_⟩
  simp only [eB, gt_iff_lt, Int.ofNat_lt]
theorem geq8 : (opQ s (.bin .geq) [.d (eU8 x), .d (eU8 y)]).Runs M [] (.val (.d (eB (decide (y.toNat ≤ x.toNat)))) []) := by
  refine ⟨rfl, rfl, ?_⟩
  simp only [eB, ge_iff_le, Int.ofNat_le]
theorem shlN8 (n : Nat) : ishl .u8 (x.toNat : Int) (n : Int) = ((x <<< n).toNat : Int) := by
  simp only [ishl, wrap_u8, Int.toNat_natCast, IntKind.bits]
  congr 1
  rw [BitVec.toNat_shiftLeft, BitVec.toNat_ofInt]
  have e : ((x.toNat : Int) * 2 ^ min n 8 % ((2 ^ 8 : Nat) : Int)).toNat = x.toNat * 2 ^ min n 8 % 2 ^ 8 := by
    rw [show ((x.toNat : Int) * 2 ^ min n 8 % ((2 ^ 8 : Nat) : Int)) = ((x.toNat * 2 ^ min n 8 % 2 ^ 8 : Nat) : Int) by norm_cast, Int.toNat_natCast]
  rw [e, Nat.shiftLeft_eq]
  by_cases h : n ≤ 8
  · rw [Nat.min_eq_left h]
  · rw [Nat.min_eq_right (by omega)]
    have h1 : x.toNat * 2 ^ 8 % 2 ^ 8 = 0 := by omega
    have h2 : x.toNat * 2 ^ n % 2 ^ 8 = 0 := by
      obtain ⟨d, rfl⟩ : ∃ d, n = d + 8 := ⟨n - 8, by omega⟩
      rw [Nat.pow_add, ← Nat.mul_assoc]
      exact Nat.mul_mod_left _ _
    rw [h1, h2]
theorem shrN8 (n : Nat) : ishr .u8 (x.toNat : Int) (n : Int) = ((x >>> n).toNat : Int) := by
  simp only [ishr, Int.toNat_natCast, IntKind.bits]
  rw [BitVec.toNat_ushiftRight, Nat.shiftRight_eq_div_pow]
  by_cases h : n ≤ 8
  · rw [Nat.min_eq_left h, Int.fdiv_eq_ediv_of_nonneg _ (by exact_mod_cast Nat.zero_le (2 ^ n))]
    norm_cast
  · rw [Nat.min_eq_right (by omega)]
    have h1 : x.toNat / 2 ^ n = 0 := Nat.div_eq_of_lt (Nat.lt_of_lt_of_le x.isLt (Nat.pow_le_pow_right (by decide) (by omega)))
    have h2 : x.toNat / 2 ^ 8 = 0 := Nat.div_eq_of_lt x.isLt
    rw [h1, Int.fdiv_eq_ediv_of_nonneg _ (by decide)]
    rw [show ((x.toNat : Int) / 2 ^ 8) = ((x.toNat / 2 ^ 8 : Nat) : Int) by norm_cast, h2]
theorem shlI8 {k : IntKind} {n : Int} (h : 0 ≤ n) : (opQ s (.bin .shl) [.d (eU8 x), .d (.int k n)]).Runs M [] (.val (.d (eU8 (x <<< n.toNat))) []) := by
  refine ⟨h, rfl, ?_⟩
  obtain ⟨m, rfl⟩ := Int.eq_ofNat_of_zero_le h
  simp only [eU8]
  rw [shlN8]; rfl
theorem shrI8 {k : IntKind} {n : Int} (h : 0 ≤ n) : (opQ s (.bin .shr) [.d (eU8 x), .d (.int k n)]).Runs M [] (.val (.d (eU8 (x >>> n.toNat))) []) := by
  refine ⟨h, rfl, ?_⟩
  obtain ⟨m, rfl⟩ := Int.eq_ofNat_of_zero_le h
  simp only [eU8]
  rw [shrN8]; rfl
theorem shlL8 {k : IntKind} {c : Int} (n : Nat) (hc : c = (n : Int)) : (opQ s (.bin .shl) [.d (eU8 x), .d (.int k c)]).Runs M [] (.val (.d (eU8 (x <<< n))) []) := by
  subst hc; exact shlI8 x (by omega)
theorem shrL8 {k : IntKind} {c : Int} (n : Nat) (hc : c = (n : Int)) : (opQ s (.bin .shr) [.d (eU8 x), .d (.int k c)]).Runs M [] (.val (.d (eU8 (x >>> n))) []) := by
  subst hc; exact shrI8 x (by omega)
theorem not8 : (opQ s (.un .xor) [.d (eU8 x)]).Runs M [] (.val (.d (eU8 (~~~x))) []) := by
  refine ⟨rfl, ?_⟩
  have e : (BitVec.ofInt 8 (IntKind.u8.max) ^^^ BitVec.ofInt 8 (x.toNat : Int)) = ~~~x := by
    rw [ofInt8, show BitVec.ofInt 8 (IntKind.u8.max) = BitVec.allOnes 8 by decide, BitVec.allOnes_xor]
  have : ibits .xor .u8 (IntKind.u8.max) x.toNat = ((~~~x).toNat : Int) := by
    rw [← e]
    exact bits8 _ (BitVec.isLt _)
  exact congrArg (fun n => Res.val (.d (.int .u8 n)) []) this.symm
theorem neg8 : (opQ s (.un .neg) [.d (eU8 x)]).Runs M [] (.val (.d (eU8 (-x))) []) := by
  refine ⟨rfl, ?_⟩
  simp only [eU8, wrap_u8]
  have : -x = BitVec.ofInt 8 (0 - (x.toNat : Int)) := by
    apply BitVec.eq_of_toNat_eq; have := x.isLt; simp [BitVec.toNat_ofInt, BitVec.toNat_neg]; omega
  rw [← this]
theorem toI8 : (opQ s (.cvt .i64) [.d (eU8 x)]).Runs M [] (.val (.d (.int .i64 (x.toNat : Int))) []) := by
  refine ⟨rfl, ?_⟩
  have := x.isLt
  have e : (x.toNat : Int) = IntKind.i64.wrap x.toNat := by
    rw [IntKind.wrap_i64]
    omega
  exact congrArg (fun n => Res.val (.d (.int .i64 n)) []) e
theorem ofI8 (k : IntKind) (n : Int) : (opQ s (.cvt .u8) [.d (.int k n)]).Runs M [] (.val (.d (eU8 (BitVec.ofInt 8 n))) []) := by
  refine ⟨rfl, ?_⟩
  simp only [eU8, wrap_u8]
theorem pick8 (c : Bool) : (opQ s .pick [.d (.bool c), .d (eU8 x), .d (eU8 y)]).Runs M [] (.val (.d (eU8 (if c then x else y))) []) := by
  refine ⟨rfl, ?_⟩
  cases c <;> rfl
end

/-! ### u16 -/
def eU16 (x : BitVec 16) : D := .int .u16 x.toNat
theorem wrap_u16 (n : Int) : IntKind.u16.wrap n = ((BitVec.ofInt 16 n).toNat : Int) := by
  rw [wrap_uns rfl]; simp [BitVec.toNat_ofInt, IntKind.bits]; omega
section
variable {M : MF} {s : Nat} (x y : BitVec 16)
theorem add16 : (opQ s (.bin .add) [.d (eU16 x), .d (eU16 y)]).Runs M [] (.val (.d (eU16 (x + y))) []) := by
  refine ⟨rfl, rfl, ?_⟩
  simp only [eU16, wrap_u16]
  have : x + y = BitVec.ofInt 16 ((x.toNat : Int) + y.toNat) := by
    apply BitVec.eq_of_toNat_eq; simp [BitVec.toNat_ofInt]; omega
  rw [← this]
theorem sub16 : (opQ s (.bin .sub) [.d (eU16 x), .d (eU16 y)]).Runs M [] (.val (.d (eU16 (x - y))) []) := by
  refine ⟨rfl, rfl, ?_⟩
  simp only [eU16, wrap_u16]
  have : x - y = BitVec.ofInt 16 ((x.toNat : Int) - y.toNat) := by
    apply BitVec.eq_of_toNat_eq; have := x.isLt; have := y.isLt; simp [BitVec.toNat_ofInt, BitVec.toNat_sub]; omega
  rw [← this]
theorem mul16 : (opQ s (.bin .mul) [.d (eU16 x), .d (eU16 y)]).Runs M [] (.val (.d (eU16 (x * y))) []) := by
  refine ⟨rfl, rfl, ?_⟩
  simp only [eU16, wrap_u16]
  have : x * y = BitVec.ofInt 16 ((x.toNat : Int) * y.toNat) := by
    apply BitVec.eq_of_toNat_eq
    rw [BitVec.toNat_ofInt, BitVec.toNat_mul, ← Int.natCast_mul]
    norm_cast
  rw [← this]
theorem ofInt16 : BitVec.ofInt 16 (x.toNat : Int) = x := by simp
theorem bits16 (n : Nat) (h : n < 2 ^ 16) : IntKind.u16.wrap (n : Int) = (n : Int) := by
  rw [wrap_uns rfl]; simp [IntKind.bits]; omega
theorem and16 : (opQ s (.bin .and) [.d (eU16 x), .d (eU16 y)]).Runs M [] (.val (.d (eU16 (x &&& y))) []) := by
  refine ⟨rfl, rfl, ?_⟩
  simp only [eU16, ibits, IntKind.bits, ofInt16]
  rw [bits16 _ (BitVec.isLt _)]; rfl
theorem or16 : (opQ s (.bin .or) [.d (eU16 x), .d (eU16 y)]).Runs M [] (.val (.d (eU16 (x ||| y))) []) := by
  refine ⟨rfl, rfl, ?_⟩
  simp only [eU16, ibits, IntKind.bits, ofInt16]
  rw [bits16 _ (BitVec.isLt _)]; rfl
theorem xor16 : (opQ s (.bin .xor) [.d (eU16 x), .d (eU16 y)]).Runs M [] (.val (.d (eU16 (x ^^^ y))) []) := by
  refine ⟨rfl, rfl, ?_⟩
  simp only [eU16, ibits, IntKind.bits, ofInt16]
  rw [bits16 _ (BitVec.isLt _)]; rfl
theorem andNot16 : (opQ s (.bin .andNot) [.d (eU16 x), .d (eU16 y)]).Runs M [] (.val (.d (eU16 (x &&& ~~~y))) []) := by
  refine ⟨rfl, rfl, ?_⟩
  simp only [eU16, ibits, IntKind.bits, ofInt16]
  rw [bits16 _ (BitVec.isLt _)]; rfl
theorem quo16 (h : y ≠ 0#16) : (opQ s (.bin .quo) [.d (eU16 x), .d (eU16 y)]).Runs M [] (.val (.d (eU16 (x / y))) []) := by
  have h0 : y.toNat ≠ 0 := fun e => h (BitVec.eq_of_toNat_eq (by simpa using e))
  refine ⟨rfl, by simpa using h0, rfl, ?_⟩
  simp only [eU16]
  rw [← Int.ofNat_tdiv, bits16 _ (Nat.lt_of_le_of_lt (Nat.div_le_self _ _) x.isLt), BitVec.toNat_udiv]
theorem rem16 (h : y ≠ 0#16) : (opQ s (.bin .rem) [.d (eU16 x), .d (eU16 y)]).Runs M [] (.val (.d (eU16 (x % y))) []) := by
  have h0 : y.toNat ≠ 0 := fun e => h (BitVec.eq_of_toNat_eq (by simpa using e))
  refine ⟨rfl, by simpa using h0, rfl, ?_⟩
  simp only [eU16]
  rw [← Int.ofNat_tmod, BitVec.toNat_umod]
theorem eql16 : (opQ s (.bin .eql) [.d (eU16 x), .d (eU16 y)]).Runs M [] (.val (.d (eB (x == y))) []) := by
  refine ⟨rfl, rfl, ?_⟩
  have : ((x.toNat : Int) == y.toNat) = (x == y) := by
    rw [Bool.eq_iff_iff]; simp [BitVec.toNat_eq]; omega
  simp only [eB, this]
theorem neq16 : (opQ s (.bin .neq) [.d (eU16 x), .d (eU16 y)]).Runs M [] (.val (.d (eB (x != y))) []) := by
  refine ⟨rfl, rfl, ?_⟩
  have : ((x.toNat : Int) != y.toNat) = (x != y) := by
    rw [Bool.eq_iff_iff]; simp [BitVec.toNat_eq]; omega
  simp only [eB, this]
theorem lss16 : (opQ s (.bin .lss) [.d (eU16 x), .d (eU16 y)]).Runs M [] (.val (.d (eB (decide (x.toNat < y.toNat)))) []) := by
  refine ⟨rfl, rfl, ?_⟩
  simp only [eB, Int.ofNat_lt]
theorem leq16 : (opQ s (.bin .leq) [.d (eU16 x), .d (eU16 y)]).Runs M [] (.val (.d (eB (decide (x.toNat ≤ y.toNat)))) []) := by
  refine ⟨rfl, rfl, ?_⟩
  simp only [eB, Int.ofNat_le]
theorem gtr16 : (opQ s (.bin .gtr) [.d (eU16 x), .d (eU16 y)]).Runs M [] (.val (.d (eB (decide (y.toNat < x.toNat)))) []) := by
  refine ⟨rfl, rfl, ?_⟩
  simp only [eB, gt_iff_lt, Int.ofNat_lt]
theorem geq16 : (opQ s (.bin .geq) [.d (eU16 x), .d (eU16 y)]).Runs M [] (.val (.d (eB (decide (y.toNat ≤ x.toNat)))) []) := by
  refine ⟨rfl, rfl, ?_⟩
  simp only [eB, ge_iff_le, Int.ofNat_le]
theorem shlN16 (n : Nat) : ishl .u16 (x.toNat : Int) (n : Int) = ((x <<< n).toNat : Int) := by
  simp only [ishl, wrap_u16, Int.toNat_natCast, IntKind.bits]
  congr 1
  rw [BitVec.toNat_shiftLeft, BitVec.toNat_ofInt]
  have e : ((x.toNat : Int) * 2 ^ min n 16 % ((2 ^ 16 : Nat) : Int)).toNat = x.toNat * 2 ^ min n 16 % 2 ^ 16 := by
    rw [show ((x.toNat : Int) * 2 ^ min n 16 % ((2 ^ 16 : Nat) : Int)) = ((x.toNat * 2 ^ min n 16 % 2 ^ 16 : Nat) : Int) by norm_cast, Int.toNat_natCast]
  rw [e, Nat.shiftLeft_eq]
  by_cases h : n ≤ 16
  · rw [Nat.min_eq_left h]
  · rw [Nat.min_eq_right (by omega)]
    have h1 : x.toNat * 2 ^ 16 % 2 ^ 16 = 0 := by omega
    have h2 : x.toNat * 2 ^ n % 2 ^ 16 = 0 := by
      obtain ⟨d, rfl⟩ : ∃ d, n = d + 16 := ⟨n - 16, by omega⟩
      rw [Nat.pow_add, ← Nat.mul_assoc]
      exact Nat.mul_mod_left _ _
    rw [h1, h2]
theorem shrN16 (n : Nat) : ishr .u16 (x.toNat : Int) (n : Int) = ((x >>> n).toNat : Int) := by
  simp only [ishr, Int.toNat_natCast, IntKind.bits]
  rw [BitVec.toNat_ushiftRight, Nat.shiftRight_eq_div_pow]
  by_cases h : n ≤ 16
  · rw [Nat.min_eq_left h, Int.fdiv_eq_ediv_of_nonneg _ (by exact_mod_cast Nat.zero_le (2 ^ n))]
    norm_cast
  · rw [Nat.min_eq_right (by omega)]
    have h1 : x.toNat / 2 ^ n = 0 := Nat.div_eq_of_lt (Nat.lt_of_lt_of_le x.isLt (Nat.pow_le_pow_right (by decide) (by omega)))
    have h2 : x.toNat / 2 ^ 16 = 0 := Nat.div_eq_of_lt x.isLt
    rw [h1, Int.fdiv_eq_ediv_of_nonneg _ (by decide)]
    rw [show ((x.toNat : Int) / 2 ^ 16) = ((x.toNat / 2 ^ 16 : Nat) : Int) by norm_cast, h2]
theorem shlI16 {k : IntKind} {n : Int} (h : 0 ≤ n) : (opQ s (.bin .shl) [.d (eU16 x), .d (.int k n)]).Runs M [] (.val (.d (eU16 (x <<< n.toNat))) []) := by
  refine ⟨h, rfl, ?_⟩
  obtain ⟨m, rfl⟩ := Int.eq_ofNat_of_zero_le h
  simp only [eU16]
  rw [shlN16]; rfl
theorem shrI16 {k : IntKind} {n : Int} (h : 0 ≤ n) : (opQ s (.bin .shr) [.d (eU16 x), .d (.int k n)]).Runs M [] (.val (.d (eU16 (x >>> n.toNat))) []) := by
  refine ⟨h, rfl, ?_⟩
  obtain ⟨m, rfl⟩ := Int.eq_ofNat_of_zero_le h
  simp only [eU16]
  rw [shrN16]; rfl
theorem shlL16 {k : IntKind} {c : Int} (n : Nat) (hc : c = (n : Int)) : (opQ s (.bin .shl) [.d (eU16 x), .d (.int k c)]).Runs M [] (.val (.d (eU16 (x <<< n))) []) := by
  subst hc; exact shlI16 x (by omega)
theorem shrL16 {k : IntKind} {c : Int} (n : Nat) (hc : c = (n : Int)) : (opQ s (.bin .shr) [.d (eU16 x), .d (.int k c)]).Runs M [] (.val (.d (eU16 (x >>> n))) []) := by
  subst hc; exact shrI16 x (by omega)
theorem not16 : (opQ s (.un .xor) [.d (eU16 x)]).Runs M [] (.val (.d (eU16 (~~~x))) []) := by
  refine ⟨rfl, ?_⟩
  have e : (BitVec.ofInt 16 (IntKind.u16.max) ^^^ BitVec.ofInt 16 (x.toNat : Int)) = ~~~x := by
    rw [ofInt16, show BitVec.ofInt 16 (IntKind.u16.max) = BitVec.allOnes 16 by decide, BitVec.allOnes_xor]
  have : ibits .xor .u16 (IntKind.u16.max) x.toNat = ((~~~x).toNat : Int) := by
    rw [← e]
    exact bits16 _ (BitVec.isLt _)
  exact congrArg (fun n => Res.val (.d (.int .u16 n)) []) this.symm
theorem neg16 : (opQ s (.un .neg) [.d (eU16 x)]).Runs M [] (.val (.d (eU16 (-x))) []) := by
  refine ⟨rfl, ?_⟩
  simp only [eU16, wrap_u16]
  have : -x = BitVec.ofInt 16 (0 - (x.toNat : Int)) := by
    apply BitVec.eq_of_toNat_eq; have := x.isLt; simp [BitVec.toNat_ofInt, BitVec.toNat_neg]; omega
  rw [← this]
theorem toI16 : (opQ s (.cvt .i64) [.d (eU16 x)]).Runs M [] (.val (.d (.int .i64 (x.toNat : Int))) []) := by
  refine ⟨rfl, ?_⟩
  have := x.isLt
  have e : (x.toNat : Int) = IntKind.i64.wrap x.toNat := by
    rw [IntKind.wrap_i64]
    omega
  exact congrArg (fun n => Res.val (.d (.int .i64 n)) []) e
theorem ofI16 (k : IntKind) (n : Int) : (opQ s (.cvt .u16) [.d (.int k n)]).Runs M [] (.val (.d (eU16 (BitVec.ofInt 16 n))) []) := by
  refine ⟨rfl, ?_⟩
  simp only [eU16, wrap_u16]
theorem pick16 (c : Bool) : (opQ s .pick [.d (.bool c), .d (eU16 x), .d (eU16 y)]).Runs M [] (.val (.d (eU16 (if c then x else y))) []) := by
  refine ⟨rfl, ?_⟩
  cases c <;> rfl
end

/-! ### u32 -/
def eU32 (x : BitVec 32) : D := .int .u32 x.toNat
theorem wrap_u32 (n : Int) : IntKind.u32.wrap n = ((BitVec.ofInt 32 n).toNat : Int) := by
  rw [wrap_uns rfl]; simp [BitVec.toNat_ofInt, IntKind.bits]; omega
section
variable {M : MF} {s : Nat} (x y : BitVec 32)
theorem add32 : (opQ s (.bin .add) [.d (eU32 x), .d (eU32 y)]).Runs M [] (.val (.d (eU32 (x + y))) []) := by
  refine ⟨rfl, rfl, ?_⟩
  simp only [eU32, wrap_u32]
  have : x + y = BitVec.ofInt 32 ((x.toNat : Int) + y.toNat) := by
    apply BitVec.eq_of_toNat_eq; simp [BitVec.toNat_ofInt]; omega
  rw [← this]
theorem sub32 : (opQ s (.bin .sub) [.d (eU32 x), .d (eU32 y)]).Runs M [] (.val (.d (eU32 (x - y))) []) := by
  refine ⟨rfl, rfl, ?_⟩
  simp only [eU32, wrap_u32]
  have : x - y = BitVec.ofInt 32 ((x.toNat : Int) - y.toNat) := by
    apply BitVec.eq_of_toNat_eq; have := x.isLt; have := y.isLt; simp [BitVec.toNat_ofInt, BitVec.toNat_sub]; omega
  rw [← this]
theorem mul32 : (opQ s (.bin .mul) [.d (eU32 x), .d (eU32 y)]).Runs M [] (.val (.d (eU32 (x * y))) []) := by
  refine ⟨rfl, rfl, ?_⟩
  simp only [eU32, wrap_u32]
  have : x * y = BitVec.ofInt 32 ((x.toNat : Int) * y.toNat) := by
    apply BitVec.eq_of_toNat_eq
    rw [BitVec.toNat_ofInt, BitVec.toNat_mul, ← Int.natCast_mul]
    norm_cast
  rw [← this]
theorem ofInt32 : BitVec.ofInt 32 (x.toNat : Int) = x := by simp
theorem bits32 (n : Nat) (h : n < 2 ^ 32) : IntKind.u32.wrap (n : Int) = (n : Int) := by
  rw [wrap_uns rfl]; simp [IntKind.bits]; omega
theorem and32 : (opQ s (.bin .and) [.d (eU32 x), .d (eU32 y)]).Runs M [] (.val (.d (eU32 (x &&& y))) []) := by
  refine ⟨rfl, rfl, ?_⟩
  simp only [eU32, ibits, IntKind.bits, ofInt32]
  rw [bits32 _ (BitVec.isLt _)]; rfl
theorem or32 : (opQ s (.bin .or) [.d (eU32 x), .d (eU32 y)]).Runs M [] (.val (.d (eU32 (x ||| y))) []) := by
  refine ⟨rfl, rfl, ?_⟩
  simp only [eU32, ibits, IntKind.bits, ofInt32]
  rw [bits32 _ (BitVec.isLt _)]; rfl
theorem xor32 : (opQ s (.bin .xor) [.d (eU32 x), .d (eU32 y)]).Runs M [] (.val (.d (eU32 (x ^^^ y))) []) := by
  refine ⟨rfl, rfl, ?_⟩
  simp only [eU32, ibits, IntKind.bits, ofInt32]
  rw [bits32 _ (BitVec.isLt _)]; rfl
theorem andNot32 : (opQ s (.bin .andNot) [.d (eU32 x), .d (eU32 y)]).Runs M [] (.val (.d (eU32 (x &&& ~~~y))) []) := by
  refine ⟨rfl, rfl, ?_⟩
  simp only [eU32, ibits, IntKind.bits, ofInt32]
  rw [bits32 _ (BitVec.isLt _)]; rfl
theorem quo32 (h : y ≠ 0#32) : (opQ s (.bin .quo) [.d (eU32 x), .d (eU32 y)]).Runs M [] (.val (.d (eU32 (x / y))) []) := by
  have h0 : y.toNat ≠ 0 := fun e => h (BitVec.eq_of_toNat_eq (by simpa using e))
  refine ⟨rfl, by simpa using h0, rfl, ?_⟩
  simp only [eU32]
  rw [← Int.ofNat_tdiv, bits32 _ (Nat.lt_of_le_of_lt (Nat.div_le_self _ _) x.isLt), BitVec.toNat_udiv]
theorem rem32 (h : y ≠ 0#32) : (opQ s (.bin .rem) [.d (eU32 x), .d (eU32 y)]).Runs M [] (.val (.d (eU32 (x % y))) []) := by
  have h0 : y.toNat ≠ 0 := fun e => h (BitVec.eq_of_toNat_eq (by simpa using e))
  refine ⟨rfl, by simpa using h0, rfl, ?_⟩
  simp only [eU32]
  rw [← Int.ofNat_tmod, BitVec.toNat_umod]
theorem eql32 : (opQ s (.bin .eql) [.d (eU32 x), .d (eU32 y)]).Runs M [] (.val (.d (eB (x == y))) []) := by
  refine ⟨rfl, rfl, ?_⟩
  have : ((x.toNat : Int) == y.toNat) = (x == y) := by
    rw [Bool.eq_iff_iff]; simp [BitVec.toNat_eq]; omega
  simp only [eB, this]
theorem neq32 : (opQ s (.bin .neq) [.d (eU32 x), .d (eU32 y)]).Runs M [] (.val (.d (eB (x != y))) []) := by
  refine ⟨rfl, rfl, ?_⟩
  have : ((x.toNat : Int) != y.toNat) = (x != y) := by
    rw [Bool.eq_iff_iff]; simp [BitVec.toNat_eq]; omega
  simp only [eB, this]
theorem lss32 : (opQ s (.bin .lss) [.d (eU32 x), .d (eU32 y)]).Runs M [] (.val (.d (eB (decide (x.toNat < y.toNat)))) []) := by
  refine ⟨rfl, rfl, ?_⟩
  simp only [eB, Int.ofNat_lt]
theorem leq32 : (opQ s (.bin .leq) [.d (eU32 x), .d (eU32 y)]).Runs M [] (.val (.d (eB (decide (x.toNat ≤ y.toNat)))) []) := by
  refine ⟨rfl, rfl, ?_⟩
  simp only [eB, Int.ofNat_le]
theorem gtr32 : (opQ s (.bin .gtr) [.d (eU32 x), .d (eU32 y)]).Runs M [] (.val (.d (eB (decide (y.toNat < x.toNat)))) []) := by
  refine ⟨rfl, rfl, ?_⟩
  simp only [eB, gt_iff_lt, Int.ofNat_lt]
theorem geq32 : (opQ s (.bin .geq) [.d (eU32 x), .d (eU32 y)]).Runs M [] (.val (.d (eB (decide (y.toNat ≤ x.toNat)))) []) := by
  refine ⟨rfl, rfl, ?_⟩
  simp only [eB, ge_iff_le, Int.ofNat_le]
theorem shlN32 (n : Nat) : ishl .u32 (x.toNat : Int) (n : Int) = ((x <<< n).toNat : Int) := by
  simp only [ishl, wrap_u32, Int.toNat_natCast, IntKind.bits]
  congr 1
  rw [BitVec.toNat_shiftLeft, BitVec.toNat_ofInt]
  have e : ((x.toNat : Int) * 2 ^ min n 32 % ((2 ^ 32 : Nat) : Int)).toNat = x.toNat * 2 ^ min n 32 % 2 ^ 32 := by
    rw [show ((x.toNat : Int) * 2 ^ min n 32 % ((2 ^ 32 : Nat) : Int)) = ((x.toNat * 2 ^ min n 32 % 2 ^ 32 : Nat) : Int) by norm_cast, Int.toNat_natCast]
  rw [e, Nat.shiftLeft_eq]
  by_cases h : n ≤ 32
  · rw [Nat.min_eq_left h]
  · rw [Nat.min_eq_right (by omega)]
    have h1 : x.toNat * 2 ^ 32 % 2 ^ 32 = 0 := by omega
    have h2 : x.toNat * 2 ^ n % 2 ^ 32 = 0 := by
      obtain ⟨d, rfl⟩ : ∃ d, n = d + 32 := ⟨n - 32, by omega⟩
      rw [Nat.pow_add, ← Nat.mul_assoc]
      exact Nat.mul_mod_left _ _
    rw [h1, h2]
theorem shrN32 (n : Nat) : ishr .u32 (x.toNat : Int) (n : Int) = ((x >>> n).toNat : Int) := by
  simp only [ishr, Int.toNat_natCast, IntKind.bits]
  rw [BitVec.toNat_ushiftRight, Nat.shiftRight_eq_div_pow]
  by_cases h : n ≤ 32
  · rw [Nat.min_eq_left h, Int.fdiv_eq_ediv_of_nonneg _ (by exact_mod_cast Nat.zero_le (2 ^ n))]
    norm_cast
  · rw [Nat.min_eq_right (by omega)]
    have h1 : x.toNat / 2 ^ n = 0 := Nat.div_eq_of_lt (Nat.lt_of_lt_of_le x.isLt (Nat.pow_le_pow_right (by decide) (by omega)))
    have h2 : x.toNat / 2 ^ 32 = 0 := Nat.div_eq_of_lt x.isLt
    rw [h1, Int.fdiv_eq_ediv_of_nonneg _ (by decide)]
    rw [show ((x.toNat : Int) / 2 ^ 32) = ((x.toNat / 2 ^ 32 : Nat) : Int) by norm_cast, h2]
theorem shlI32 {k : IntKind} {n : Int} (h : 0 ≤ n) : (opQ s (.bin .shl) [.d (eU32 x), .d (.int k n)]).Runs M [] (.val (.d (eU32 (x <<< n.toNat))) []) := by
  refine ⟨h, rfl, ?_⟩
  obtain ⟨m, rfl⟩ := Int.eq_ofNat_of_zero_le h
  simp only [eU32]
  rw [shlN32]; rfl
theorem shrI32 {k : IntKind} {n : Int} (h : 0 ≤ n) : (opQ s (.bin .shr) [.d (eU32 x), .d (.int k n)]).Runs M [] (.val (.d (eU32 (x >>> n.toNat))) []) := by
  refine ⟨h, rfl, ?_⟩
  obtain ⟨m, rfl⟩ := Int.eq_ofNat_of_zero_le h
  simp only [eU32]
  rw [shrN32]; rfl
theorem shlL32 {k : IntKind} {c : Int} (n : Nat) (hc : c = (n : Int)) : (opQ s (.bin .shl) [.d (eU32 x), .d (.int k c)]).Runs M [] (.val (.d (eU32 (x <<< n))) []) := by
  subst hc; exact shlI32 x (by omega)
theorem shrL32 {k : IntKind} {c : Int} (n : Nat) (hc : c = (n : Int)) : (opQ s (.bin .shr) [.d (eU32 x), .d (.int k c)]).Runs M [] (.val (.d (eU32 (x >>> n))) []) := by
  subst hc; exact shrI32 x (by omega)
theorem not32 : (opQ s (.un .xor) [.d (eU32 x)]).Runs M [] (.val (.d (eU32 (~~~x))) []) := by
  refine ⟨rfl, ?_⟩
  have e : (BitVec.ofInt 32 (IntKind.u32.max) ^^^ BitVec.ofInt 32 (x.toNat : Int)) = ~~~x := by
    rw [ofInt32, show BitVec.ofInt 32 (IntKind.u32.max) = BitVec.allOnes 32 by decide, BitVec.allOnes_xor]
  have : ibits .xor .u32 (IntKind.u32.max) x.toNat = ((~~~x).toNat : Int) := by
    rw [← e]
    exact bits32 _ (BitVec.isLt _)
  exact congrArg (fun n => Res.val (.d (.int .u32 n)) []) this.symm
theorem neg32 : (opQ s (.un .neg) [.d (eU32 x)]).Runs M [] (.val (.d (eU32 (-x))) []) := by
  refine ⟨rfl, ?_⟩
  simp only [eU32, wrap_u32]
  have : -x = BitVec.ofInt 32 (0 - (x.toNat : Int)) := by
    apply BitVec.eq_of_toNat_eq; have := x.isLt; simp [BitVec.toNat_ofInt, BitVec.toNat_neg]; omega
  rw [← this]
theorem toI32 : (opQ s (.cvt .i64) [.d (eU32 x)]).Runs M [] (.val (.d (.int .i64 (x.toNat : Int))) []) := by
  refine ⟨rfl, ?_⟩
  have := x.isLt
  have e : (x.toNat : Int) = IntKind.i64.wrap x.toNat := by
    rw [IntKind.wrap_i64]
    omega
  exact congrArg (fun n => Res.val (.d (.int .i64 n)) []) e
theorem ofI32 (k : IntKind) (n : Int) : (opQ s (.cvt .u32) [.d (.int k n)]).Runs M [] (.val (.d (eU32 (BitVec.ofInt 32 n))) []) := by
  refine ⟨rfl, ?_⟩
  simp only [eU32, wrap_u32]
theorem pick32 (c : Bool) : (opQ s .pick [.d (.bool c), .d (eU32 x), .d (eU32 y)]).Runs M [] (.val (.d (eU32 (if c then x else y))) []) := by
  refine ⟨rfl, ?_⟩
  cases c <;> rfl
end

/-! ### u64 -/
def eU64 (x : BitVec 64) : D := .int .u64 x.toNat
theorem wrap_u64 (n : Int) : IntKind.u64.wrap n = ((BitVec.ofInt 64 n).toNat : Int) := by
  rw [wrap_uns rfl]; simp [BitVec.toNat_ofInt, IntKind.bits]; omega
section
variable {M : MF} {s : Nat} (x y : BitVec 64)
theorem add64 : (opQ s (.bin .add) [.d (eU64 x), .d (eU64 y)]).Runs M [] (.val (.d (eU64 (x + y))) []) := by
  refine ⟨rfl, rfl, ?_⟩
  simp only [eU64, wrap_u64]
  have : x + y = BitVec.ofInt 64 ((x.toNat : Int) + y.toNat) := by
    apply BitVec.eq_of_toNat_eq; simp [BitVec.toNat_ofInt]; omega
  rw [← this]
theorem sub64 : (opQ s (.bin .sub) [.d (eU64 x), .d (eU64 y)]).Runs M [] (.val (.d (eU64 (x - y))) []) := by
  refine ⟨rfl, rfl, ?_⟩
  simp only [eU64, wrap_u64]
  have : x - y = BitVec.ofInt 64 ((x.toNat : Int) - y.toNat) := by
    apply BitVec.eq_of_toNat_eq; have := x.isLt; have := y.isLt; simp [BitVec.toNat_ofInt, BitVec.toNat_sub]; omega
  rw [← this]
theorem mul64 : (opQ s (.bin .mul) [.d (eU64 x), .d (eU64 y)]).Runs M [] (.val (.d (eU64 (x * y))) []) := by
  refine ⟨rfl, rfl, ?_⟩
  simp only [eU64, wrap_u64]
  have : x * y = BitVec.ofInt 64 ((x.toNat : Int) * y.toNat) := by
    apply BitVec.eq_of_toNat_eq
    rw [BitVec.toNat_ofInt, BitVec.toNat_mul, ← Int.natCast_mul]
    norm_cast
  rw [← this]
theorem ofInt64 : BitVec.ofInt 64 (x.toNat : Int) = x := by simp
theorem bits64 (n : Nat) (h : n < 2 ^ 64) : IntKind.u64.wrap (n : Int) = (n : Int) := by
  rw [wrap_uns rfl]; simp [IntKind.bits]; omega
theorem and64 : (opQ s (.bin .and) [.d (eU64 x), .d (eU64 y)]).Runs M [] (.val (.d (eU64 (x &&& y))) []) := by
  refine ⟨rfl, rfl, ?_⟩
  simp only [eU64, ibits, IntKind.bits, ofInt64]
  rw [bits64 _ (BitVec.isLt _)]; rfl
theorem or64 : (opQ s (.bin .or) [.d (eU64 x), .d (eU64 y)]).Runs M [] (.val (.d (eU64 (x ||| y))) []) := by
  refine ⟨rfl, rfl, ?_⟩
  simp only [eU64, ibits, IntKind.bits, ofInt64]
  rw [bits64 _ (BitVec.isLt _)]; rfl
theorem xor64 : (opQ s (.bin .xor) [.d (eU64 x), .d (eU64 y)]).Runs M [] (.val (.d (eU64 (x ^^^ y))) []) := by
  refine ⟨rfl, rfl, ?_⟩
  simp only [eU64, ibits, IntKind.bits, ofInt64]
  rw [bits64 _ (BitVec.isLt _)]; rfl
theorem andNot64 : (opQ s (.bin .andNot) [.d (eU64 x), .d (eU64 y)]).Runs M [] (.val (.d (eU64 (x &&& ~~~y))) []) := by
  refine ⟨rfl, rfl, ?_⟩
  simp only [eU64, ibits, IntKind.bits, ofInt64]
  rw [bits64 _ (BitVec.isLt _)]; rfl
theorem quo64 (h : y ≠ 0#64) : (opQ s (.bin .quo) [.d (eU64 x), .d (eU64 y)]).Runs M [] (.val (.d (eU64 (x / y))) []) := by
  have h0 : y.toNat ≠ 0 := fun e => h (BitVec.eq_of_toNat_eq (by simpa using e))
  refine ⟨rfl, by simpa using h0, rfl, ?_⟩
  simp only [eU64]
  rw [← Int.ofNat_tdiv, bits64 _ (Nat.lt_of_le_of_lt (Nat.div_le_self _ _) x.isLt), BitVec.toNat_udiv]
theorem rem64 (h : y ≠ 0#64) : (opQ s (.bin .rem) [.d (eU64 x), .d (eU64 y)]).Runs M [] (.val (.d (eU64 (x % y))) []) := by
  have h0 : y.toNat ≠ 0 := fun e => h (BitVec.eq_of_toNat_eq (by simpa using e))
  refine ⟨rfl, by simpa using h0, rfl, ?_⟩
  simp only [eU64]
  rw [← Int.ofNat_tmod, BitVec.toNat_umod]
theorem eql64 : (opQ s (.bin .eql) [.d (eU64 x), .d (eU64 y)]).Runs M [] (.val (.d (eB (x == y))) []) := by
  refine ⟨rfl, rfl, ?_⟩
  have : ((x.toNat : Int) == y.toNat) = (x == y) := by
    rw [Bool.eq_iff_iff]; simp [BitVec.toNat_eq]; omega
  simp only [eB, this]
theorem neq64 : (opQ s (.bin .neq) [.d (eU64 x), .d (eU64 y)]).Runs M [] (.val (.d (eB (x != y))) []) := by
  refine ⟨rfl, rfl, ?_⟩
  have : ((x.toNat : Int) != y.toNat) = (x != y) := by
    rw [Bool.eq_iff_iff]; simp [BitVec.toNat_eq]; omega
  simp only [eB, this]
theorem lss64 : (opQ s (.bin .lss) [.d (eU64 x), .d (eU64 y)]).Runs M [] (.val (.d (eB (decide (x.toNat < y.toNat)))) []) := by
  refine ⟨rfl, rfl, ?_⟩
  simp only [eB, Int.ofNat_lt]
theorem leq64 : (opQ s (.bin .leq) [.d (eU64 x), .d (eU64 y)]).Runs M [] (.val (.d (eB (decide (x.toNat ≤ y.toNat)))) []) := by
  refine ⟨rfl, rfl, ?_⟩
  simp only [eB, Int.ofNat_le]
theorem gtr64 : (opQ s (.bin .gtr) [.d (eU64 x), .d (eU64 y)]).Runs M [] (.val (.d (eB (decide (y.toNat < x.toNat)))) []) := by
  refine ⟨rfl, rfl, ?_⟩
  simp only [eB, gt_iff_lt, Int.ofNat_lt]
theorem geq64 : (opQ s (.bin .geq) [.d (eU64 x), .d (eU64 y)]).Runs M [] (.val (.d (eB (decide (y.toNat ≤ x.toNat)))) []) := by
  refine ⟨rfl, rfl, ?_⟩
  simp only [eB, ge_iff_le, Int.ofNat_le]
theorem shlN64 (n : Nat) : ishl .u64 (x.toNat : Int) (n : Int) = ((x <<< n).toNat : Int) := by
  simp only [ishl, wrap_u64, Int.toNat_natCast, IntKind.bits]
  congr 1
  rw [BitVec.toNat_shiftLeft, BitVec.toNat_ofInt]
  have e : ((x.toNat : Int) * 2 ^ min n 64 % ((2 ^ 64 : Nat) : Int)).toNat = x.toNat * 2 ^ min n 64 % 2 ^ 64 := by
    rw [show ((x.toNat : Int) * 2 ^ min n 64 % ((2 ^ 64 : Nat) : Int)) = ((x.toNat * 2 ^ min n 64 % 2 ^ 64 : Nat) : Int) by norm_cast, Int.toNat_natCast]
  rw [e, Nat.shiftLeft_eq]
  by_cases h : n ≤ 64
  · rw [Nat.min_eq_left h]
  · rw [Nat.min_eq_right (by omega)]
    have h1 : x.toNat * 2 ^ 64 % 2 ^ 64 = 0 := by omega
    have h2 : x.toNat * 2 ^ n % 2 ^ 64 = 0 := by
      obtain ⟨d, rfl⟩ : ∃ d, n = d + 64 := ⟨n - 64, by omega⟩
      rw [Nat.pow_add, ← Nat.mul_assoc]
      exact Nat.mul_mod_left _ _
    rw [h1, h2]
theorem shrN64 (n : Nat) : ishr .u64 (x.toNat : Int) (n : Int) = ((x >>> n).toNat : Int) := by
  simp only [ishr, Int.toNat_natCast, IntKind.bits]
  rw [BitVec.toNat_ushiftRight, Nat.shiftRight_eq_div_pow]
  by_cases h : n ≤ 64
  · rw [Nat.min_eq_left h, Int.fdiv_eq_ediv_of_nonneg _ (by exact_mod_cast Nat.zero_le (2 ^ n))]
    norm_cast
  · rw [Nat.min_eq_right (by omega)]
    have h1 : x.toNat / 2 ^ n = 0 := Nat.div_eq_of_lt (Nat.lt_of_lt_of_le x.isLt (Nat.pow_le_pow_right (by decide) (by omega)))
    have h2 : x.toNat / 2 ^ 64 = 0 := Nat.div_eq_of_lt x.isLt
    rw [h1, Int.fdiv_eq_ediv_of_nonneg _ (by decide)]
    rw [show ((x.toNat : Int) / 2 ^ 64) = ((x.toNat / 2 ^ 64 : Nat) : Int) by norm_cast, h2]
theorem shlI64 {k : IntKind} {n : Int} (h : 0 ≤ n) : (opQ s (.bin .shl) [.d (eU64 x), .d (.int k n)]).Runs M [] (.val (.d (eU64 (x <<< n.toNat))) []) := by
  refine ⟨h, rfl, ?_⟩
  obtain ⟨m, rfl⟩ := Int.eq_ofNat_of_zero_le h
  simp only [eU64]
  rw [shlN64]; rfl
theorem shrI64 {k : IntKind} {n : Int} (h : 0 ≤ n) : (opQ s (.bin .shr) [.d (eU64 x), .d (.int k n)]).Runs M [] (.val (.d (eU64 (x >>> n.toNat))) []) := by
  refine ⟨h, rfl, ?_⟩
  obtain ⟨m, rfl⟩ := Int.eq_ofNat_of_zero_le h
  simp only [eU64]
  rw [shrN64]; rfl
theorem shlL64 {k : IntKind} {c : Int} (n : Nat) (hc : c = (n : Int)) : (opQ s (.bin .shl) [.d (eU64 x), .d (.int k c)]).Runs M [] (.val (.d (eU64 (x <<< n))) []) := by
  subst hc; exact shlI64 x (by omega)
theorem shrL64 {k : IntKind} {c : Int} (n : Nat) (hc : c = (n : Int)) : (opQ s (.bin .shr) [.d (eU64 x), .d (.int k c)]).Runs M [] (.val (.d (eU64 (x >>> n))) []) := by
  subst hc; exact shrI64 x (by omega)
theorem not64 : (opQ s (.un .xor) [.d (eU64 x)]).Runs M [] (.val (.d (eU64 (~~~x))) []) := by
  refine ⟨rfl, ?_⟩
  have e : (BitVec.ofInt 64 (IntKind.u64.max) ^^^ BitVec.ofInt 64 (x.toNat : Int)) = ~~~x := by
    rw [ofInt64, show BitVec.ofInt 64 (IntKind.u64.max) = BitVec.allOnes 64 by decide, BitVec.allOnes_xor]
  have : ibits .xor .u64 (IntKind.u64.max) x.toNat = ((~~~x).toNat : Int) := by
    rw [← e]
    exact bits64 _ (BitVec.isLt _)
  exact congrArg (fun n => Res.val (.d (.int .u64 n)) []) this.symm
theorem neg64 : (opQ s (.un .neg) [.d (eU64 x)]).Runs M [] (.val (.d (eU64 (-x))) []) := by
  refine ⟨rfl, ?_⟩
  simp only [eU64, wrap_u64]
  have : -x = BitVec.ofInt 64 (0 - (x.toNat : Int)) := by
    apply BitVec.eq_of_toNat_eq; have := x.isLt; simp [BitVec.toNat_ofInt, BitVec.toNat_neg]; omega
  rw [← this]
theorem toI64 : (opQ s (.cvt .i64) [.d (eU64 x)]).Runs M [] (.val (.d (.int .i64 x.toInt)) []) := by
  refine ⟨rfl, ?_⟩
  have := x.isLt
  have e : x.toInt = IntKind.i64.wrap x.toNat := by
    rw [IntKind.wrap_i64]
    rw [BitVec.toInt_eq_toNat_cond]; split <;> omega
  exact congrArg (fun n => Res.val (.d (.int .i64 n)) []) e
theorem ofI64 (k : IntKind) (n : Int) : (opQ s (.cvt .u64) [.d (.int k n)]).Runs M [] (.val (.d (eU64 (BitVec.ofInt 64 n))) []) := by
  refine ⟨rfl, ?_⟩
  simp only [eU64, wrap_u64]
theorem pick64 (c : Bool) : (opQ s .pick [.d (.bool c), .d (eU64 x), .d (eU64 y)]).Runs M [] (.val (.d (eU64 (if c then x else y))) []) := by
  refine ⟨rfl, ?_⟩
  cases c <;> rfl
end
theorem cvt16_8 {M : MF} {s : Nat} (x : BitVec 16) : (opQ s (.cvt .u8) [.d (eU16 x)]).Runs M [] (.val (.d (eU8 (x.setWidth 8))) []) := by
  refine ⟨rfl, ?_⟩
  have := x.isLt
  simp only [eU8, eU16, wrap_u8]
  have : x.setWidth 8 = BitVec.ofInt 8 (x.toNat : Int) := by
    apply BitVec.eq_of_toNat_eq; simp [BitVec.toNat_ofInt]; try omega
  rw [← this]
theorem cvt32_8 {M : MF} {s : Nat} (x : BitVec 32) : (opQ s (.cvt .u8) [.d (eU32 x)]).Runs M [] (.val (.d (eU8 (x.setWidth 8))) []) := by
  refine ⟨rfl, ?_⟩
  have := x.isLt
  simp only [eU8, eU32, wrap_u8]
  have : x.setWidth 8 = BitVec.ofInt 8 (x.toNat : Int) := by
    apply BitVec.eq_of_toNat_eq; simp [BitVec.toNat_ofInt]; try omega
  rw [← this]
theorem cvt64_8 {M : MF} {s : Nat} (x : BitVec 64) : (opQ s (.cvt .u8) [.d (eU64 x)]).Runs M [] (.val (.d (eU8 (x.setWidth 8))) []) := by
  refine ⟨rfl, ?_⟩
  have := x.isLt
  simp only [eU8, eU64, wrap_u8]
  have : x.setWidth 8 = BitVec.ofInt 8 (x.toNat : Int) := by
    apply BitVec.eq_of_toNat_eq; simp [BitVec.toNat_ofInt]; try omega
  rw [← this]
theorem shl8_8 {M : MF} {s : Nat} (x : BitVec 8) (y : BitVec 8) : (opQ s (.bin .shl) [.d (eU8 x), .d (eU8 y)]).Runs M [] (.val (.d (eU8 (x <<< y.toNat))) []) := by
  refine ⟨by omega, rfl, ?_⟩
  simp only [eU8]; rw [shlN8]
theorem shr8_8 {M : MF} {s : Nat} (x : BitVec 8) (y : BitVec 8) : (opQ s (.bin .shr) [.d (eU8 x), .d (eU8 y)]).Runs M [] (.val (.d (eU8 (x >>> y.toNat))) []) := by
  refine ⟨by omega, rfl, ?_⟩
  simp only [eU8]; rw [shrN8]
theorem shl8_16 {M : MF} {s : Nat} (x : BitVec 8) (y : BitVec 16) : (opQ s (.bin .shl) [.d (eU8 x), .d (eU16 y)]).Runs M [] (.val (.d (eU8 (x <<< y.toNat))) []) := by
  refine ⟨by omega, rfl, ?_⟩
  simp only [eU8]; rw [shlN8]
theorem shr8_16 {M : MF} {s : Nat} (x : BitVec 8) (y : BitVec 16) : (opQ s (.bin .shr) [.d (eU8 x), .d (eU16 y)]).Runs M [] (.val (.d (eU8 (x >>> y.toNat))) []) := by
  refine ⟨by omega, rfl, ?_⟩
  simp only [eU8]; rw [shrN8]
theorem shl8_32 {M : MF} {s : Nat} (x : BitVec 8) (y : BitVec 32) : (opQ s (.bin .shl) [.d (eU8 x), .d (eU32 y)]).Runs M [] (.val (.d (eU8 (x <<< y.toNat))) []) := by
  refine ⟨by omega, rfl, ?_⟩
  simp only [eU8]; rw [shlN8]
theorem shr8_32 {M : MF} {s : Nat} (x : BitVec 8) (y : BitVec 32) : (opQ s (.bin .shr) [.d (eU8 x), .d (eU32 y)]).Runs M [] (.val (.d (eU8 (x >>> y.toNat))) []) := by
  refine ⟨by omega, rfl, ?_⟩
  simp only [eU8]; rw [shrN8]
theorem shl8_64 {M : MF} {s : Nat} (x : BitVec 8) (y : BitVec 64) : (opQ s (.bin .shl) [.d (eU8 x), .d (eU64 y)]).Runs M [] (.val (.d (eU8 (x <<< y.toNat))) []) := by
  refine ⟨by omega, rfl, ?_⟩
  simp only [eU8]; rw [shlN8]
theorem shr8_64 {M : MF} {s : Nat} (x : BitVec 8) (y : BitVec 64) : (opQ s (.bin .shr) [.d (eU8 x), .d (eU64 y)]).Runs M [] (.val (.d (eU8 (x >>> y.toNat))) []) := by
  refine ⟨by omega, rfl, ?_⟩
  simp only [eU8]; rw [shrN8]
theorem cvt8_16 {M : MF} {s : Nat} (x : BitVec 8) : (opQ s (.cvt .u16) [.d (eU8 x)]).Runs M [] (.val (.d (eU16 (x.setWidth 16))) []) := by
  refine ⟨rfl, ?_⟩
  have := x.isLt
  simp only [eU16, eU8, wrap_u16]
  have : x.setWidth 16 = BitVec.ofInt 16 (x.toNat : Int) := by
    apply BitVec.eq_of_toNat_eq; simp [BitVec.toNat_ofInt]; try omega
  rw [← this]
theorem cvt32_16 {M : MF} {s : Nat} (x : BitVec 32) : (opQ s (.cvt .u16) [.d (eU32 x)]).Runs M [] (.val (.d (eU16 (x.setWidth 16))) []) := by
  refine ⟨rfl, ?_⟩
  have := x.isLt
  simp only [eU16, eU32, wrap_u16]
  have : x.setWidth 16 = BitVec.ofInt 16 (x.toNat : Int) := by
    apply BitVec.eq_of_toNat_eq; simp [BitVec.toNat_ofInt]; try omega
  rw [← this]
theorem cvt64_16 {M : MF} {s : Nat} (x : BitVec 64) : (opQ s (.cvt .u16) [.d (eU64 x)]).Runs M [] (.val (.d (eU16 (x.setWidth 16))) []) := by
  refine ⟨rfl, ?_⟩
  have := x.isLt
  simp only [eU16, eU64, wrap_u16]
  have : x.setWidth 16 = BitVec.ofInt 16 (x.toNat : Int) := by
    apply BitVec.eq_of_toNat_eq; simp [BitVec.toNat_ofInt]; try omega
  rw [← this]
theorem shl16_8 {M : MF} {s : Nat} (x : BitVec 16) (y : BitVec 8) : (opQ s (.bin .shl) [.d (eU16 x), .d (eU8 y)]).Runs M [] (.val (.d (eU16 (x <<< y.toNat))) []) := by
  refine ⟨by omega, rfl, ?_⟩
  simp only [eU16]; rw [shlN16]
theorem shr16_8 {M : MF} {s : Nat} (x : BitVec 16) (y : BitVec 8) : (opQ s (.bin .shr) [.d (eU16 x), .d (eU8 y)]).Runs M [] (.val (.d (eU16 (x >>> y.toNat))) []) := by
  refine ⟨by omega, rfl, ?_⟩
  simp only [eU16]; rw [shrN16]
theorem shl16_16 {M : MF} {s : Nat} (x : BitVec 16) (y : BitVec 16) : (opQ s (.bin .shl) [.d (eU16 x), .d (eU16 y)]).Runs M [] (.val (.d (eU16 (x <<< y.toNat))) []) := by
  refine ⟨by omega, rfl, ?_⟩
  simp only [eU16]; rw [shlN16]
theorem shr16_16 {M : MF} {s : Nat} (x : BitVec 16) (y : BitVec 16) : (opQ s (.bin .shr) [.d (eU16 x), .d (eU16 y)]).Runs M [] (.val (.d (eU16 (x >>> y.toNat))) []) := by
  refine ⟨by omega, rfl, ?_⟩
  simp only [eU16]; rw [shrN16]
theorem shl16_32 {M : MF} {s : Nat} (x : BitVec 16) (y : BitVec 32) : (opQ s (.bin .shl) [.d (eU16 x), .d (eU32 y)]).Runs M [] (.val (.d (eU16 (x <<< y.toNat))) []) := by
  refine ⟨by omega, rfl, ?_⟩
  simp only [eU16]; rw [shlN16]
theorem shr16_32 {M : MF} {s : Nat} (x : BitVec 16) (y : BitVec 32) : (opQ s (.bin .shr) [.d (eU16 x), .d (eU32 y)]).Runs M [] (.val (.d (eU16 (x >>> y.toNat))) []) := by
  refine ⟨by omega, rfl, ?_⟩
  simp only [eU16]; rw [shrN16]
theorem shl16_64 {M : MF} {s : Nat} (x : BitVec 16) (y : BitVec 64) : (opQ s (.bin .shl) [.d (eU16 x), .d (eU64 y)]).Runs M [] (.val (.d (eU16 (x <<< y.toNat))) []) := by
  refine ⟨by omega, rfl, ?_⟩
  simp only [eU16]; rw [shlN16]
theorem shr16_64 {M : MF} {s : Nat} (x : BitVec 16) (y : BitVec 64) : (opQ s (.bin .shr) [.d (eU16 x), .d (eU64 y)]).Runs M [] (.val (.d (eU16 (x >>> y.toNat))) []) := by
  refine ⟨by omega, rfl, ?_⟩
  simp only [eU16]; rw [shrN16]
theorem cvt8_32 {M : MF} {s : Nat} (x : BitVec 8) : (opQ s (.cvt .u32) [.d (eU8 x)]).Runs M [] (.val (.d (eU32 (x.setWidth 32))) []) := by
  refine ⟨rfl, ?_⟩
  have := x.isLt
  simp only [eU32, eU8, wrap_u32]
  have : x.setWidth 32 = BitVec.ofInt 32 (x.toNat : Int) := by
    apply BitVec.eq_of_toNat_eq; simp [BitVec.toNat_ofInt]; try omega
  rw [← this]
theorem cvt16_32 {M : MF} {s : Nat} (x : BitVec 16) : (opQ s (.cvt .u32) [.d (eU16 x)]).Runs M [] (.val (.d (eU32 (x.setWidth 32))) []) := by
  refine ⟨rfl, ?_⟩
  have := x.isLt
  simp only [eU32, eU16, wrap_u32]
  have : x.setWidth 32 = BitVec.ofInt 32 (x.toNat : Int) := by
    apply BitVec.eq_of_toNat_eq; simp [BitVec.toNat_ofInt]; try omega
  rw [← this]
theorem cvt64_32 {M : MF} {s : Nat} (x : BitVec 64) : (opQ s (.cvt .u32) [.d (eU64 x)]).Runs M [] (.val (.d (eU32 (x.setWidth 32))) []) := by
  refine ⟨rfl, ?_⟩
  have := x.isLt
  simp only [eU32, eU64, wrap_u32]
  have : x.setWidth 32 = BitVec.ofInt 32 (x.toNat : Int) := by
    apply BitVec.eq_of_toNat_eq; simp [BitVec.toNat_ofInt]; try omega
  rw [← this]
theorem shl32_8 {M : MF} {s : Nat} (x : BitVec 32) (y : BitVec 8) : (opQ s (.bin .shl) [.d (eU32 x), .d (eU8 y)]).Runs M [] (.val (.d (eU32 (x <<< y.toNat))) []) := by
  refine ⟨by omega, rfl, ?_⟩
  simp only [eU32]; rw [shlN32]
theorem shr32_8 {M : MF} {s : Nat} (x : BitVec 32) (y : BitVec 8) : (opQ s (.bin .shr) [.d (eU32 x), .d (eU8 y)]).Runs M [] (.val (.d (eU32 (x >>> y.toNat))) []) := by
  refine ⟨by omega, rfl, ?_⟩
  simp only [eU32]; rw [shrN32]
theorem shl32_16 {M : MF} {s : Nat} (x : BitVec 32) (y : BitVec 16) : (opQ s (.bin .shl) [.d (eU32 x), .d (eU16 y)]).Runs M [] (.val (.d (eU32 (x <<< y.toNat))) []) := by
  refine ⟨by omega, rfl, ?_⟩
  simp only [eU32]; rw [shlN32]
theorem shr32_16 {M : MF} {s : Nat} (x : BitVec 32) (y : BitVec 16) : (opQ s (.bin .shr) [.d (eU32 x), .d (eU16 y)]).Runs M [] (.val (.d (eU32 (x >>> y.toNat))) []) := by
  refine ⟨by omega, rfl, ?_⟩
  simp only [eU32]; rw [shrN32]
theorem shl32_32 {M : MF} {s : Nat} (x : BitVec 32) (y : BitVec 32) : (opQ s (.bin .shl) [.d (eU32 x), .d (eU32 y)]).Runs M [] (.val (.d (eU32 (x <<< y.toNat))) []) := by
  refine ⟨by omega, rfl, ?_⟩
  simp only [eU32]; rw [shlN32]
theorem shr32_32 {M : MF} {s : Nat} (x : BitVec 32) (y : BitVec 32) : (opQ s (.bin .shr) [.d (eU32 x), .d (eU32 y)]).Runs M [] (.val (.d (eU32 (x >>> y.toNat))) []) := by
  refine ⟨by omega, rfl, ?_⟩
  simp only [eU32]; rw [shrN32]
theorem shl32_64 {M : MF} {s : Nat} (x : BitVec 32) (y : BitVec 64) : (opQ s (.bin .shl) [.d (eU32 x), .d (eU64 y)]).Runs M [] (.val (.d (eU32 (x <<< y.toNat))) []) := by
  refine ⟨by omega, rfl, ?_⟩
  simp only [eU32]; rw [shlN32]
theorem shr32_64 {M : MF} {s : Nat} (x : BitVec 32) (y : BitVec 64) : (opQ s (.bin .shr) [.d (eU32 x), .d (eU64 y)]).Runs M [] (.val (.d (eU32 (x >>> y.toNat))) []) := by
  refine ⟨by omega, rfl, ?_⟩
  simp only [eU32]; rw [shrN32]
theorem cvt8_64 {M : MF} {s : Nat} (x : BitVec 8) : (opQ s (.cvt .u64) [.d (eU8 x)]).Runs M [] (.val (.d (eU64 (x.setWidth 64))) []) := by
  refine ⟨rfl, ?_⟩
  have := x.isLt
  simp only [eU64, eU8, wrap_u64]
  have : x.setWidth 64 = BitVec.ofInt 64 (x.toNat : Int) := by
    apply BitVec.eq_of_toNat_eq; simp [BitVec.toNat_ofInt]; try omega
  rw [← this]
theorem cvt16_64 {M : MF} {s : Nat} (x : BitVec 16) : (opQ s (.cvt .u64) [.d (eU16 x)]).Runs M [] (.val (.d (eU64 (x.setWidth 64))) []) := by
  refine ⟨rfl, ?_⟩
  have := x.isLt
  simp only [eU64, eU16, wrap_u64]
  have : x.setWidth 64 = BitVec.ofInt 64 (x.toNat : Int) := by
    apply BitVec.eq_of_toNat_eq; simp [BitVec.toNat_ofInt]; try omega
  rw [← this]
theorem cvt32_64 {M : MF} {s : Nat} (x : BitVec 32) : (opQ s (.cvt .u64) [.d (eU32 x)]).Runs M [] (.val (.d (eU64 (x.setWidth 64))) []) := by
  refine ⟨rfl, ?_⟩
  have := x.isLt
  simp only [eU64, eU32, wrap_u64]
  have : x.setWidth 64 = BitVec.ofInt 64 (x.toNat : Int) := by
    apply BitVec.eq_of_toNat_eq; simp [BitVec.toNat_ofInt]; try omega
  rw [← this]
theorem shl64_8 {M : MF} {s : Nat} (x : BitVec 64) (y : BitVec 8) : (opQ s (.bin .shl) [.d (eU64 x), .d (eU8 y)]).Runs M [] (.val (.d (eU64 (x <<< y.toNat))) []) := by
  refine ⟨by omega, rfl, ?_⟩
  simp only [eU64]; rw [shlN64]
theorem shr64_8 {M : MF} {s : Nat} (x : BitVec 64) (y : BitVec 8) : (opQ s (.bin .shr) [.d (eU64 x), .d (eU8 y)]).Runs M [] (.val (.d (eU64 (x >>> y.toNat))) []) := by
  refine ⟨by omega, rfl, ?_⟩
  simp only [eU64]; rw [shrN64]
theorem shl64_16 {M : MF} {s : Nat} (x : BitVec 64) (y : BitVec 16) : (opQ s (.bin .shl) [.d (eU64 x), .d (eU16 y)]).Runs M [] (.val (.d (eU64 (x <<< y.toNat))) []) := by
  refine ⟨by omega, rfl, ?_⟩
  simp only [eU64]; rw [shlN64]
theorem shr64_16 {M : MF} {s : Nat} (x : BitVec 64) (y : BitVec 16) : (opQ s (.bin .shr) [.d (eU64 x), .d (eU16 y)]).Runs M [] (.val (.d (eU64 (x >>> y.toNat))) []) := by
  refine ⟨by omega, rfl, ?_⟩
  simp only [eU64]; rw [shrN64]
theorem shl64_32 {M : MF} {s : Nat} (x : BitVec 64) (y : BitVec 32) : (opQ s (.bin .shl) [.d (eU64 x), .d (eU32 y)]).Runs M [] (.val (.d (eU64 (x <<< y.toNat))) []) := by
  refine ⟨by omega, rfl, ?_⟩
  simp only [eU64]; rw [shlN64]
theorem shr64_32 {M : MF} {s : Nat} (x : BitVec 64) (y : BitVec 32) : (opQ s (.bin .shr) [.d (eU64 x), .d (eU32 y)]).Runs M [] (.val (.d (eU64 (x >>> y.toNat))) []) := by
  refine ⟨by omega, rfl, ?_⟩
  simp only [eU64]; rw [shrN64]
theorem shl64_64 {M : MF} {s : Nat} (x : BitVec 64) (y : BitVec 64) : (opQ s (.bin .shl) [.d (eU64 x), .d (eU64 y)]).Runs M [] (.val (.d (eU64 (x <<< y.toNat))) []) := by
  refine ⟨by omega, rfl, ?_⟩
  simp only [eU64]; rw [shlN64]
theorem shr64_64 {M : MF} {s : Nat} (x : BitVec 64) (y : BitVec 64) : (opQ s (.bin .shr) [.d (eU64 x), .d (eU64 y)]).Runs M [] (.val (.d (eU64 (x >>> y.toNat))) []) := by
  refine ⟨by omega, rfl, ?_⟩
  simp only [eU64]; rw [shrN64]
end Go.RW

/-! Operations on typed values; steps. -/
set_option linter.unusedSimpArgs false
set_option linter.unusedVariables false
namespace Go.RW

/-! ### encodings -/
def ba (s : List (BitVec 8)) : ByteArray := ⟨(s.map UInt8.ofBitVec).toArray⟩
def eS (s : List (BitVec 8)) : D := .str (ba s)
def eI (n : Int) : D := .int .i64 n
/-- A slice of sz cells an element. -/
def eL {α : Type} (sz : Nat) (e : α → D) (xs : List α) : D := .sl sz (xs.map e)
/-- An array of one cell an element. -/
def eA {α : Type} (e : α → D) (xs : List α) : D := .agg (xs.map e)
abbrev w64 : Int → Int := IntKind.i64.wrap

theorem ba_toList (s : List (BitVec 8)) : (ba s).data.toList = s.map UInt8.ofBitVec := by simp [ba]
theorem ba_size (s : List (BitVec 8)) : (ba s).size = s.length := by simp [ba, ByteArray.size]
theorem ba_inj {s t : List (BitVec 8)} (h : ba s = ba t) : s = t := by
  have h' := congrArg (fun b : ByteArray => b.data.toList) h
  simp only [ba_toList] at h'
  have := congrArg (List.map UInt8.toBitVec) h'
  simpa [Function.comp_def] using this
theorem ba_append (s t : List (BitVec 8)) : ba s ++ ba t = ba (s ++ t) := by
  apply ByteArray.ext
  simp [ba]
theorem ba_surj (b : ByteArray) : ba (b.data.toList.map UInt8.toBitVec) = b := by
  apply ByteArray.ext
  simp [ba, Function.comp_def]
theorem toList_data (b : ByteArray) : b.toList = b.data.toList := by
  have loop : ∀ (n i : Nat) (acc : List UInt8), b.size - i = n → ByteArray.toList.loop b i acc = acc.reverse ++ b.data.toList.drop i := by
    intro n
    induction n with
    | zero =>
      intro i acc h
      unfold ByteArray.toList.loop
      have : ¬ i < b.size := by omega
      have hs : b.size = b.data.toList.length := by rw [Array.length_toList]; rfl
      rw [if_neg this, List.drop_eq_nil_of_le (by omega)]
      simp
    | succ n ih =>
      intro i acc h
      unfold ByteArray.toList.loop
      have hi : i < b.size := by omega
      have hs : b.size = b.data.toList.length := by rw [Array.length_toList]; rfl
      rw [if_pos hi, ih (i + 1) _ (by omega), List.drop_eq_getElem_cons (i := i) (by omega)]
      have e : b.get! i = b.data[i]'hi := by
        show b.data[i]! = _
        rw [getElem!_pos b.data i hi]
      rw [e]
      simp
  have := loop _ 0 [] rfl
  simpa [ByteArray.toList] using this
theorem ofBA_ba (s : List (BitVec 8)) : ofBA (ba s) = s.map eU8 := by
  unfold ofBA
  rw [ba_toList, List.map_map]
  rfl
theorem toBA_map (s : List (BitVec 8)) : toBA (s.map eU8) = ba s := by
  unfold toBA ba
  rw [List.map_map]
  congr 3
  funext x
  simp [toByte, eU8, Function.comp]

/-! ### what an operation comes to -/
def OpOK (P : Program) (q : Q Res) (M : MF) (rd : List Nat) (v : PV) (u : Mem Blk) : Prop := ∃ res, q.Runs M rd res ∧ res.FinOK P v u
section
variable {P : Program} {M : MF} {site : Nat} {q : Q Res} {rd : List Nat} {v : PV} {u : Mem Blk}
theorem ok (h : q.Runs M rd (.val v u)) : OpOK P q M rd v u := ⟨_, h, rfl, rfl⟩
theorem OpOK.wp (h : OpOK P q M rd v u) {K : PV → Mem Blk → Prop} (hK : K v u) : q.wp M (Res.fin P K) := by
  obtain ⟨res, h1, h2⟩ := h
  exact h1.wp (Res.ok_fin h2 hK)
theorem wpr_of {α : Type} : ∀ {q : Q α} {r : List Nat} {a : α} {G : List Nat → α → Prop}, q.Runs M r a → G r a → q.wpr M G
  | .ret _, _, _, _, ⟨rfl, rfl⟩, g => g
  | .look id k, _, a, G, ⟨b, r', h1, h2, h3⟩, g => by
    subst h2
    simp only [Q.wpr, h1]
    exact wpr_of h3 g
  | .ask p k, _, a, G, ⟨h1, h2⟩, g => ⟨h1, wpr_of h2 g⟩
  | .amb _ _, _, _, _, h, _ => h.elim
  | .fail, _, _, _, h, _ => h.elim
theorem OpOK.wpr (h : OpOK P q M rd v u) {K : List Nat → PV → Mem Blk → Prop} (hK : K rd v u) : q.wpr M fun rd res => res.fin P (K rd) := by
  obtain ⟨res, h1, h2⟩ := h
  exact wpr_of h1 (Res.ok_fin h2 hK)
end

/-! ### steps -/
section
variable {P : Program} {op : ROp} {xs : List RO} {bef : List Nat} {r : List ROper} {site d : Nat} {env : Mem PV} {mem mem' : Mem Blk} {G : Mem PV → Mem Blk → Prop} {rd : List Nat} {v v' : PV} {u : Mem Blk} {recs : List (List Nat × List Nat)} (s' : Nat) (hs : site + 64 = s')
include hs
/-- An operation that leaves the memory as it is. -/
theorem st0 (h : OpOK P (opQ site op (xs.map (RO.val (envE env)))) (mf mem) rd v []) (k : rwOps P r s' ((d, v) :: env) mem G) : rwOps P (⟨some d, op, xs, none, bef⟩ :: r) site env mem G := by
  subst hs
  simp only [rwOps]
  refine h.wp ?_
  rw [updM_nil]; exact k
/-- The same; the value under a name of its own. -/
theorem st0e (h : OpOK P (opQ site op (xs.map (RO.val (envE env)))) (mf mem) rd v []) (hv : v = v') (k : rwOps P r s' ((d, v') :: env) mem G) : rwOps P (⟨some d, op, xs, none, bef⟩ :: r) site env mem G := by
  subst hv; exact st0 s' hs h k
theorem st1 (h : OpOK P (opQ site op (xs.map (RO.val (envE env)))) (mf mem) rd v u) (hu : updM u mem = mem') (k : rwOps P r s' ((d, v) :: env) mem' G) : rwOps P (⟨some d, op, xs, none, bef⟩ :: r) site env mem G := by
  subst hs
  simp only [rwOps]
  refine h.wp ?_
  rw [hu]; exact k
theorem stn (h : OpOK P (opQ site op (xs.map (RO.val (envE env)))) (mf mem) rd v u) (hu : updM u mem = mem') (k : rwOps P r s' env mem' G) : rwOps P (⟨none, op, xs, none, bef⟩ :: r) site env mem G := by
  subst hs
  simp only [rwOps]
  refine h.wp ?_
  rw [hu]; exact k
/-- A comparison with nil of a slice that may be empty. -/
theorem stE {neg : Bool} {sz : Nat} {ys : List D} (hx : xs.map (RO.val (envE env)) = [.d (.sl sz ys)]) (hn : ys ≠ []) (k : rwOps P r s' ((d, .d (.bool neg)) :: env) mem G) : rwOps P (⟨some d, .eqn neg, xs, none, bef⟩ :: r) site env mem G := by
  subst hs
  simp only [rwOps, hx, opQ, eqnQ, Q.wp]
  intro b hb
  have : b = false := by cases b with | true => exact absurd (hb rfl) hn | false => rfl
  subst this
  simp only [one', Q.wp, Res.fin, updM_nil]
  have : (false != neg) = neg := by cases neg <;> rfl
  rw [this]
  exact k
/-- The same, where it may be empty: whichever the answer is. -/
theorem stB {neg : Bool} {sz : Nat} {ys : List D} (hx : xs.map (RO.val (envE env)) = [.d (.sl sz ys)]) (k1 : rwOps P r s' ((d, .d (.bool !neg)) :: env) mem G) (k2 : rwOps P r s' ((d, .d (.bool neg)) :: env) mem G) : rwOps P (⟨some d, .eqn neg, xs, none, bef⟩ :: r) site env mem G := by
  subst hs
  simp only [rwOps, hx, opQ, eqnQ, Q.wp]
  intro b hb
  simp only [one', Q.wp, Res.fin, updM_nil]
  cases b with
  | true => rw [show (true != neg) = !neg by cases neg <;> rfl]; exact k1
  | false => rw [show (false != neg) = neg by cases neg <;> rfl]; exact k2
theorem dr0 (h : OpOK P (opQ site op (xs.map (RO.val (envE env)))) (mf mem) rd v []) (hc : drawChk bef rd [] recs mem site = true) (k : rwDraw P r s' ((d, v) :: env) mem (recs ++ [(rd, [])]) G) : rwDraw P (⟨some d, op, xs, none, bef⟩ :: r) site env mem recs G := by
  subst hs
  simp only [rwDraw]
  refine h.wpr (K := fun rd v u => _) ⟨hc, ?_⟩
  rw [updM_nil]; exact k
theorem dr0e (h : OpOK P (opQ site op (xs.map (RO.val (envE env)))) (mf mem) rd v []) (hv : v = v') (hc : drawChk bef rd [] recs mem site = true) (k : rwDraw P r s' ((d, v') :: env) mem (recs ++ [(rd, [])]) G) : rwDraw P (⟨some d, op, xs, none, bef⟩ :: r) site env mem recs G := by
  subst hv; exact dr0 s' hs h hc k
theorem dr1 (h : OpOK P (opQ site op (xs.map (RO.val (envE env)))) (mf mem) rd v u) (hu : updM u mem = mem') (hc : drawChk bef rd (keys u) recs mem site = true) (k : rwDraw P r s' ((d, v) :: env) mem' (recs ++ [(rd, keys u)]) G) : rwDraw P (⟨some d, op, xs, none, bef⟩ :: r) site env mem recs G := by
  subst hs
  simp only [rwDraw]
  refine h.wpr (K := fun rd v u => _) ⟨hc, ?_⟩
  rw [hu]; exact k
theorem drn (h : OpOK P (opQ site op (xs.map (RO.val (envE env)))) (mf mem) rd v u) (hu : updM u mem = mem') (hc : drawChk bef rd (keys u) recs mem site = true) (k : rwDraw P r s' env mem' (recs ++ [(rd, keys u)]) G) : rwDraw P (⟨none, op, xs, none, bef⟩ :: r) site env mem recs G := by
  subst hs
  simp only [rwDraw]
  refine h.wpr (K := fun rd v u => _) ⟨hc, ?_⟩
  rw [hu]; exact k
omit hs in
/-- A guarded operation whose guard says yes: as if it had none. -/
theorem stG {dst : Option Nat} {g : Nat} {want : Bool} (hb : envE env g = .d (.bool want)) (k : rwOps P (⟨dst, op, xs, none, bef⟩ :: r) site env mem G) : rwOps P (⟨dst, op, xs, some (g, want), bef⟩ :: r) site env mem G := by
  simp only [rwOps, hb, if_true] at k ⊢
  exact k
theorem stGN {g : Nat} {want b : Bool} (hb : envE env g = .d (.bool b)) (hn : b = !want) (k : rwOps P r s' ((d, .tup []) :: env) mem G) : rwOps P (⟨some d, op, xs, some (g, want), bef⟩ :: r) site env mem G := by
  subst hn hs
  have : ¬ ((!want) = want) := by cases want <;> simp
  simp only [rwOps, hb, if_neg this]
  exact k
theorem stGS {g : Nat} {want : Bool} (hb : envE env g = .tup []) (k : rwOps P r s' ((d, .tup []) :: env) mem G) : rwOps P (⟨some d, op, xs, some (g, want), bef⟩ :: r) site env mem G := by
  subst hs
  simp only [rwOps, hb]
  exact k
omit hs in
theorem drG {dst : Option Nat} {g : Nat} {want : Bool} (hb : envE env g = .d (.bool want)) (k : rwDraw P (⟨dst, op, xs, none, bef⟩ :: r) site env mem recs G) : rwDraw P (⟨dst, op, xs, some (g, want), bef⟩ :: r) site env mem recs G := by
  simp only [rwDraw, hb, if_true] at k ⊢
  exact k
theorem drGN {g : Nat} {want b : Bool} (hb : envE env g = .d (.bool b)) (hn : b = !want) (k : rwDraw P r s' ((d, .tup []) :: env) mem (recs ++ [([], [])]) G) : rwDraw P (⟨some d, op, xs, some (g, want), bef⟩ :: r) site env mem recs G := by
  subst hn hs
  have : ¬ ((!want) = want) := by cases want <;> simp
  simp only [rwDraw, hb, if_neg this]
  exact k
theorem drGS {g : Nat} {want : Bool} (hb : envE env g = .tup []) (k : rwDraw P r s' ((d, .tup []) :: env) mem (recs ++ [([], [])]) G) : rwDraw P (⟨some d, op, xs, some (g, want), bef⟩ :: r) site env mem recs G := by
  subst hs
  simp only [rwDraw, hb]
  exact k
end
section
variable {P : Program} {c : RO} {a b : RCode} {G : Exit → Nat → Mem PV → Mem Blk → Prop} {n : Nat} {env : Mem PV} {mem : Mem Blk}
theorem rwp_t (hc : c.val (envE env) = .d (.bool true)) (h : rwp P a G n env mem) : rwp P (.cond c a b) G n env mem := by
  simp only [rwp, hc, if_true]; exact h
theorem rwp_f (hc : c.val (envE env) = .d (.bool false)) (h : rwp P b G n env mem) : rwp P (.cond c a b) G n env mem := by
  simp only [rwp, hc, Bool.false_eq_true, if_false]; exact h
end
theorem isT {c : Bool} (h : c = true) : PV.d (.bool c) = .d (.bool true) := by rw [h]
theorem isF {c : Bool} (h : c = false) : PV.d (.bool c) = .d (.bool false) := by rw [h]
end Go.RW

/-! What operations come to, on typed values. -/
set_option linter.unusedSimpArgs false
set_option linter.unusedVariables false
namespace Go.RW
theorem dropTake_map {α γ : Type} (f : α → γ) (l h : Nat) (xs : List α) : dropTake l h (xs.map f) = (dropTake l h xs).map f := by
  simp [dropTake, List.map_take, List.map_drop]
theorem getD_map {α : Type} {e : α → D} {xs : List α} {i : Nat} (dv : α) (h : i < xs.length) : (xs.map e).getD i .nili = e (xs.getD i dv) := by
  simp [List.getD_eq_getElem?_getD, h]
theorem set_map {α : Type} {e : α → D} {xs : List α} {i : Nat} {y : α} : (xs.map e).set i (e y) = (xs.set i y).map e := by
  rw [List.map_set]
def blt (s t : List (BitVec 8)) : Bool := Op.bytesLess (s.map UInt8.ofBitVec) (t.map UInt8.ofBitVec)
section
variable {P : Program} {M : MF} {s : Nat} {α : Type} {e : α → D}
theorem mv (x : PV) : (opQ s .mv [x]).Runs M [] (.val x []) := ⟨rfl, rfl⟩
theorem chk_ptr (i o : Nat) : (opQ s .chk [.ptr i o]).Runs M [] (.val (.ptr i o) []) := ⟨rfl, rfl⟩
theorem chk_rptr (a b c d : Nat) : (opQ s .chk [.rptr a b c d]).Runs M [] (.val (.rptr a b c d) []) := ⟨rfl, rfl⟩
theorem chk_iptr (xs : List D) : (opQ s .chk [.iptr xs]).Runs M [] (.val (.iptr xs) []) := ⟨rfl, rfl⟩
theorem chk_clo (f : FuncId) (ps : List PV) : (opQ s .chk [.clo f ps]).Runs M [] (.val (.clo f ps) []) := ⟨rfl, rfl⟩
theorem chk_fn (f : FuncId) (ps : List D) : (opQ s .chk [.d (.fn f ps)]).Runs M [] (.val (.d (.fn f ps)) []) := ⟨rfl, rfl⟩
theorem pick_d (e : α → D) (c : Bool) (a b : α) : (opQ s .pick [.d (.bool c), .d (e a), .d (e b)]).Runs M [] (.val (.d (e (if c then a else b))) []) := by
  refine ⟨rfl, ?_⟩; cases c <;> rfl
theorem pick_t {c : Bool} (h : c = true) (a b : PV) : (opQ s .pick [.d (.bool c), a, b]).Runs M [] (.val a []) := by
  subst h; exact ⟨rfl, rfl⟩
theorem pick_f {c : Bool} (h : c = false) (a b : PV) : (opQ s .pick [.d (.bool c), a, b]).Runs M [] (.val b []) := by
  subst h; exact ⟨rfl, rfl⟩

/-! ### signed numbers -/
section
variable (x y : Int)
theorem addI : (opQ s (.bin .add) [.d (eI x), .d (eI y)]).Runs M [] (.val (.d (eI (w64 (x + y)))) []) := ⟨rfl, rfl, rfl⟩
theorem subI : (opQ s (.bin .sub) [.d (eI x), .d (eI y)]).Runs M [] (.val (.d (eI (w64 (x - y)))) []) := ⟨rfl, rfl, rfl⟩
theorem mulI : (opQ s (.bin .mul) [.d (eI x), .d (eI y)]).Runs M [] (.val (.d (eI (w64 (x * y)))) []) := ⟨rfl, rfl, rfl⟩
theorem quoI (h : y ≠ 0) : (opQ s (.bin .quo) [.d (eI x), .d (eI y)]).Runs M [] (.val (.d (eI (w64 (x.tdiv y)))) []) := ⟨rfl, h, rfl, rfl⟩
theorem remI (h : y ≠ 0) : (opQ s (.bin .rem) [.d (eI x), .d (eI y)]).Runs M [] (.val (.d (eI (x.tmod y))) []) := ⟨rfl, h, rfl, rfl⟩
theorem andI : (opQ s (.bin .and) [.d (eI x), .d (eI y)]).Runs M [] (.val (.d (eI (ibits .and .i64 x y))) []) := ⟨rfl, rfl, rfl⟩
theorem orI : (opQ s (.bin .or) [.d (eI x), .d (eI y)]).Runs M [] (.val (.d (eI (ibits .or .i64 x y))) []) := ⟨rfl, rfl, rfl⟩
theorem xorI : (opQ s (.bin .xor) [.d (eI x), .d (eI y)]).Runs M [] (.val (.d (eI (ibits .xor .i64 x y))) []) := ⟨rfl, rfl, rfl⟩
theorem andNotI : (opQ s (.bin .andNot) [.d (eI x), .d (eI y)]).Runs M [] (.val (.d (eI (ibits .andNot .i64 x y))) []) := ⟨rfl, rfl, rfl⟩
theorem eqlI : (opQ s (.bin .eql) [.d (eI x), .d (eI y)]).Runs M [] (.val (.d (eB (x == y))) []) := ⟨rfl, rfl, rfl⟩
theorem neqI : (opQ s (.bin .neq) [.d (eI x), .d (eI y)]).Runs M [] (.val (.d (eB (x != y))) []) := ⟨rfl, rfl, rfl⟩
theorem lssI : (opQ s (.bin .lss) [.d (eI x), .d (eI y)]).Runs M [] (.val (.d (eB (decide (x < y)))) []) := ⟨rfl, rfl, rfl⟩
theorem leqI : (opQ s (.bin .leq) [.d (eI x), .d (eI y)]).Runs M [] (.val (.d (eB (decide (x ≤ y)))) []) := ⟨rfl, rfl, rfl⟩
theorem gtrI : (opQ s (.bin .gtr) [.d (eI x), .d (eI y)]).Runs M [] (.val (.d (eB (decide (y < x)))) []) := ⟨rfl, rfl, rfl⟩
theorem geqI : (opQ s (.bin .geq) [.d (eI x), .d (eI y)]).Runs M [] (.val (.d (eB (decide (y ≤ x)))) []) := ⟨rfl, rfl, rfl⟩
theorem shlII {k : IntKind} {n : Int} (h : 0 ≤ n) : (opQ s (.bin .shl) [.d (eI x), .d (.int k n)]).Runs M [] (.val (.d (eI (ishl .i64 x n))) []) := ⟨h, rfl, rfl⟩
theorem shrII {k : IntKind} {n : Int} (h : 0 ≤ n) : (opQ s (.bin .shr) [.d (eI x), .d (.int k n)]).Runs M [] (.val (.d (eI (ishr .i64 x n))) []) := ⟨h, rfl, rfl⟩
theorem negI : (opQ s (.un .neg) [.d (eI x)]).Runs M [] (.val (.d (eI (w64 (0 - x)))) []) := ⟨rfl, rfl⟩
theorem notI : (opQ s (.un .xor) [.d (eI x)]).Runs M [] (.val (.d (eI (ibits .xor .i64 (-1) x))) []) := ⟨rfl, rfl⟩
theorem cvtII : (opQ s (.cvt .i64) [.d (eI x)]).Runs M [] (.val (.d (eI (w64 x))) []) := ⟨rfl, rfl⟩
theorem minI : (opQ s .mn [.d (eI x), .d (eI y)]).Runs M [] (.val (.d (eI (if y < x then y else x))) []) := ⟨rfl, rfl⟩
theorem maxI : (opQ s .mx [.d (eI x), .d (eI y)]).Runs M [] (.val (.d (eI (if y > x then y else x))) []) := ⟨rfl, rfl⟩
end
/-! ### bools -/
theorem eqlB (x y : Bool) : (opQ s (.bool .eql) [.d (eB x), .d (eB y)]).Runs M [] (.val (.d (eB (x == y))) []) := ⟨rfl, rfl⟩
theorem neqB (x y : Bool) : (opQ s (.bool .neq) [.d (eB x), .d (eB y)]).Runs M [] (.val (.d (eB (!(x == y)))) []) := ⟨rfl, rfl⟩
theorem notB (x : Bool) : (opQ s (.un .not) [.d (eB x)]).Runs M [] (.val (.d (eB (!x))) []) := ⟨rfl, rfl⟩
/-! ### strings -/
section
variable (x y : List (BitVec 8))
theorem addS (h : x.length + y.length ≤ 9223372036854775807) : (opQ s (.bin .add) [.d (eS x), .d (eS y)]).Runs M [] (.val (.d (eS (x ++ y))) []) := by
  refine ⟨by rw [ba_size, ba_size]; exact h, rfl, ?_⟩
  rw [ba_append]; rfl
theorem ba_beq : ((ba x).toList == (ba y).toList) = (x == y) := by
  rw [toList_data, toList_data, ba_toList, ba_toList, Bool.eq_iff_iff]
  simp only [beq_iff_eq]
  constructor
  · intro h
    have := congrArg (List.map UInt8.toBitVec) h
    simpa [Function.comp_def] using this
  · intro h; rw [h]
theorem eqlS : (opQ s (.bin .eql) [.d (eS x), .d (eS y)]).Runs M [] (.val (.d (eB (x == y))) []) := by
  refine ⟨rfl, ?_⟩; rw [ba_beq]; rfl
theorem neqS : (opQ s (.bin .neq) [.d (eS x), .d (eS y)]).Runs M [] (.val (.d (eB (!(x == y)))) []) := by
  refine ⟨rfl, ?_⟩; rw [ba_beq]; rfl
theorem blt_ba : Op.bytesLess (ba x).toList (ba y).toList = blt x y := by
  rw [toList_data, toList_data, ba_toList, ba_toList]; rfl
theorem lssS : (opQ s (.bin .lss) [.d (eS x), .d (eS y)]).Runs M [] (.val (.d (eB (blt x y))) []) := by
  refine ⟨rfl, ?_⟩; rw [blt_ba]; rfl
theorem leqS : (opQ s (.bin .leq) [.d (eS x), .d (eS y)]).Runs M [] (.val (.d (eB (blt x y || x == y))) []) := by
  refine ⟨rfl, ?_⟩; rw [blt_ba, ba_beq]; rfl
theorem gtrS : (opQ s (.bin .gtr) [.d (eS x), .d (eS y)]).Runs M [] (.val (.d (eB (!(blt x y || x == y)))) []) := by
  refine ⟨rfl, ?_⟩; rw [blt_ba, ba_beq]; rfl
theorem geqS : (opQ s (.bin .geq) [.d (eS x), .d (eS y)]).Runs M [] (.val (.d (eB (!(blt x y)))) []) := by
  refine ⟨rfl, ?_⟩; rw [blt_ba]; rfl
theorem cvs : (opQ s .cvs [.d (eS x)]).Runs M [] (.val (.d (eS x)) []) := ⟨rfl, rfl⟩
theorem lenS : (opQ s .lens [.d (eS x)]).Runs M [] (.val (.d (eI x.length)) []) := by
  refine ⟨rfl, ?_⟩; rw [ba_size]; rfl
theorem idxS {k : IntKind} {i : Int} (h : 0 ≤ i ∧ i < x.length) : (opQ s .sx [.d (eS x), .d (.int k i)]).Runs M [] (.val (.d (eU8 (x.getD i.toNat 0#8))) []) := by
  refine ⟨by rw [ba_size]; exact h, rfl, ?_⟩
  have hi : i.toNat < x.length := by omega
  simp only [eU8, ba]
  congr 4
  simp [List.getD_eq_getElem?_getD, hi]
theorem ba_extract (l h : Nat) : (ba x).extract l h = ba (dropTake l h x) := by
  apply ByteArray.ext
  simp [ba, dropTake, List.extract_eq_take_drop, List.map_take, List.map_drop]
theorem s2b : (opQ s .s2b [.d (eS x)]).Runs M [] (.val (.ref s x.length 0 x.length) [(s, .row true 1 (x.map eU8))]) := by
  refine ⟨rfl, ?_⟩; rw [ba_size, ofBA_ba]
end
/-- The parts of a string or a slice: bounds that are left out. -/
theorem sliS_lh {k k' : IntKind} {l h : Int} {x : List (BitVec 8)} (hb : 0 ≤ l ∧ l ≤ h ∧ h ≤ x.length) : (opQ s (.sslice true true) [.d (eS x), .d (.int k l), .d (.int k' h)]).Runs M [] (.val (.d (eS (dropTake l.toNat h.toNat x))) []) := by
  refine ⟨hb.1, by omega, ⟨by omega, by rw [ba_size]; omega⟩, rfl, ?_⟩
  rw [ba_extract]; rfl
theorem sliS_l {k : IntKind} {l : Int} {x : List (BitVec 8)} (hb : 0 ≤ l ∧ l ≤ x.length) : (opQ s (.sslice true false) [.d (eS x), .d (.int k l)]).Runs M [] (.val (.d (eS (dropTake l.toNat x.length x))) []) := by
  refine ⟨hb.1, ⟨by rw [ba_size]; omega, by rw [ba_size]; exact Nat.le_refl _⟩, rfl, ?_⟩
  rw [ba_extract, ba_size]; rfl
theorem sliS_h {k : IntKind} {h : Int} {x : List (BitVec 8)} (hb : 0 ≤ h ∧ h ≤ x.length) : (opQ s (.sslice false true) [.d (eS x), .d (.int k h)]).Runs M [] (.val (.d (eS (dropTake 0 h.toNat x))) []) := by
  refine ⟨hb.1, ⟨by omega, by rw [ba_size]; omega⟩, rfl, ?_⟩
  rw [ba_extract]; rfl
/-! ### lengths -/
theorem lenL (sz : Nat) (xs : List α) : (opQ s .len [.d (eL sz e xs)]).Runs M [] (.val (.d (eI xs.length)) []) := by
  refine ⟨rfl, ?_⟩; rw [List.length_map]; rfl
theorem lenC (sz : Nat) (xs : List α) : (opQ s .len [.cut sz (xs.map e)]).Runs M [] (.val (.d (eI xs.length)) []) := by
  refine ⟨rfl, ?_⟩; rw [List.length_map]; rfl
theorem lenR (id ver off len : Nat) : (opQ s .len [.ref id ver off len]).Runs M [] (.val (.d (eI len)) []) := ⟨rfl, rfl⟩
theorem lenN (sz : Nat) : (opQ s .len [.nil sz]).Runs M [] (.val (.d (eI 0)) []) := ⟨rfl, rfl⟩
/-! ### contents -/
theorem contL {sz : Nat} {xs : List α} : (cont sz (.d (eL sz e xs))).Runs M [] (xs.map e) := ⟨rfl, rfl, rfl⟩
theorem contC {sz : Nat} {xs : List α} : (cont sz (.cut sz (xs.map e))).Runs M [] (xs.map e) := ⟨rfl, rfl, rfl⟩
theorem contN {sz z : Nat} (e : α → D) : (cont sz (.nil z)).Runs M [] (([] : List α).map e) := ⟨rfl, rfl⟩
theorem contR {sz id ver len : Nat} {own : Bool} {xs : List α} (hm : M id = some (.row own sz (xs.map e))) (hv : ver = xs.length) (hl : len = xs.length) : (cont sz (.ref id ver 0 len)).Runs M [id] (xs.map e) := by
  subst hv hl
  refine ⟨_, [], hm, rfl, ⟨by simp, rfl⟩, rfl, ?_⟩
  rw [List.drop_zero, List.take_of_length_le (by simp)]
theorem contP {sz id ver off len : Nat} {own : Bool} {xs : List α} (hm : M id = some (.row own sz (xs.map e))) (hv : ver = xs.length) : (cont sz (.ref id ver off len)).Runs M [id] (((xs.drop off).take len).map e) := by
  subst hv
  refine ⟨_, [], hm, rfl, ⟨by simp, rfl⟩, rfl, ?_⟩
  rw [List.map_take, List.map_drop]
theorem runs_bind {α β : Type} {f : α → Q β} {b : β} : ∀ {q : Q α} {r r' : List Nat} {a : α}, q.Runs M r a → (f a).Runs M r' b → (q.bind f).Runs M (r ++ r') b
  | .ret _, _, _, _, ⟨rfl, rfl⟩, h => h
  | .look id k, _, r', a, ⟨bl, r1, h1, h2, h3⟩, h => by
    subst h2
    exact ⟨bl, r1 ++ r', h1, rfl, runs_bind h3 h⟩
  | .ask p k, _, _, _, ⟨h1, h2⟩, h => ⟨h1, runs_bind h2 h⟩
  | .amb _ _, _, _, _, h, _ => h.elim
  | .fail, _, _, _, h, _ => h.elim
theorem isU8_map (xs : List (BitVec 8)) : (xs.map eU8).all isU8 = true := by
  rw [List.all_eq_true]
  intro x hx
  obtain ⟨y, _, rfl⟩ := List.mem_map.1 hx
  rfl
theorem b2s {x : PV} {rd : List Nat} {xs : List (BitVec 8)} (h : (cont 1 x).Runs M rd (xs.map eU8)) : (opQ s .b2s [x]).Runs M (rd ++ []) (.val (.d (eS xs)) []) := by
  refine runs_bind h ⟨isU8_map xs, rfl, ?_⟩
  rw [toBA_map]; rfl
/-! ### elements -/
theorem iaL {sz : Nat} {xs : List α} {k : IntKind} {i : Int} (dv : α) (h : 0 ≤ i ∧ i < xs.length) : (opQ s (.ia sz) [.d (eL sz e xs), .d (.int k i)]).Runs M [] (.val (.iptr (e (xs.getD i.toNat dv)).cells) []) := by
  refine ⟨⟨h.1, by rw [List.length_map]; exact h.2, rfl⟩, rfl, ?_⟩
  rw [getD_map dv (by omega)]
theorem iaC {sz : Nat} {xs : List α} {k : IntKind} {i : Int} (dv : α) (h : 0 ≤ i ∧ i < xs.length) : (opQ s (.ia sz) [.cut sz (xs.map e), .d (.int k i)]).Runs M [] (.val (.iptr (e (xs.getD i.toNat dv)).cells) []) := by
  refine ⟨⟨h.1, by rw [List.length_map]; exact h.2, rfl⟩, rfl, ?_⟩
  rw [getD_map dv (by omega)]
theorem iaR {sz id ver off len : Nat} {own : Bool} {xs : List α} {k : IntKind} {i : Int} (hm : M id = some (.row own sz (xs.map e))) (hv : ver = xs.length) (h : 0 ≤ i ∧ i < len) : (opQ s (.ia sz) [.ref id ver off len, .d (.int k i)]).Runs M [id] (.val (.rptr id ver (off + i.toNat) 0) []) :=
  ⟨_, [], hm, rfl, ⟨by rw [List.length_map]; exact hv, h.1, h.2, rfl⟩, rfl, rfl⟩
theorem iarr_ptr {n sz id o : Nat} {k : IntKind} {i : Int} (h : 0 ≤ i ∧ i < n) : (opQ s (.iarr n sz) [.ptr id o, .d (.int k i)]).Runs M [] (.val (.ptr id (o + i.toNat * sz)) []) := ⟨h, rfl, rfl⟩
theorem iarr_k {n sz id o : Nat} {k : IntKind} {i : Int} (o' : Nat) (h : 0 ≤ i ∧ i < n) (ho : o + i.toNat * sz = o') : (opQ s (.iarr n sz) [.ptr id o, .d (.int k i)]).Runs M [] (.val (.ptr id o') []) := by
  subst ho; exact ⟨h, rfl, rfl⟩
theorem iarr_1 {n id : Nat} {k : IntKind} {i : Int} (h : 0 ≤ i ∧ i < n) : (opQ s (.iarr n 1) [.ptr id 0, .d (.int k i)]).Runs M [] (.val (.ptr id i.toNat) []) := by
  refine ⟨h, rfl, ?_⟩
  rw [Nat.zero_add, Nat.mul_one]
theorem iarr_rptr {n sz id ver j o : Nat} {k : IntKind} {i : Int} (h : 0 ≤ i ∧ i < n) : (opQ s (.iarr n sz) [.rptr id ver j o, .d (.int k i)]).Runs M [] (.val (.rptr id ver j (o + i.toNat * sz)) []) := ⟨h, rfl, rfl⟩
theorem iarr_iptr {n sz : Nat} {xs : List D} {k : IntKind} {i : Int} (h : 0 ≤ i ∧ i < n) : (opQ s (.iarr n sz) [.iptr xs, .d (.int k i)]).Runs M [] (.val (.iptr (xs.drop (i.toNat * sz))) []) := ⟨h, rfl, rfl⟩
theorem ixA {n : Nat} {xs : List α} {k : IntKind} {i : Int} (dv : α) (h : 0 ≤ i ∧ i < n) (hl : i.toNat < xs.length) : (opQ s (.ix n 1 false) [.d (eA e xs), .d (.int k i)]).Runs M [] (.val (.d (e (xs.getD i.toNat dv))) []) := by
  refine ⟨h, by simp; omega, rfl, ?_⟩
  simp only [partD, Bool.false_eq_true, if_false, Nat.mul_one]
  rw [getD_map dv hl]
theorem fa_ptr {off id o : Nat} : (opQ s (.fa off) [.ptr id o]).Runs M [] (.val (.ptr id (o + off)) []) := ⟨rfl, rfl⟩
theorem fa_rptr {off id ver i o : Nat} : (opQ s (.fa off) [.rptr id ver i o]).Runs M [] (.val (.rptr id ver i (o + off)) []) := ⟨rfl, rfl⟩
theorem fa_k {off id o : Nat} (o' : Nat) (ho : o + off = o') : (opQ s (.fa off) [.ptr id o]).Runs M [] (.val (.ptr id o') []) := by
  subst ho; exact ⟨rfl, rfl⟩
theorem fa_rk {off id ver i o : Nat} (o' : Nat) (ho : o + off = o') : (opQ s (.fa off) [.rptr id ver i o]).Runs M [] (.val (.rptr id ver i o') []) := by
  subst ho; exact ⟨rfl, rfl⟩
theorem fa_iptr {off : Nat} {xs : List D} : (opQ s (.fa off) [.iptr xs]).Runs M [] (.val (.iptr (xs.drop off)) []) := ⟨rfl, rfl⟩
theorem fld_d {off n : Nat} {agg : Bool} {x v : D} {ys : List D} (hx : x = .agg ys) (h : (off + n).ble ys.length = true) (hv : partD agg ys off n = v) : (opQ s (.fld off n agg) [.d x]).Runs M [] (.val (.d v) []) := by
  subst hx hv
  exact ⟨Nat.le_of_ble_eq_true h, rfl, rfl⟩
theorem fld_a {off n : Nat} {agg : Bool} {v : PV} {ys : List PV} (h : (off + n).ble ys.length = true) (hv : partP agg ys off n = v) : (opQ s (.fld off n agg) [.agg ys]).Runs M [] (.val v []) := by
  subst hv
  exact ⟨Nat.le_of_ble_eq_true h, rfl, rfl⟩
/-! ### loads, stores -/
theorem ld_v {n id off : Nat} {agg : Bool} {own : Ow} {ps : List PV} {v : PV} (hm : M id = some (.var own ps)) (h : (off + n).ble ps.length = true) (hv : partP agg ps off n = v) : (opQ s (.load n agg) [.ptr id off]).Runs M [id] (.val v []) := by
  subst hv
  exact ⟨_, [], hm, rfl, Nat.le_of_ble_eq_true h, rfl, rfl⟩
theorem ld_i {n : Nat} {agg : Bool} {xs : List D} {v : D} (h : n.ble xs.length = true) (hv : partD agg xs 0 n = v) : (opQ s (.load n agg) [.iptr xs]).Runs M [] (.val (.d v) []) := by
  subst hv
  exact ⟨Nat.le_of_ble_eq_true h, rfl, rfl⟩
/-- A whole element of a row. -/
theorem ld_r {sz id ver i : Nat} {agg own : Bool} {xs : List α} (dv : α) (hm : M id = some (.row own sz (xs.map e))) (hv : ver = xs.length) (hi : i < xs.length) (ha : isAggD (e (xs.getD i dv)) = agg) : (opQ s (.load sz agg) [.rptr id ver i 0]).Runs M [id] (.val (.d (e (xs.getD i dv))) []) := by
  refine ⟨_, [], hm, rfl, ⟨by rw [List.length_map]; exact hv, by omega⟩, ?_⟩
  simp only [beq_self_eq_true, Bool.and_self]
  rw [getD_map dv hi]
  exact ⟨ha, rfl, rfl⟩
/-- A part of an element of a row. -/
theorem ld_rp {n sz id ver i off : Nat} {agg own : Bool} {xs : List α} {v : D} (dv : α) (hm : M id = some (.row own sz (xs.map e))) (hv : ver = xs.length) (hi : i < xs.length) (hn : (off == 0 && n == sz) = false) (hs : (off + n).ble sz = true) (hl : (off + n).ble (e (xs.getD i dv)).cells.length = true)
    (hw : partD agg (e (xs.getD i dv)).cells off n = v) : (opQ s (.load n agg) [.rptr id ver i off]).Runs M [id] (.val (.d v) []) := by
  subst hw
  refine ⟨_, [], hm, rfl, ⟨by rw [List.length_map]; exact hv, Nat.le_of_ble_eq_true hs⟩, ?_⟩
  simp only [hn]
  rw [getD_map dv hi]
  exact ⟨Nat.le_of_ble_eq_true hl, rfl, rfl⟩
theorem sto_v {n id off : Nat} {own : Ow} {ps ps' : List PV} {y : PV} (hm : M id = some (.var own ps)) (ho : own.w = true) (h : ((off + n).ble ps.length && y.cells.length == n && y.cells.all PV.leafy) = true) (hp : putL ps off y.cells = ps') : (opQ s (.store n) [.ptr id off, y]).Runs M [id] (.val .any [(id, .var own ps')]) := by
  subst hp
  simp only [Bool.and_eq_true, beq_iff_eq] at h
  cases own with
  | ro => simp [Ow.w] at ho
  | mine => exact ⟨_, [], hm, rfl, ⟨Nat.le_of_ble_eq_true h.1.1, h.1.2, h.2⟩, rfl, rfl⟩
  | bor => exact ⟨_, [], hm, rfl, ⟨Nat.le_of_ble_eq_true h.1.1, h.1.2, h.2⟩, rfl, rfl⟩
/-- A whole element of a row. -/
theorem sto_r {sz id ver i : Nat} {xs : List α} {y : α} (hm : M id = some (.row true sz (xs.map e))) (hv : ver = xs.length) (hc : ((e y).cells.length == sz) = true) : (opQ s (.store sz) [.rptr id ver i 0, .d (e y)]).Runs M [id] (.val .any [(id, .row true sz ((xs.set i y).map e))]) := by
  refine ⟨_, [], hm, rfl, ?_⟩
  refine runs_bind (r := []) (a := (e y, [])) ⟨rfl, rfl⟩ ⟨⟨by rw [List.length_map]; exact hv, by omega, by simpa using hc, rfl⟩, ?_⟩
  simp only [beq_self_eq_true, Bool.and_self]
  rw [set_map]
  exact ⟨rfl, rfl⟩
theorem sto_rp {n sz id ver i off : Nat} {xs : List α} {y : D} {x' : α} (dv : α) (hm : M id = some (.row true sz (xs.map e))) (hv : ver = xs.length) (hi : i < xs.length) (hn : (off == 0 && n == sz) = false) (hs : (off + n).ble sz = true) (hc : (y.cells.length == n) = true)
    (hl : ((off + n).ble (e (xs.getD i dv)).cells.length && isAggD (e (xs.getD i dv))) = true) (hx : D.agg (putL (e (xs.getD i dv)).cells off y.cells) = e x') : (opQ s (.store n) [.rptr id ver i off, .d y]).Runs M [id] (.val .any [(id, .row true sz ((xs.set i x').map e))]) := by
  simp only [Bool.and_eq_true] at hl
  refine ⟨_, [], hm, rfl, ?_⟩
  refine runs_bind (r := []) (a := (y, [])) ⟨rfl, rfl⟩ ⟨⟨by rw [List.length_map]; exact hv, Nat.le_of_ble_eq_true hs, by simpa using hc, rfl⟩, ?_⟩
  simp only [hn]
  rw [getD_map dv hi]
  refine ⟨⟨Nat.le_of_ble_eq_true hl.1, hl.2⟩, rfl, ?_⟩
  rw [hx, set_map]
/-! ### arrays of one cell an element, behind a pointer -/
theorem ld_va {id i : Nat} {own : Ow} {xs : List α} (dv : α) (hm : M id = some (.var own (xs.map fun x => .d (e x)))) (hi : i < xs.length) : (opQ s (.load 1 false) [.ptr id i]).Runs M [id] (.val (.d (e (xs.getD i dv))) []) := by
  refine ⟨_, [], hm, rfl, by rw [List.length_map]; omega, rfl, ?_⟩
  simp [partP, List.getD_eq_getElem?_getD, hi]
theorem ld_vA {id n : Nat} {own : Ow} {xs : List α} (hm : M id = some (.var own (xs.map fun x => .d (e x)))) (hn : n = xs.length) : (opQ s (.load n true) [.ptr id 0]).Runs M [id] (.val (.d (eA e xs)) []) := by
  have hall : ∀ l : List α, allD (l.map fun x => PV.d (e x)) = some (l.map e) := by
    intro l
    induction l with
    | nil => rfl
    | cons x l ih => simp only [List.map_cons, allD, ih]
  refine ⟨_, [], hm, rfl, by rw [List.length_map]; omega, rfl, ?_⟩
  simp only [partP, if_true, List.drop_zero]
  rw [List.take_of_length_le (by rw [List.length_map]; omega)]
  simp only [mkAgg, hall, eA]
theorem sto_va {id i : Nat} {own : Ow} {xs : List α} {y : α} (hm : M id = some (.var own (xs.map fun x => .d (e x)))) (ho : own.w = true) (hi : i < xs.length) (hy : ((PV.d (e y)).cells.length == 1 && isAggD (e y) == false) = true) : (opQ s (.store 1) [.ptr id i, .d (e y)]).Runs M [id] (.val .any [(id, .var own ((xs.set i y).map fun x => .d (e x)))]) := by
  simp only [Bool.and_eq_true, beq_iff_eq] at hy
  have hc : (PV.d (e y)).cells = [.d (e y)] := by
    cases h : e y <;> rw [h] at hy <;> first | rfl | (simp [isAggD] at hy)
  have hp : putL (xs.map fun x => PV.d (e x)) i [PV.d (e y)] = (xs.set i y).map fun x => PV.d (e x) := by
    rw [List.map_set]
    simp only [putL, List.length_cons, List.length_nil]
    rw [List.set_eq_take_append_cons_drop, if_pos (by rw [List.length_map]; exact hi)]
    simp
  refine sto_v hm ho ?_ (by rw [hc, hp])
  rw [hc]
  simp only [List.length_map, Bool.and_eq_true, beq_iff_eq]
  exact ⟨⟨Nat.ble_eq_true_of_le (by omega), rfl⟩, rfl⟩
end
end Go.RW

/-! What operations come to, on typed values: slices, appends, building, calls, results. -/
set_option linter.unusedSimpArgs false
set_option linter.unusedVariables false
namespace Go.RW
section
variable {P : Program} {M : MF} {s : Nat} {α : Type} {e : α → D}
/-! ### parts of slices -/
theorem slL_lh {sz : Nat} {xs : List α} {k k' : IntKind} {l h : Int} (hb : 0 ≤ l ∧ l ≤ h ∧ h ≤ xs.length) : (opQ s (.slice sz true true false) [.d (eL sz e xs), .d (.int k l), .d (.int k' h)]).Runs M [] (.val (.d (eL sz e (dropTake l.toNat h.toNat xs))) []) := by
  refine ⟨hb.1, by omega, ⟨by omega, rfl, by rw [List.length_map]; omega, rfl⟩, rfl, ?_⟩
  simp only [Bool.false_eq_true, if_false, dropTake_map, eL]
theorem slL_l {sz : Nat} {xs : List α} {k : IntKind} {l : Int} (hb : 0 ≤ l ∧ l ≤ xs.length) : (opQ s (.slice sz true false false) [.d (eL sz e xs), .d (.int k l)]).Runs M [] (.val (.d (eL sz e (dropTake l.toNat xs.length xs))) []) := by
  refine ⟨hb.1, ⟨by rw [List.length_map]; omega, rfl, Nat.le_refl _, rfl⟩, rfl, ?_⟩
  simp only [Bool.false_eq_true, if_false, dropTake_map, eL, List.length_map]
theorem slL_h {sz : Nat} {xs : List α} {k : IntKind} {h : Int} (hb : 0 ≤ h ∧ h ≤ xs.length) : (opQ s (.slice sz false true false) [.d (eL sz e xs), .d (.int k h)]).Runs M [] (.val (.d (eL sz e (dropTake 0 h.toNat xs))) []) := by
  refine ⟨hb.1, ⟨by omega, rfl, by rw [List.length_map]; omega, rfl⟩, rfl, ?_⟩
  simp only [Bool.false_eq_true, if_false, dropTake_map, eL]
theorem slL_n {sz : Nat} {xs : List α} : (opQ s (.slice sz false false false) [.d (eL sz e xs)]).Runs M [] (.val (.d (eL sz e xs)) []) := by
  refine ⟨⟨by omega, rfl, Nat.le_refl _, rfl⟩, rfl, ?_⟩
  simp only [Bool.false_eq_true, if_false, dropTake, eL, List.drop_zero, Nat.sub_zero]
  rw [List.take_of_length_le (Nat.le_refl _)]
theorem slC_lh {sz : Nat} {xs : List α} {k k' : IntKind} {l h : Int} (hb : 0 ≤ l ∧ l ≤ h ∧ h ≤ xs.length) : (opQ s (.slice sz true true false) [.cut sz (xs.map e), .d (.int k l), .d (.int k' h)]).Runs M [] (.val (.d (eL sz e (dropTake l.toNat h.toNat xs))) []) := by
  refine ⟨hb.1, by omega, ⟨by omega, rfl, by rw [List.length_map]; omega, rfl⟩, rfl, ?_⟩
  simp only [Bool.false_eq_true, if_false, dropTake_map, eL]
theorem slL_cut {sz : Nat} {xs : List α} {k k' : IntKind} {h m : Int} (hb : 0 ≤ h ∧ h = m ∧ m ≤ xs.length) : (opQ s (.slice sz false true true) [.d (eL sz e xs), .d (.int k h), .d (.int k' m)]).Runs M [] (.val (.cut sz ((dropTake 0 h.toNat xs).map e)) []) := by
  obtain ⟨h1, rfl, h3⟩ := hb
  refine ⟨h1, by omega, ⟨by omega, rfl, by rw [List.length_map]; omega, rfl⟩, rfl, ?_⟩
  simp only [if_true, dropTake_map]
theorem slL_cut3 {sz : Nat} {xs : List α} {k k' k'' : IntKind} {l h m : Int} (hb : 0 ≤ l ∧ l ≤ h ∧ h = m ∧ m ≤ xs.length) : (opQ s (.slice sz true true true) [.d (eL sz e xs), .d (.int k l), .d (.int k' h), .d (.int k'' m)]).Runs M [] (.val (.cut sz ((dropTake l.toNat h.toNat xs).map e)) []) := by
  obtain ⟨h1, h2, rfl, h3⟩ := hb
  refine ⟨h1, by omega, by omega, ⟨by omega, rfl, by rw [List.length_map]; omega, rfl⟩, rfl, ?_⟩
  simp only [if_true, dropTake_map]
section
variable {sz id ver off len : Nat} {own : Bool} {ys : List D} {k k' : IntKind} {l h : Int}
theorem slR_lh (hm : M id = some (.row own sz ys)) (hv : ver = ys.length) (hb : 0 ≤ l ∧ l ≤ h ∧ h ≤ len) : (opQ s (.slice sz true true false) [.ref id ver off len, .d (.int k l), .d (.int k' h)]).Runs M [id] (.val (.ref id ver (off + l.toNat) (h.toNat - l.toNat)) []) :=
  ⟨_, [], hm, rfl, hb.1, by omega, ⟨hv, by omega, rfl, by omega, rfl⟩, rfl, rfl⟩
theorem slR_l (hm : M id = some (.row own sz ys)) (hv : ver = ys.length) (hb : 0 ≤ l ∧ l ≤ len) : (opQ s (.slice sz true false false) [.ref id ver off len, .d (.int k l)]).Runs M [id] (.val (.ref id ver (off + l.toNat) (len - l.toNat)) []) :=
  ⟨_, [], hm, rfl, hb.1, ⟨hv, by omega, rfl, Nat.le_refl _, rfl⟩, rfl, rfl⟩
theorem slR_h (hm : M id = some (.row own sz ys)) (hv : ver = ys.length) (hb : 0 ≤ h ∧ h ≤ len) : (opQ s (.slice sz false true false) [.ref id ver off len, .d (.int k h)]).Runs M [id] (.val (.ref id ver (off + 0) (h.toNat - 0)) []) :=
  ⟨_, [], hm, rfl, hb.1, ⟨hv, by omega, rfl, by omega, rfl⟩, rfl, rfl⟩
theorem slR_n (hm : M id = some (.row own sz ys)) (hv : ver = ys.length) : (opQ s (.slice sz false false false) [.ref id ver off len]).Runs M [id] (.val (.ref id ver (off + 0) (len - 0)) []) :=
  ⟨_, [], hm, rfl, ⟨hv, by omega, rfl, Nat.le_refl _, rfl⟩, rfl, rfl⟩
/-- s[:h:h] of a row of the call's own: it is not written any more. -/
theorem slR_cut {xs : List α} {m : Int} (hm : M id = some (.row own sz (xs.map e))) (hv : ver = xs.length) (hb : 0 ≤ h ∧ h = m ∧ m ≤ len) : (opQ s (.slice sz false true true) [.ref id ver off len, .d (.int k h), .d (.int k' m)]).Runs M [id] (.val (.cut sz ((dropTake 0 h.toNat ((xs.drop off).take len)).map e)) [(id, .row false sz (xs.map e))]) := by
  obtain ⟨h1, rfl, h3⟩ := hb
  refine ⟨_, [], hm, rfl, h1, by omega, ⟨by rw [List.length_map]; exact hv, by omega, rfl, by omega, rfl⟩, rfl, ?_⟩
  simp only [if_true]
  rw [← List.map_drop, ← List.map_take, dropTake_map]
end
/-! ### make, append, copy -/
theorem mks1 {sz lim : Nat} {agg : Bool} {zs : List PV} {z : List D} {k k' : IntKind} {n m : Int} (dv : α) (hz : zDs zs = some z) (hd : partD agg z 0 sz = e dv) (h : 0 ≤ n ∧ n ≤ m ∧ m ≤ lim) : (opQ s (.mks sz agg zs lim) [.d (.int k n), .d (.int k' m)]).Runs M [] (.val (.ref s (List.replicate n.toNat dv).length 0 (List.replicate n.toNat dv).length) [(s, .row true sz ((List.replicate n.toNat dv).map e))]) := by
  simp only [opQ, mksQ, hz]
  refine ⟨h, rfl, ?_⟩
  rw [hd, List.map_replicate, List.length_replicate]
section
variable {sz lim : Nat} {ys : List α} {y : PV} {rd : List Nat}
theorem appN0 {z : Nat} (hy : (cont sz y).Runs M rd (ys.map e)) (hl : ys.length ≤ lim) : (opQ s (.app sz lim) [.nil z, y]).Runs M (rd ++ []) (.val (.ref s ys.length 0 ys.length) [(s, .row true sz (ys.map e))]) := by
  refine runs_bind hy ⟨by rw [List.length_map]; exact hl, rfl, ?_⟩
  rw [List.length_map]
theorem coreR {id ver len : Nat} {xs : List α} {ds : List D} (hd : ds = ys.map e) (hm : M id = some (.row true sz (xs.map e))) (hv : ver = xs.length) (hn : len = xs.length) (hl : (xs ++ ys).length ≤ lim) :
    (appCore s sz lim ds (.ref id ver 0 len)).Runs M [id] (.val (.ref id (xs ++ ys).length 0 (xs ++ ys).length) [(id, .row true sz ((xs ++ ys).map e))]) := by
  subst hv hn hd
  rw [List.length_append] at hl
  refine ⟨_, [], hm, rfl, ⟨by simp, rfl, rfl, by rw [List.length_map]; exact hl⟩, ?_⟩
  simp only [beq_self_eq_true]
  refine ⟨rfl, ?_⟩
  rw [List.map_append, List.length_map, List.length_map, List.length_append]
theorem coreN {z : Nat} {ds : List D} (hd : ds = ys.map e) (hl : ys.length ≤ lim) : (appCore s sz lim ds (.nil z)).Runs M [] (.val (.ref s ys.length 0 ys.length) [(s, .row true sz (ys.map e))]) := by
  subst hd
  refine ⟨by rw [List.length_map]; exact hl, rfl, ?_⟩
  rw [List.length_map]
theorem coreC {xs : List α} {ds : List D} (hd : ds = ys.map e) (hy : ys ≠ []) (hl : (xs ++ ys).length ≤ lim) : (appCore s sz lim ds (.cut sz (xs.map e))).Runs M [] (.val (.ref s (xs ++ ys).length 0 (xs ++ ys).length) [(s, .row true sz ((xs ++ ys).map e))]) := by
  subst hd
  have : (ys.map e).isEmpty = false := by
    cases ys with
    | nil => exact absurd rfl hy
    | cons y ys => rfl
  refine ⟨rfl, ?_⟩
  simp only [this]
  rw [List.length_append] at hl
  refine ⟨by rw [List.length_map, List.length_map]; exact hl, rfl, ?_⟩
  rw [List.map_append, List.length_map, List.length_map, List.length_append]
theorem coreC0 {xs : List D} : (appCore s sz lim [] (.cut sz xs)).Runs M [] (.val (.cut sz xs) []) := ⟨rfl, rfl, rfl⟩
theorem appR {id ver len : Nat} {xs : List α} (hy : (cont sz y).Runs M rd (ys.map e)) (hm : M id = some (.row true sz (xs.map e))) (hv : ver = xs.length) (hn : len = xs.length) (hl : (xs ++ ys).length ≤ lim) :
    (opQ s (.app sz lim) [.ref id ver 0 len, y]).Runs M (rd ++ [id]) (.val (.ref id (xs ++ ys).length 0 (xs ++ ys).length) [(id, .row true sz ((xs ++ ys).map e))]) :=
  runs_bind hy (coreR rfl hm hv hn hl)
theorem appC {xs : List α} (hy : (cont sz y).Runs M rd (ys.map e)) (h0 : ys ≠ []) (hl : (xs ++ ys).length ≤ lim) : (opQ s (.app sz lim) [.cut sz (xs.map e), y]).Runs M (rd ++ []) (.val (.ref s (xs ++ ys).length 0 (xs ++ ys).length) [(s, .row true sz ((xs ++ ys).map e))]) :=
  runs_bind hy (coreC rfl h0 hl)
theorem appC0 {xs : List α} (hy : (cont sz y).Runs M rd (ys.map e)) (h0 : ys = []) : (opQ s (.app sz lim) [.cut sz (xs.map e), y]).Runs M (rd ++ []) (.val (.cut sz (xs.map e)) []) := by
  subst h0
  exact runs_bind hy coreC0
/-- A part of a row, longer again: a row of its own. -/
theorem appS {id ver len : Nat} {xs : List α} (hy : (cont sz y).Runs M rd (ys.map e)) (hm : M id = some (.row true sz (xs.map e))) (hv : ver = xs.length) (hn : (len == ver) = false) (hl : len + ys.length ≤ lim) (hle : len ≤ xs.length) :
    (opQ s (.app sz lim) [.ref id ver 0 len, y]).Runs M (rd ++ [id]) (.val (.ref s (len + ys.length) 0 (len + ys.length)) [(s, .row true sz ((xs.take len ++ ys).map e)), (id, .dead)]) := by
  subst hv
  refine runs_bind hy ⟨_, [], hm, rfl, ⟨by simp, rfl, rfl, by rw [List.length_map]; exact hl⟩, ?_⟩
  simp only [hn]
  refine ⟨rfl, ?_⟩
  rw [List.map_append, List.map_take, List.length_map]
end
section
variable {lim : Nat} {t : List (BitVec 8)}
theorem apsN {z : Nat} (hl : t.length ≤ lim) : (opQ s (.apps lim) [.nil z, .d (eS t)]).Runs M [] (.val (.ref s t.length 0 t.length) [(s, .row true 1 (t.map eU8))]) := coreN (z := z) (ofBA_ba t) hl
theorem apsR {id ver len : Nat} {xs : List (BitVec 8)} (hm : M id = some (.row true 1 (xs.map eU8))) (hv : ver = xs.length) (hn : len = xs.length) (hl : (xs ++ t).length ≤ lim) :
    (opQ s (.apps lim) [.ref id ver 0 len, .d (eS t)]).Runs M [id] (.val (.ref id (xs ++ t).length 0 (xs ++ t).length) [(id, .row true 1 ((xs ++ t).map eU8))]) := coreR (ofBA_ba t) hm hv hn hl
end
section
variable {sz lim : Nat} {agg : Bool} {zs : List PV} {z : List D} {k : IntKind} {n : Int}
theorem apzR {id ver len : Nat} {xs : List α} (dv : α) (hz : zDs zs = some z) (hd : partD agg z 0 sz = e dv) (h0 : 0 ≤ n ∧ n.toNat ≤ lim) (hm : M id = some (.row true sz (xs.map e))) (hv : ver = xs.length) (hn : len = xs.length) (hl : (xs ++ List.replicate n.toNat dv).length ≤ lim) :
    (opQ s (.appz sz agg zs lim) [.ref id ver 0 len, .d (.int k n)]).Runs M [id] (.val (.ref id (xs ++ List.replicate n.toNat dv).length 0 (xs ++ List.replicate n.toNat dv).length) [(id, .row true sz ((xs ++ List.replicate n.toNat dv).map e))]) := by
  simp only [opQ, appzQ, hz]
  refine ⟨h0, coreR (ys := List.replicate n.toNat dv) ?_ hm hv hn hl⟩
  rw [hd, List.map_replicate]
theorem apzN {zz : Nat} (dv : α) (hz : zDs zs = some z) (hd : partD agg z 0 sz = e dv) (h0 : 0 ≤ n ∧ n.toNat ≤ lim) (hl : (List.replicate n.toNat dv).length ≤ lim) :
    (opQ s (.appz sz agg zs lim) [.nil zz, .d (.int k n)]).Runs M [] (.val (.ref s (List.replicate n.toNat dv).length 0 (List.replicate n.toNat dv).length) [(s, .row true sz ((List.replicate n.toNat dv).map e))]) := by
  simp only [opQ, appzQ, hz]
  refine ⟨h0, coreN (ys := List.replicate n.toNat dv) ?_ hl⟩
  rw [hd, List.map_replicate]
end
theorem putL_map {xs ys : List α} {off : Nat} : putL (xs.map e) off (ys.map e) = (putL xs off ys).map e := by
  simp [putL, List.map_take, List.map_drop]
theorem cpyR {id ver off len : Nat} {xs ys : List α} {y : PV} {rd : List Nat} (hy : (cont 1 y).Runs M rd (ys.map e)) (hm : M id = some (.row true 1 (xs.map e))) (hv : ver = xs.length) :
    (opQ s .copy [.ref id ver off len, y]).Runs M (rd ++ [id]) (.val (.d (eI (min ys.length len : Nat))) [(id, .row true 1 ((putL xs off (ys.take (min ys.length len))).map e))]) := by
  refine runs_bind hy ⟨_, [], hm, rfl, ⟨by rw [List.length_map]; exact hv, rfl⟩, rfl, ?_⟩
  rw [← List.map_take, putL_map, List.length_map]; rfl
/-! ### building -/
def fillB (zs : List PV) : List (Nat × Nat) → List PV → Option (List PV)
  | [], [] => some zs
  | (off, n) :: ps, x :: xs => if (x.cells.length == n && (off + n).ble zs.length && x.cells.all PV.leafy) = true then fillB (putL zs off x.cells) ps xs else none
  | _, _ => none
theorem fillB_runs : ∀ {ps : List (Nat × Nat)} {zs xs r : List PV}, fillB zs ps xs = some r → (fillD zs ps xs).Runs M [] r
  | [], zs, [], r, h => by simp [fillB] at h; subst h; exact ⟨rfl, rfl⟩
  | [], _, _ :: _, _, h => by simp [fillB] at h
  | _ :: _, _, [], _, h => by simp [fillB] at h
  | (off, n) :: ps, zs, x :: xs, r, h => by
    simp only [fillB] at h
    split at h
    · rename_i hc
      simp only [Bool.and_eq_true, beq_iff_eq] at hc
      exact ⟨⟨hc.1.1, Nat.le_of_ble_eq_true hc.1.2, hc.2⟩, fillB_runs h⟩
    · simp at h
theorem bld {zs xs r : List PV} {parts : List (Nat × Nat)} {v : PV} (h : fillB zs parts xs = some r) (hv : mkAgg r = v) : (opQ s (.build zs parts) xs).Runs M ([] ++ []) (.val v []) :=
  runs_bind (fillB_runs h) ⟨rfl, by rw [hv]⟩
def fillC (sz : Nat) (agg : Bool) : List D → List Nat → List PV → Option (List D)
  | es, [], [] => some es
  | es, i :: is, .d x :: xs => if (isAggD x == agg && x.cells.length == sz && decide (i < es.length)) = true then fillC sz agg (es.set i x) is xs else none
  | _, _, _ => none
theorem fillC_runs {sz : Nat} {agg : Bool} : ∀ {is : List Nat} {es : List D} {xs : List PV} {r : List D}, fillC sz agg es is xs = some r → (fillE sz agg es is xs).Runs M [] (r, [])
  | [], es, [], r, h => by simp [fillC] at h; subst h; exact ⟨rfl, rfl⟩
  | [], _, _ :: _, _, h => by simp [fillC] at h
  | _ :: _, _, [], _, h => by simp [fillC] at h
  | i :: is, es, .d x :: xs, r, h => by
    simp only [fillC] at h
    split at h
    · rename_i hc
      simp only [Bool.and_eq_true, beq_iff_eq, decide_eq_true_eq] at hc
      unfold fillE
      refine runs_bind (r := []) (a := (x, [])) (runs_bind (r := []) (r' := []) (a := (x, [])) ⟨rfl, rfl⟩ ⟨hc.1.1, rfl, rfl⟩) ⟨⟨hc.1.2, hc.2⟩, ?_⟩
      exact runs_bind (r := []) (r' := []) (a := (r, [])) (fillC_runs h) ⟨rfl, rfl⟩
    · simp at h
theorem bsl {sz n : Nat} {agg : Bool} {zs xs : List PV} {ix : List Nat} {z r : List D} {ys : List α} (hz : zDs zs = some z) (h : fillC sz agg (List.replicate n (partD agg z 0 sz)) ix xs = some r) (hr : r = ys.map e) :
    (opQ s (.bslice sz agg n zs ix) xs).Runs M ([] ++ []) (.val (.ref s ys.length 0 ys.length) [(s, .row true sz (ys.map e))]) := by
  simp only [opQ, bsliceQ, hz]
  subst hr
  refine runs_bind (fillC_runs h) ⟨rfl, ?_⟩
  simp only [List.length_map]
theorem fe_nil {sz : Nat} {agg : Bool} {es : List D} : (fillE sz agg es [] []).Runs M [] (es, []) := ⟨rfl, rfl⟩
theorem fe_cons {sz i : Nat} {agg : Bool} {es es' : List D} {is : List Nat} {x : PV} {xs : List PV} {y : D} {rd rd' : List Nat} {fz fz' : Mem Blk} (hx : (toD x).Runs M rd (y, fz)) (hc : (isAggD y == agg && y.cells.length == sz && decide (i < es.length)) = true) (h : (fillE sz agg (es.set i y) is xs).Runs M rd' (es', fz')) :
    (fillE sz agg es (i :: is) (x :: xs)).Runs M ((rd ++ []) ++ (rd' ++ [])) (es', fz ++ fz') := by
  simp only [Bool.and_eq_true, beq_iff_eq, decide_eq_true_eq] at hc
  unfold fillE
  refine runs_bind (a := (y, fz)) (runs_bind (f := fun r : D × Mem Blk => Q.ask (isAggD r.1 = agg) (.ret r)) hx ⟨hc.1.1, rfl, rfl⟩) ⟨⟨hc.1.2, hc.2⟩, ?_⟩
  exact runs_bind (f := fun s : List D × Mem Blk => Q.ret ((s.1, fz ++ s.2) : List D × Mem Blk)) h ⟨rfl, rfl⟩
/-- A slice literal whose parts are frozen. -/
theorem bslF {sz n : Nat} {agg : Bool} {zs xs : List PV} {ix : List Nat} {z r : List D} {ys : List α} {rd : List Nat} {fz : Mem Blk} (hz : zDs zs = some z) (h : (fillE sz agg (List.replicate n (partD agg z 0 sz)) ix xs).Runs M rd (r, fz)) (hr : r = ys.map e) :
    (opQ s (.bslice sz agg n zs ix) xs).Runs M (rd ++ []) (.val (.ref s ys.length 0 ys.length) ((s, .row true sz (ys.map e)) :: fz)) := by
  simp only [opQ, bsliceQ, hz]
  subst hr
  refine runs_bind h ⟨rfl, ?_⟩
  simp only [List.length_map]
theorem nsl {sz : Nat} (e : α → D) : (opQ s (.nslice sz) []).Runs M [] (.val (.cut sz (([] : List α).map e)) []) := ⟨rfl, rfl⟩
theorem bx {x : PV} {ps : List PV} (hc : x.cells = ps) (hl : ps.all PV.leafy = true) : (opQ s .box [x]).Runs M [] (.val (.ptr s 0) [(s, .var .mine ps)]) := by
  subst hc; exact ⟨hl, rfl, rfl⟩
theorem alc {zs : List PV} : (opQ s (.alloc zs) []).Runs M [] (.val (.ptr s 0) [(s, .var .mine zs)]) := ⟨rfl, rfl⟩
theorem alcA {zs : List PV} {xs : List α} (hz : zs = xs.map fun x => .d (e x)) : (opQ s (.alloc zs) []).Runs M [] (.val (.ptr s 0) [(s, .var .mine (xs.map fun x => .d (e x)))]) := by
  subst hz; exact ⟨rfl, rfl⟩
theorem extr {i : Nat} {ps : List PV} {v : PV} (h : (decide (i < ps.length)) = true) (hv : ps.getD i .any = v) : (opQ s (.ext i) [.tup ps]).Runs M [] (.val v []) := by
  subst hv; exact ⟨of_decide_eq_true h, rfl, rfl⟩
theorem mkfn {f : FuncId} {caps : List PV} (h : caps.all (fun | .ptr _ 0 => true | _ => false) = true) : (opQ s (.mkf f) caps).Runs M [] (.val (.clo f caps) []) := ⟨h, rfl, rfl⟩
/-! ### values that are not written any more -/
theorem ds_nil : (toDs []).Runs M [] ([], []) := ⟨rfl, rfl⟩
section
variable {ps : List PV} {rd : List Nat} {xs : List D} {fz : Mem Blk}
theorem ds_d (x : D) (h : (toDs ps).Runs M rd (xs, fz)) : (toDs (.d x :: ps)).Runs M rd (x :: xs, fz) := by
  have := runs_bind (r := []) (a := (x, ([] : Mem Blk))) (f := fun r => (toDs ps).bind fun s => Q.ret (r.1 :: s.1, r.2 ++ s.2)) (M := M) (q := .ret (x, [])) ⟨rfl, rfl⟩ (runs_bind h ⟨rfl, rfl⟩)
  simpa [toDs] using this
theorem ds_n (e : α → D) {sz : Nat} (h : (toDs ps).Runs M rd (xs, fz)) : (toDs (.nil sz :: ps)).Runs M rd (eL sz e [] :: xs, fz) := by
  have := runs_bind (r := []) (a := (eL sz e [], ([] : Mem Blk))) (f := fun r => (toDs ps).bind fun s => Q.ret (r.1 :: s.1, r.2 ++ s.2)) (M := M) (q := .ret (.sl sz [], [])) ⟨rfl, rfl⟩ (runs_bind h ⟨rfl, rfl⟩)
  simpa [toDs] using this
theorem ds_c {sz : Nat} {ys : List α} (h : (toDs ps).Runs M rd (xs, fz)) : (toDs (.cut sz (ys.map e) :: ps)).Runs M rd (eL sz e ys :: xs, fz) := by
  have := runs_bind (r := []) (a := (eL sz e ys, ([] : Mem Blk))) (f := fun r => (toDs ps).bind fun s => Q.ret (r.1 :: s.1, r.2 ++ s.2)) (M := M) (q := .ret (.sl sz (ys.map e), [])) ⟨rfl, rfl⟩ (runs_bind h ⟨rfl, rfl⟩)
  simpa [toDs] using this
theorem ds_r {sz id ver len : Nat} {own : Bool} {ys : List α} (hm : M id = some (.row own sz (ys.map e))) (hv : ver = ys.length) (hl : len = ys.length) (h : (toDs ps).Runs M rd (xs, fz)) : (toDs (.ref id ver 0 len :: ps)).Runs M ([id] ++ rd) (eL sz e ys :: xs, (id, .row false sz (ys.map e)) :: fz) := by
  subst hv hl
  unfold toDs
  refine runs_bind (a := (eL sz e ys, [(id, .row false sz (ys.map e))])) ⟨_, [], hm, rfl, by simp, rfl, ?_⟩ ?_
  · rw [List.drop_zero, List.take_of_length_le (by simp)]; rfl
  · have := runs_bind (f := fun s => Q.ret (eL sz e ys :: s.1, [(id, Blk.row false sz (ys.map e))] ++ s.2)) h ⟨rfl, rfl⟩
    rw [List.append_nil] at this
    exact this
theorem ds_p {sz id ver off len : Nat} {own : Bool} {ys : List α} (hm : M id = some (.row own sz (ys.map e))) (hv : ver = ys.length) (h : (toDs ps).Runs M rd (xs, fz)) : (toDs (.ref id ver off len :: ps)).Runs M ([id] ++ rd) (eL sz e ((ys.drop off).take len) :: xs, (id, .row false sz (ys.map e)) :: fz) := by
  subst hv
  unfold toDs
  refine runs_bind (a := (eL sz e ((ys.drop off).take len), [(id, .row false sz (ys.map e))])) ⟨_, [], hm, rfl, by simp, rfl, ?_⟩ ?_
  · simp only [eL, List.map_take, List.map_drop]
  · have := runs_bind (f := fun s => Q.ret (eL sz e ((ys.drop off).take len) :: s.1, [(id, Blk.row false sz (ys.map e))] ++ s.2)) h ⟨rfl, rfl⟩
    rw [List.append_nil] at this
    exact this
theorem fs_nil : (toFs []).Runs M [] ([], []) := ⟨rfl, rfl⟩
theorem fs_1 {id : Nat} {o : Ow} {qs : List PV} {rd' : List Nat} {ys : List D} {fz' : Mem Blk} (hm : M id = some (.var o qs)) (ho : (match o with | .bor => false | _ => true) = true) (hq : (toDs qs).Runs M rd' (ys, fz')) (h : (toFs ps).Runs M rd (xs, fz)) :
    (toFs (.ptr id 0 :: ps)).Runs M ((id :: rd') ++ rd) (.agg ys :: xs, ((id, .var .ro (ys.map .d)) :: fz') ++ fz) := by
  have h1 := runs_bind (f := fun r : List D × Mem Blk => Q.ret ((D.agg r.1, (id, Blk.var .ro (r.1.map .d)) :: r.2) : D × Mem Blk)) hq ⟨rfl, rfl⟩
  rw [List.append_nil] at h1
  have h2 : (Q.look id fun b => match b with
          | .var .bor _ => .fail
          | .var _ qs => (toDs qs).bind fun r => .ret ((D.agg r.1, (id, Blk.var .ro (r.1.map .d)) :: r.2) : D × Mem Blk)
          | _ => .fail).Runs M (id :: rd') (.agg ys, (id, .var .ro (ys.map .d)) :: fz') := by
    refine ⟨_, rd', hm, rfl, ?_⟩
    cases o with
    | bor => simp at ho
    | mine => exact h1
    | ro => exact h1
  have := runs_bind (f := fun r : D × Mem Blk => (toFs ps).bind fun s => Q.ret ((r.1 :: s.1, r.2 ++ s.2) : List D × Mem Blk)) h2 (runs_bind h ⟨rfl, rfl⟩)
  simp only [List.append_nil] at this
  exact this
theorem to_clo {f : FuncId} (h : (toFs ps).Runs M rd (xs, fz)) : (toD (.clo f ps)).Runs M (rd ++ []) (.fn f xs, fz) := runs_bind h ⟨rfl, rfl⟩
/-- One value. -/
theorem to_d (x : D) : (toD (.d x)).Runs M [] (x, []) := ⟨rfl, rfl⟩
theorem to_1 {p : PV} {x : D} (hp : (match p with | .d _ | .agg _ | .clo .. => false | _ => true) = true) (h : (toDs [p]).Runs M rd ([x], fz)) : (toD p).Runs M (rd ++ []) (x, fz) := by
  cases p <;> first | (simp at hp; done) | exact runs_bind h ⟨rfl, rfl⟩
theorem to_agg (h : (toDs ps).Runs M rd (xs, fz)) {x : D} (hx : D.agg xs = x) : (toD (.agg ps)).Runs M (rd ++ []) (x, fz) := by
  subst hx; exact runs_bind h ⟨rfl, rfl⟩
end
/-! ### arguments -/
theorem ar_nil : (argQ []).Runs M [] ([], [], []) := ⟨rfl, rfl⟩
section
variable {ps : List PV} {rd rd' : List Nat} {aps : List AP} {ids : List (Nat × Ow)} {fz fz' : Mem Blk}
theorem ar_d (x : D) (h : (argQ ps).Runs M rd (aps, ids, fz)) : (argQ (.d x :: ps)).Runs M rd (.d x :: aps, ids, fz) := by
  have := runs_bind (f := fun s => Q.ret ((AP.d x :: s.1, s.2.1, s.2.2) : List AP × List (Nat × Ow) × Mem Blk)) h ⟨rfl, rfl⟩
  rw [List.append_nil] at this
  exact this
theorem ar_to {p : PV} {x : D} (hp : (match p with | .ptr _ _ | .iptr _ => false | _ => true) = true) (hx : (toD p).Runs M rd' (x, fz')) (h : (argQ ps).Runs M rd (aps, ids, fz)) : (argQ (p :: ps)).Runs M (rd' ++ rd) (.d x :: aps, ids, fz' ++ fz) := by
  have h1 := runs_bind (f := fun r : D × Mem Blk => Q.ret ((AP.d r.1, [], r.2) : AP × List (Nat × Ow) × Mem Blk)) hx ⟨rfl, rfl⟩
  have := runs_bind (f := fun r : AP × List (Nat × Ow) × Mem Blk => (argQ ps).bind fun s => Q.ret ((r.1 :: s.1, r.2.1 ++ s.2.1, r.2.2 ++ s.2.2) : List AP × List (Nat × Ow) × Mem Blk)) h1 (runs_bind h ⟨rfl, rfl⟩)
  simp only [List.append_nil] at this
  cases p <;> first | (simp at hp; done) | exact this
theorem ar_p {id : Nat} {o : Ow} {qs : List PV} {xs : List D} (hm : M id = some (.var o qs)) (ho : o.w = true) (hq : (toDs qs).Runs M rd' (xs, fz')) (h : (argQ ps).Runs M rd (aps, ids, fz)) : (argQ (.ptr id 0 :: ps)).Runs M ((id :: rd') ++ rd) (.p xs :: aps, (id, o) :: ids, fz' ++ fz) := by
  have h1 := runs_bind (f := fun r : List D × Mem Blk => Q.ret ((AP.p r.1, [(id, o)], r.2) : AP × List (Nat × Ow) × Mem Blk)) hq ⟨rfl, rfl⟩
  rw [List.append_nil] at h1
  have h2 : (Q.look id fun b => match b with
          | .var .ro qs => (toDs qs).bind fun r => .ret ((AP.ip r.1, [], r.2) : AP × List (Nat × Ow) × Mem Blk)
          | .var o qs => (toDs qs).bind fun r => .ret (.p r.1, [(id, o)], r.2)
          | _ => .fail).Runs M (id :: rd') (AP.p xs, [(id, o)], fz') := by
    refine ⟨_, rd', hm, rfl, ?_⟩
    cases o with
    | ro => simp [Ow.w] at ho
    | mine => exact h1
    | bor => exact h1
  have := runs_bind (f := fun r : AP × List (Nat × Ow) × Mem Blk => (argQ ps).bind fun s => Q.ret ((r.1 :: s.1, r.2.1 ++ s.2.1, r.2.2 ++ s.2.2) : List AP × List (Nat × Ow) × Mem Blk)) h2 (runs_bind h ⟨rfl, rfl⟩)
  simp only [List.append_nil] at this
  exact this
theorem ar_ip {id : Nat} {qs : List PV} {xs : List D} (hm : M id = some (.var .ro qs)) (hq : (toDs qs).Runs M rd' (xs, fz')) (h : (argQ ps).Runs M rd (aps, ids, fz)) : (argQ (.ptr id 0 :: ps)).Runs M ((id :: rd') ++ rd) (.ip xs :: aps, ids, fz' ++ fz) := by
  have h1 := runs_bind (f := fun r : List D × Mem Blk => Q.ret ((AP.ip r.1, [], r.2) : AP × List (Nat × Ow) × Mem Blk)) hq ⟨rfl, rfl⟩
  rw [List.append_nil] at h1
  have h2 : (Q.look id fun b => match b with
          | .var .ro qs => (toDs qs).bind fun r => .ret ((AP.ip r.1, [], r.2) : AP × List (Nat × Ow) × Mem Blk)
          | .var o qs => (toDs qs).bind fun r => .ret (.p r.1, [(id, o)], r.2)
          | _ => .fail).Runs M (id :: rd') (AP.ip xs, [], fz') := ⟨_, rd', hm, rfl, h1⟩
  have := runs_bind (f := fun r : AP × List (Nat × Ow) × Mem Blk => (argQ ps).bind fun s => Q.ret ((r.1 :: s.1, r.2.1 ++ s.2.1, r.2.2 ++ s.2.2) : List AP × List (Nat × Ow) × Mem Blk)) h2 (runs_bind h ⟨rfl, rfl⟩)
  simp only [List.append_nil] at this
  exact this
theorem ar_i (xs : List D) (h : (argQ ps).Runs M rd (aps, ids, fz)) : (argQ (.iptr xs :: ps)).Runs M rd (.ip xs :: aps, ids, fz) := by
  have := runs_bind (f := fun s => Q.ret ((AP.ip xs :: s.1, s.2.1, s.2.2) : List AP × List (Nat × Ow) × Mem Blk)) h ⟨rfl, rfl⟩
  rw [List.append_nil] at this
  exact this
end
/-! ### calls -/
section
variable {f : FuncId} {esc : Bool} {args : List PV} {rd : List Nat} {aps : List AP} {ids : List (Nat × Ow)} {fz : Mem Blk} {outs : List (List D)} {r v : PV} {mr u : Mem Blk}
def callOut (site : Nat) (esc : Bool) (ids : List (Nat × Ow)) (fz : Mem Blk) (outs : List (List D)) (r : PV) (mr : Mem Blk) : PV × Mem Blk :=
  if !esc && r.flat && ids.isEmpty then (r, [])
  else (r.ren (· + site), (mr.map fun x => (x.1 + site, x.2.ren (· + site))) ++ (((ids.zip outs).map fun x => (x.1.1, .var x.1.2 (x.2.map .d))) ++ fz))
theorem call_ok (ha : (argQ args).Runs M rd (aps, ids, fz)) (hn : (nodupB (ids.map (·.1)) && ids.all (fun x => (fz.get x.1).isNone)) = true) (hc : CallOK P f aps outs r mr) (hv : callOut s esc ids fz outs r mr = (v, u)) : OpOK P (opQ s (.call f esc) args) M (rd ++ []) v u := by
  simp only [Bool.and_eq_true] at hn
  have hnd : (ids.map (·.1)).Nodup := by
    have : ∀ l : List Nat, nodupB l = true → l.Nodup := by
      intro l
      induction l with
      | nil => intro _; simp
      | cons x l ih =>
        intro h
        simp only [nodupB, Bool.and_eq_true, Bool.not_eq_true'] at h
        refine List.nodup_cons.2 ⟨fun hx => ?_, ih h.2⟩
        rw [← List.contains_iff_mem] at hx
        rw [h.1] at hx; simp at hx
    exact this _ hn.1
  refine ⟨_, runs_bind ha ⟨⟨hnd, hn.2⟩, rfl, rfl⟩, outs, r, mr, hc, ?_⟩
  have e : (if (!esc && r.flat && ids.isEmpty) = true then (r, []) else (r.ren (· + s), (mr.map fun x => (x.1 + s, x.2.ren (· + s))) ++ (((ids.zip outs).map fun x => (x.1.1, Blk.var x.1.2 (x.2.map .d))) ++ fz))) = (v, u) := hv
  exact ⟨(congrArg Prod.fst e).symm, (congrArg Prod.snd e).symm⟩
theorem callv_clo {caps : List PV} (hcp : caps.all (fun | .ptr _ 0 => true | _ => false) = true) (h : OpOK P (opQ s (.call f esc) (args ++ caps)) M rd v u) : OpOK P (opQ s (.callv esc) (.clo f caps :: args)) M rd v u := by
  obtain ⟨res, h1, h2⟩ := h
  exact ⟨res, ⟨hcp, h1⟩, h2⟩
theorem callv_fn {caps : List D} (h : OpOK P (opQ s (.call f esc) (args ++ caps.map fun x => .iptr x.cells)) M rd v u) : OpOK P (opQ s (.callv esc) (.d (.fn f caps) :: args)) M rd v u := h
end
/-! ### results -/
theorem end_ok {rr : List RR} {m : Nat} {outs outs' : List (List D)} {r : PV} {mr mem lifts fz fz2 : Mem Blk} {ex : Exit} {n : Nat} {env : Mem PV} {rd rd1 rd2 : List Nat} {vs vals : List PV} (he : (match ex with | .normal => True | .ret => True | _ => False)) (hr : (resQ env rr).Runs (mf mem) rd vs)
    (hq : (endQ n (comps r) vs).Runs (mf mem) rd1 (vals, lifts, fz)) (ho : (outQ m 0).Runs (mf mem) rd2 (outs', fz2)) (hk : EndOK r mr outs mem vals lifts (fz ++ fz2) outs') : endG rr m outs r mr ex n env mem :=
  ⟨he, (runs_bind (f := fun vs => (endQ n (comps r) vs).bind fun x => (outQ m 0).bind fun y => .ret (x, y)) hr (runs_bind (f := fun x => (outQ m 0).bind fun y => .ret (x, y)) hq (runs_bind (f := fun y => .ret ((vals, lifts, fz), y)) ho ⟨rfl, rfl⟩))).wp hk⟩
theorem rs_nil {env : Mem PV} : (resQ env []).Runs M [] [] := ⟨rfl, rfl⟩
theorem rs_t {env : Mem PV} {i : Nat} {rr : List RR} {rd : List Nat} {vs : List PV} {v : PV} (hv : envE env i = v) (h : (resQ env rr).Runs M rd vs) : (resQ env (.t i :: rr)).Runs M (rd ++ []) (v :: vs) := by
  subst hv; exact runs_bind h ⟨rfl, rfl⟩
theorem rs_c {env : Mem PV} {a n id off : Nat} {agg : Bool} {own : Ow} {rr : List RR} {rd : List Nat} {vs ps : List PV} {v : PV} (ha : envE env a = .ptr id off) (hm : M id = some (.var own ps)) (hn : (off + n).ble ps.length = true) (hv : partP agg ps off n = v) (h : (resQ env rr).Runs M rd vs) : (resQ env (.c a n agg :: rr)).Runs M (id :: (rd ++ [])) (v :: vs) := by
  subst hv
  simp only [resQ, ha]
  exact ⟨_, _, hm, rfl, Nat.le_of_ble_eq_true hn, runs_bind h ⟨rfl, rfl⟩⟩
section
variable {n : Nat} {rs vs vals : List PV} {rd rd' : List Nat} {lifts fz fz' : Mem Blk}
theorem en_nil : (endQ n [] []).Runs M [] ([], [], []) := ⟨rfl, rfl⟩
theorem en_ref {i a b c i' a' b' c' : Nat} (h : (endQ (n + 1) rs vs).Runs M rd (vals, lifts, fz)) : (endQ n (.ref i a b c :: rs) (.ref i' a' b' c' :: vs)).Runs M rd (.ref i' a' b' c' :: vals, lifts, fz) := by
  have := runs_bind (f := fun b => Q.ret ((PV.ref i' a' b' c' :: b.1, b.2.1, b.2.2) : List PV × Mem Blk × Mem Blk)) h ⟨rfl, rfl⟩
  rw [List.append_nil] at this; exact this
theorem en_nilr {i a b c sz : Nat} (h : (endQ (n + 1) rs vs).Runs M rd (vals, lifts, fz)) : (endQ n (.ref i a b c :: rs) (.nil sz :: vs)).Runs M rd (.ref n 0 0 0 :: vals, (n, .row true sz []) :: lifts, fz) := by
  have := runs_bind (f := fun b => Q.ret ((PV.ref n 0 0 0 :: b.1, [(n, Blk.row true sz [])] ++ b.2.1, b.2.2) : List PV × Mem Blk × Mem Blk)) h ⟨rfl, rfl⟩
  rw [List.append_nil] at this; exact this
theorem en_agg {ps qs : List PV} (h : (endQ (n + 1) rs vs).Runs M rd (vals, lifts, fz)) : (endQ n (.agg ps :: rs) (.agg qs :: vs)).Runs M rd (.agg qs :: vals, lifts, fz) := by
  have := runs_bind (f := fun b => Q.ret ((PV.agg qs :: b.1, b.2.1, b.2.2) : List PV × Mem Blk × Mem Blk)) h ⟨rfl, rfl⟩
  rw [List.append_nil] at this; exact this
theorem en_d {x y : D} {v : PV} (hv : (toD v).Runs M rd' (y, fz')) (h : (endQ (n + 1) rs vs).Runs M rd (vals, lifts, fz)) : (endQ n (.d x :: rs) (v :: vs)).Runs M (rd' ++ rd) (.d y :: vals, lifts, fz' ++ fz) := by
  have h1 := runs_bind (f := fun r : D × Mem Blk => Q.ret ((PV.d r.1, [], r.2) : PV × Mem Blk × Mem Blk)) hv ⟨rfl, rfl⟩
  have := runs_bind (f := fun r : PV × Mem Blk × Mem Blk => (endQ (n + 1) rs vs).bind fun s => Q.ret ((r.1 :: s.1, r.2.1 ++ s.2.1, r.2.2 ++ s.2.2) : List PV × Mem Blk × Mem Blk)) h1 (runs_bind h ⟨rfl, rfl⟩)
  simp only [List.append_nil] at this
  exact this
theorem ou_nil {k : Nat} : (outQ 0 k).Runs M [] ([], []) := ⟨rfl, rfl⟩
theorem ou_1 {m k : Nat} {ps : List PV} {xs : List D} {os : List (List D)} (hm : M k = some (.var .bor ps)) (hq : (toDs ps).Runs M rd' (xs, fz')) (h : (outQ m (k + 1)).Runs M rd (os, fz)) : (outQ (m + 1) k).Runs M (k :: (rd' ++ rd)) (xs :: os, fz' ++ fz) := by
  have := runs_bind (f := fun r : List D × Mem Blk => (outQ m (k + 1)).bind fun s => Q.ret ((r.1 :: s.1, r.2 ++ s.2) : List (List D) × Mem Blk)) hq (runs_bind (f := fun s => Q.ret ((xs :: s.1, fz' ++ s.2) : List (List D) × Mem Blk)) h ⟨rfl, rfl⟩)
  rw [List.append_nil] at this
  exact ⟨_, _, hm, rfl, this⟩
end
end
theorem en_ptr {n a b a' b' : Nat} {rs vs vals : List PV} {rd : List Nat} {lifts fz : Mem Blk} {M : MF} (h : (endQ (n + 1) rs vs).Runs M rd (vals, lifts, fz)) : (endQ n (.ptr a b :: rs) (.ptr a' b' :: vs)).Runs M rd (.ptr a' b' :: vals, lifts, fz) := by
  have := runs_bind (f := fun b => Q.ret ((PV.ptr a' b' :: b.1, b.2.1, b.2.2) : List PV × Mem Blk × Mem Blk)) h ⟨rfl, rfl⟩
  rw [List.append_nil] at this; exact this
theorem refEq {a a' b b' c c' d d' : Nat} (h1 : a = a') (h2 : b = b') (h3 : c = c') (h4 : d = d') : PV.ref a b c d = PV.ref a' b' c' d' := by subst h1 h2 h3 h4; rfl
theorem map_ne {α : Type} {e : α → D} {xs : List α} (h : xs ≠ []) : xs.map e ≠ [] := by
  cases xs with
  | nil => exact absurd rfl h
  | cons x xs => simp
theorem isE {α : Type} {xs : List α} (h : xs.isEmpty = true) : xs = [] := by simpa using h
theorem isNE {α : Type} {xs : List α} (h : xs.isEmpty = false) : xs ≠ [] := by
  intro e; subst e; simp at h
section
variable {M : MF} {s : Nat} {α : Type} {e : α → D}
theorem eqn_nil {neg : Bool} (sz : Nat) : (opQ s (.eqn neg) [.nil sz]).Runs M [] (.val (.d (.bool !neg)) []) := ⟨rfl, rfl⟩
theorem ix_d {n sz : Nat} {agg : Bool} {x v : D} {ys : List D} {k : IntKind} {i : Int} (hx : x = .agg ys) (h : 0 ≤ i ∧ i < n) (hl : (i.toNat * sz + sz).ble ys.length = true) (hv : partD agg ys (i.toNat * sz) sz = v) : (opQ s (.ix n sz agg) [.d x, .d (.int k i)]).Runs M [] (.val (.d v) []) := by
  subst hx hv
  exact ⟨h, Nat.le_of_ble_eq_true hl, rfl, rfl⟩
theorem slR_n0 {sz id ver off len : Nat} {own : Bool} {ys : List D} (hm : M id = some (.row own sz ys)) (hv : ver = ys.length) : (opQ s (.slice sz false false false) [.ref id ver off len]).Runs M [id] (.val (.ref id ver off len) []) :=
  ⟨_, [], hm, rfl, ⟨hv, by omega, rfl, Nat.le_refl _, rfl⟩, rfl, by simp⟩
theorem cvtS8 (x : BitVec 8) : (opQ s (.cvt .u8) [.d (eU8 x)]).Runs M [] (.val (.d (eU8 x)) []) := ⟨rfl, by rw [wrap_u8, ofInt8]; rfl⟩
theorem cvtS16 (x : BitVec 16) : (opQ s (.cvt .u16) [.d (eU16 x)]).Runs M [] (.val (.d (eU16 x)) []) := ⟨rfl, by rw [wrap_u16, ofInt16]; rfl⟩
theorem cvtS32 (x : BitVec 32) : (opQ s (.cvt .u32) [.d (eU32 x)]).Runs M [] (.val (.d (eU32 x)) []) := ⟨rfl, by rw [wrap_u32, ofInt32]; rfl⟩
theorem cvtS64 (x : BitVec 64) : (opQ s (.cvt .u64) [.d (eU64 x)]).Runs M [] (.val (.d (eU64 x)) []) := ⟨rfl, by rw [wrap_u64, ofInt64]; rfl⟩
/-- A whole element that is frozen as it is stored. -/
theorem sto_rf {sz id ver i : Nat} {xs : List α} {y : α} {p : PV} {rd : List Nat} {fz : Mem Blk} (hm : M id = some (.row true sz (xs.map e))) (hv : ver = xs.length) (hp : (toD p).Runs M rd (e y, fz)) (hc : ((e y).cells.length == sz) = true) (hf : (fz.get id).isNone = true) :
    (opQ s (.store sz) [.rptr id ver i 0, p]).Runs M (id :: (rd ++ [])) (.val .any ((id, .row true sz ((xs.set i y).map e)) :: fz)) := by
  refine ⟨_, rd ++ [], hm, rfl, ?_⟩
  refine runs_bind (a := (e y, fz)) hp ⟨⟨by rw [List.length_map]; exact hv, by omega, by simpa using hc, by simpa using hf⟩, ?_⟩
  simp only [beq_self_eq_true, Bool.and_self]
  rw [set_map]
  exact ⟨rfl, rfl⟩
theorem sto_rpf {n sz id ver i off : Nat} {xs : List α} {y : D} {x' : α} {p : PV} {rd : List Nat} {fz : Mem Blk} (dv : α) (hm : M id = some (.row true sz (xs.map e))) (hv : ver = xs.length) (hi : i < xs.length) (hn : (off == 0 && n == sz) = false) (hs : (off + n).ble sz = true) (hc : (y.cells.length == n) = true)
    (hl : ((off + n).ble (e (xs.getD i dv)).cells.length && isAggD (e (xs.getD i dv))) = true) (hx : D.agg (putL (e (xs.getD i dv)).cells off y.cells) = e x') (hp : (toD p).Runs M rd (y, fz)) (hf : (fz.get id).isNone = true) :
    (opQ s (.store n) [.rptr id ver i off, p]).Runs M (id :: (rd ++ [])) (.val .any ((id, .row true sz ((xs.set i x').map e)) :: fz)) := by
  simp only [Bool.and_eq_true] at hl
  refine ⟨_, rd ++ [], hm, rfl, ?_⟩
  refine runs_bind (a := (y, fz)) hp ⟨⟨by rw [List.length_map]; exact hv, Nat.le_of_ble_eq_true hs, by simpa using hc, by simpa using hf⟩, ?_⟩
  simp only [hn]
  rw [getD_map dv hi]
  refine ⟨⟨Nat.le_of_ble_eq_true hl.1, hl.2⟩, rfl, ?_⟩
  rw [hx, set_map]
end
/-- The contract's end. -/
theorem eok {r : PV} {mr : Mem Blk} {outs outs' : List (List D)} {mem : Mem Blk} {vals : List PV} {lifts fz : Mem Blk} (h1 : outs' = outs) (h2 : nodupB ((keys mr).map (appN (rhoR (comps r) vals ++ rhoM (lifts ++ (fz ++ mem)) (rhoR (comps r) vals) mr))) = true)
    (h3 : vals = PV.renL (appN (rhoR (comps r) vals ++ rhoM (lifts ++ (fz ++ mem)) (rhoR (comps r) vals) mr)) (comps r)) (h4 : allIn mr (PV.refsL (comps r)) = true)
    (h5 : retM (appN (rhoR (comps r) vals ++ rhoM (lifts ++ (fz ++ mem)) (rhoR (comps r) vals) mr)) (lifts ++ (fz ++ mem)) mr mr) : EndOK r mr outs mem vals lifts fz outs' := ⟨h1, h2, ⟨h3, h4⟩, h5⟩
/-! ### equality of structures and arrays -/
section
variable {M : MF} {s : Nat}
theorem eq_nil : eqKs [] [] [] = some true := rfl
theorem eq_cons {k : Nat} {ks : List Nat} {x y : D} {xs ys : List D} {a b : Bool} (h1 : eqK k x y = some a) (h2 : eqKs ks xs ys = some b) : eqKs (k :: ks) (x :: xs) (y :: ys) = some (a && b) := by
  simp only [eqKs, h1, h2]
theorem eqk_i (a b : Int) : eqK 1 (eI a) (eI b) = some (a == b) := by simp [eqK, eI]
theorem eqk_b (a b : Bool) : eqK 0 (eB a) (eB b) = some (a == b) := by simp [eqK, eB]
theorem eqk_s (a b : List (BitVec 8)) : eqK 2 (eS a) (eS b) = some (a == b) := by simp only [eqK, eS]; rw [ba_beq]
theorem nat_beq {n : Nat} (a b : BitVec n) : ((a.toNat : Int) == (b.toNat : Int)) = (a == b) := by
  rw [Bool.eq_iff_iff]; simp [BitVec.toNat_eq]; omega
theorem eqk_u8 (a b : BitVec 8) : eqK 1 (eU8 a) (eU8 b) = some (a == b) := by simp only [eqK, eU8, if_true, nat_beq]
theorem eqk_u16 (a b : BitVec 16) : eqK 1 (eU16 a) (eU16 b) = some (a == b) := by simp only [eqK, eU16, if_true, nat_beq]
theorem eqk_u32 (a b : BitVec 32) : eqK 1 (eU32 a) (eU32 b) = some (a == b) := by simp only [eqK, eU32, if_true, nat_beq]
theorem eqk_u64 (a b : BitVec 64) : eqK 1 (eU64 a) (eU64 b) = some (a == b) := by simp only [eqK, eU64, if_true, nat_beq]
theorem eqa_e {ks : List Nat} {x y : D} {xs ys : List D} {b : Bool} (hx : x = .agg xs) (hy : y = .agg ys) (h : eqKs ks xs ys = some b) : (opQ s (.eqa false ks) [.d x, .d y]).Runs M [] (.val (.d (eB b)) []) := by
  subst hx hy
  simp only [opQ, eqaQ, h]
  exact ⟨rfl, by cases b <;> rfl⟩
theorem eqa_n {ks : List Nat} {x y : D} {xs ys : List D} {b : Bool} (hx : x = .agg xs) (hy : y = .agg ys) (h : eqKs ks xs ys = some b) : (opQ s (.eqa true ks) [.d x, .d y]).Runs M [] (.val (.d (eB (!b))) []) := by
  subst hx hy
  simp only [opQ, eqaQ, h]
  exact ⟨rfl, by cases b <;> rfl⟩
theorem eq_list {α : Type} [BEq α] {e : α → D} {k : Nat} (hk : ∀ a b, eqK k (e a) (e b) = some (a == b)) : ∀ {n : Nat} {xs ys : List α}, xs.length = n → ys.length = n → eqKs (List.replicate n k) (xs.map e) (ys.map e) = some (xs == ys)
  | 0, [], [], _, _ => rfl
  | n + 1, x :: xs, y :: ys, h1, h2 => by
    simp only [List.length_cons, Nat.add_right_cancel_iff] at h1 h2
    rw [List.replicate_succ, List.map_cons, List.map_cons]
    exact eq_cons (hk x y) (eq_list hk h1 h2)
/-! ### arrays -/
variable {α : Type} {e : α → D}
theorem bxA {xs : List α} : (opQ s .box [.d (eA e xs)]).Runs M [] (.val (.ptr s 0) [(s, .var .mine (xs.map fun x => .d (e x)))]) := by
  refine bx ?_ ?_
  · simp [eA, PV.cells, D.cells]
  · rw [List.all_eq_true]
    intro p hp
    obtain ⟨x, _, rfl⟩ := List.mem_map.1 hp
    rfl
theorem stoA {n id : Nat} {own : Ow} {xs ys : List α} (hm : M id = some (.var own (xs.map fun x => .d (e x)))) (ho : own.w = true) (h : xs.length = n ∧ ys.length = n) : (opQ s (.store n) [.ptr id 0, .d (eA e ys)]).Runs M [id] (.val .any [(id, .var own (ys.map fun x => .d (e x)))]) := by
  have hc : (PV.d (eA e ys)).cells = ys.map fun x => .d (e x) := by simp [eA, PV.cells, D.cells]
  refine sto_v hm ho ?_ ?_
  · rw [hc]
    simp only [Bool.and_eq_true, beq_iff_eq, List.length_map]
    refine ⟨⟨Nat.ble_eq_true_of_le (by omega), h.2⟩, ?_⟩
    rw [List.all_eq_true]
    intro p hp
    obtain ⟨x, _, rfl⟩ := List.mem_map.1 hp
    rfl
  · rw [hc]
    simp only [putL, List.take_zero, List.nil_append, List.length_map]
    rw [List.drop_of_length_le (by rw [List.length_map]; omega), List.append_nil]
theorem s2aL {n : Nat} {xs : List α} (he : ∀ x, isAggD (e x) = false) (h0 : 0 < n) (h : n ≤ xs.length) : (opQ s (.s2a n) [.d (eL 1 e xs)]).Runs M ([] ++ []) (.val (.iptr (eA e (xs.take n)).cells) []) := by
  refine runs_bind (a := ((1, xs.map e), [])) ⟨rfl, rfl⟩ ⟨⟨h0, by rw [List.length_map]; exact h, rfl, ?_⟩, rfl, ?_⟩
  · rw [List.all_eq_true]
    intro p hp
    obtain ⟨x, _, rfl⟩ := List.mem_map.1 hp
    simp [he]
  · simp [eA, D.cells, List.map_take]
theorem s2aR {n id ver off len : Nat} {own : Bool} {xs : List α} (he : ∀ x, isAggD (e x) = false) (h0 : 0 < n) (hm : M id = some (.row own 1 (xs.map e))) (hv : ver = xs.length) (h : n ≤ ((xs.drop off).take len).length) :
    (opQ s (.s2a n) [.ref id ver off len]).Runs M ([id] ++ []) (.val (.iptr (eA e (((xs.drop off).take len).take n)).cells) [(id, .row false 1 (xs.map e))]) := by
  refine runs_bind (a := ((1, ((xs.map e).drop off).take len), [(id, .row false 1 (xs.map e))])) ⟨_, [], hm, rfl, by rw [List.length_map]; exact hv, rfl, rfl⟩ ?_
  rw [← List.map_drop, ← List.map_take]
  refine ⟨⟨h0, by rw [List.length_map]; exact h, rfl, ?_⟩, rfl, ?_⟩
  · rw [List.all_eq_true]
    intro p hp
    obtain ⟨x, _, rfl⟩ := List.mem_map.1 hp
    simp [he]
  · simp only [eA, D.cells, List.map_take]
theorem ld_iA {n : Nat} {xs : List α} (h : n = xs.length) : (opQ s (.load n true) [.iptr (eA e xs).cells]).Runs M [] (.val (.d (eA e xs)) []) := by
  refine ld_i ?_ ?_
  · simp only [eA, D.cells, List.length_map]; exact Nat.ble_eq_true_of_le (by omega)
  · simp only [eA, D.cells, partD, if_true, List.drop_zero]
    rw [List.take_of_length_le (by rw [List.length_map]; omega)]
theorem flat_L (he : ∀ x : α, (e x).flat = true) : ∀ xs : List α, D.flatL (xs.map e) = true
  | [] => rfl
  | x :: xs => by simp only [List.map_cons, D.flatL, he, flat_L he xs, Bool.and_self]
theorem flat_A (he : ∀ x : α, (e x).flat = true) (xs : List α) : (PV.d (eA e xs)).flat = true := by
  simp only [PV.flat, eA, D.flat, flat_L he]
theorem call_okF {P : Program} {f : FuncId} {args : List PV} {rd : List Nat} {aps : List AP} {fz : Mem Blk} {outs : List (List D)} {r : PV} {mr : Mem Blk} (ha : (argQ args).Runs M rd (aps, [], fz)) (hc : CallOK P f aps outs r mr) (hf : r.flat = true) : OpOK P (opQ s (.call f false) args) M (rd ++ []) r [] :=
  call_ok ha rfl hc (by simp only [callOut, hf, Bool.not_false, Bool.and_self, List.isEmpty_nil, if_true])
theorem aslA {n id : Nat} {own : Ow} {xs : List α} (hm : M id = some (.var own (xs.map fun x => .d (e x)))) (ho : (match own with | .bor => false | _ => true) = true) (h : n = xs.length) : (opQ s (.aslice n false false) [.ptr id 0]).Runs M [id] (.val (.d (eL 1 e xs)) [(id, .var .ro (xs.map fun x => .d (e x)))]) := by
  subst h
  have hall : ∀ l : List α, allD (l.map fun x => PV.d (e x)) = some (l.map e) := by
    intro l
    induction l with
    | nil => rfl
    | cons x l ih => simp only [List.map_cons, allD, ih]
  refine ⟨_, [], hm, rfl, ?_⟩
  have hd : dropTake (0 + 0) (0 + xs.length) (xs.map e) = xs.map e := by
    simp only [dropTake, Nat.zero_add, List.drop_zero, Nat.sub_zero]
    rw [List.take_of_length_le (by simp)]
  cases own with
  | bor => simp at ho
  | ro =>
    simp only [hall, bound, Bool.false_eq_true, if_false]
    refine ⟨⟨Nat.zero_le _, Nat.le_refl _, by simp⟩, rfl, ?_⟩
    rw [hd]; rfl
  | mine =>
    simp only [hall, bound, Bool.false_eq_true, if_false]
    refine ⟨⟨Nat.zero_le _, Nat.le_refl _, by simp⟩, rfl, ?_⟩
    rw [hd]; rfl
theorem rs_cA {env : Mem PV} {a id n : Nat} {own : Ow} {rr : List RR} {rd : List Nat} {vs : List PV} {xs : List α} (ha : envE env a = .ptr id 0) (hm : M id = some (.var own (xs.map fun x => .d (e x)))) (h : n = xs.length) (hr : (resQ env rr).Runs M rd vs) : (resQ env (.c a n true :: rr)).Runs M (id :: (rd ++ [])) (.d (eA e xs) :: vs) := by
  subst h
  have hall : ∀ l : List α, allD (l.map fun x => PV.d (e x)) = some (l.map e) := by
    intro l
    induction l with
    | nil => rfl
    | cons x l ih => simp only [List.map_cons, allD, ih]
  simp only [resQ, ha]
  refine ⟨_, rd ++ [], hm, rfl, by simp, ?_⟩
  refine runs_bind hr ⟨rfl, ?_⟩
  simp only [partP, if_true, List.drop_zero]
  rw [List.take_of_length_le (by rw [List.length_map]; omega)]
  simp only [mkAgg, hall, eA]
theorem cvbR {id ver off len sz : Nat} {xs : List α} (hm : M id = some (.row true sz (xs.map e))) (hv : ver = xs.length) (h : 0 < len) : (opQ s .cvb [.ref id ver off len]).Runs M [id] (.val (.ref id ver off len) [(id, .row true sz (xs.map e))]) :=
  ⟨_, [], hm, rfl, ⟨by rw [List.length_map]; exact hv, h⟩, rfl, rfl⟩
end
/-- A part of a row, longer again: a row of its own. -/
theorem appS2 {M : MF} {s : Nat} {α : Type} {e : α → D} {sz lim id ver len : Nat} {xs ys : List α} {y : PV} {rd : List Nat} (hy : (cont sz y).Runs M rd (ys.map e)) (hm : M id = some (.row true sz (xs.map e))) (hv : ver = xs.length) (h : len < xs.length ∧ (xs.take len ++ ys).length ≤ lim) :
    (opQ s (.app sz lim) [.ref id ver 0 len, y]).Runs M (rd ++ [id]) (.val (.ref s (xs.take len ++ ys).length 0 (xs.take len ++ ys).length) [(s, .row true sz ((xs.take len ++ ys).map e)), (id, .dead)]) := by
  have hl : (xs.take len ++ ys).length = len + ys.length := by rw [List.length_append, List.length_take]; omega
  have h1 := h.1; have h2 := h.2
  rw [hl] at h2
  have := appS (s := s) (lim := lim) (len := len) hy hm hv (by rw [beq_eq_false_iff_ne]; omega) h2 (Nat.le_of_lt h1)
  rw [← hl] at this
  exact this
theorem trunc_t {α : Type} {e : α → D} {env env' : Mem PV} {mem mem' : Mem Blk} {sz ver len : Nat} {xs : List α} (s id id' : Nat) (hs : envE env s = .ref id ver 0 len) (hm : Mem.get mem id = some (.row true sz (xs.map e))) (hv : ver = xs.length) (hn : Mem.get mem id' = none) (hl : len ≤ xs.length)
    (k : Settled ((s, .ref id' (xs.take len).length 0 (xs.take len).length) :: env) ((id', .row true sz ((xs.take len).map e)) :: (id, .dead) :: mem) env' mem') : Settled env mem env' mem' := by
  have hh : (xs.take len).length = len := by rw [List.length_take]; omega
  rw [List.map_take, hh] at k
  exact .trunc s id id' hs hm (by rw [List.length_map]; exact hv) hn k
/-! ### the pure side: asking, choosing -/
def asq {α : Type} (p : Prop) [Decidable p] (k : Option α) : Option α := if p then k else none
theorem asq_inv {α : Type} {p : Prop} [Decidable p] {k : Option α} {r : α} (h : asq p k = some r) : p ∧ k = some r := by
  unfold asq at h
  split at h
  · exact ⟨‹p›, h⟩
  · simp at h
theorem asq_pos {α : Type} {p : Prop} [Decidable p] {k : Option α} (h : p) : asq p k = k := if_pos h
theorem ite_t {α : Type} {c : Bool} {a b : Option α} {r : α} (h : (if c then a else b) = some r) (hc : c = true) : a = some r := by subst hc; exact h
theorem ite_f {α : Type} {c : Bool} {a b : Option α} {r : α} (h : (if c then a else b) = some r) (hc : c = false) : b = some r := by subst hc; exact h
theorem pite_t {α : Type} {c : Prop} [Decidable c] {a b : Option α} {r : α} (h : (if c then a else b) = some r) (hc : c) : a = some r := by rwa [if_pos hc] at h
theorem pite_f {α : Type} {c : Prop} [Decidable c] {a b : Option α} {r : α} (h : (if c then a else b) = some r) (hc : ¬ c) : b = some r := by rwa [if_neg hc] at h
theorem bind_inv {α β : Type} {a : Option α} {f : α → Option β} {r : β} (h : a.bind f = some r) : ∃ x, a = some x ∧ f x = some r := by
  cases a with
  | none => simp at h
  | some x => exact ⟨x, rfl, h⟩
/-- Whichever of two ways is taken: the same comes of it. -/
def both {α : Type} [DecidableEq α] (a b : Option α) : Option α := if a = b then a else none
theorem both_inv {α : Type} [DecidableEq α] {a b : Option α} {r : α} (h : both a b = some r) : a = some r ∧ b = some r := by
  unfold both at h
  split at h
  · rename_i e; exact ⟨h, e ▸ h⟩
  · simp at h
theorem both_same {α : Type} [DecidableEq α] {a b : Option α} {r : α} (h1 : a = some r) (h2 : b = some r) : both a b = some r := by
  unfold both; rw [h1, h2, if_pos rfl]
def lett {α β : Type} (a : α) (f : α → Option β) : Option β := f a
theorem lett_inv {α β : Type} {a : α} {f : α → Option β} {r : β} (h : lett a f = some r) : ∃ x, a = x ∧ f x = some r := ⟨a, rfl, h⟩
/-! ### arrays of one's own -/
theorem renL_map {α : Type} {ρ : Nat → Nat} (f : α → D) (xs : List α) : PV.renL ρ (xs.map fun x => .d (f x)) = xs.map fun x => .d (f x) := by
  induction xs with
  | nil => rfl
  | cons x xs ih => simp only [List.map_cons, PV.renL, PV.ren, ih]
theorem refsL_map {α : Type} (f : α → D) (xs : List α) : PV.refsL (xs.map fun x => PV.d (f x)) = [] := by
  induction xs with
  | nil => rfl
  | cons x xs ih => simp only [List.map_cons, PV.refsL, PV.refs, ih, List.nil_append]
theorem vara_ret {α : Type} {ρ : Nat → Nat} {mem mem2 : Mem Blk} {id : Nat} {ow : Ow} {xs : List α} {f : α → D} (h : Mem.get mem (ρ id) = some (.var ow (xs.map fun x => .d (f x)))) (hb : (Blk.var ow []).bor = false) :
    Mem.get mem (ρ id) = some ((Blk.var ow (xs.map fun x => .d (f x))).ren ρ) ∧ (allIn mem2 (Blk.var ow (xs.map fun x => .d (f x))).refs && (!(Blk.var ow (xs.map fun x => PV.d (f x))).bor || ρ id == id)) = true := by
  refine ⟨?_, ?_⟩
  · rw [h]; simp only [Blk.ren, renL_map]
  · rw [Blk.refs, refsL_map]
    cases ow <;> first | rfl | (exfalso; simp [Blk.bor] at hb)
end Go.RW

/-! Words for the plain side. -/
set_option linter.unusedSimpArgs false
set_option linter.unusedVariables false
namespace Go.RW
theorem lett_def {α β : Type} (a : α) (f : α → Option β) : lett a f = f a := rfl
theorem w64_of {n : Int} (h1 : -9223372036854775808 ≤ n) (h2 : n ≤ 9223372036854775807) : w64 n = n := wrap_i64_small h1 h2
theorem dropTake_zero {α : Type} (h : Nat) (xs : List α) : dropTake 0 h xs = xs.take h := by simp [dropTake]
theorem dropTake_end {α : Type} (l : Nat) (xs : List α) : dropTake l xs.length xs = xs.drop l := by
  simp only [dropTake]
  rw [List.take_of_length_le (by simp)]
/-- Bytes of a slice that came in are short. -/
abbrev Short {α : Type} (xs : List α) : Prop := xs.length ≤ 140737488351232
end Go.RW

/-! What a law's arguments are, as typed values. -/
set_option linter.unusedVariables false
set_option linter.unusedSimpArgs false
namespace Go.RW
open Go.RowKit
section
variable {P : Program} {W : World} {K : Nat → Prop}
theorem wf_range {k : IntKind} {n : Int} (h : (Lit.int k n).wf = true) : k.min ≤ n ∧ n ≤ k.max := by
  simpa [Lit.wf] using h
theorem nat_of_wf8 {n : Int} (h : (Lit.int .u8 n).wf = true) : eU8 (BitVec.ofInt 8 n) = .int .u8 n := by
  have := wf_range h
  simp only [IntKind.min, IntKind.max, IntKind.signed, IntKind.bits] at this
  simp only [eU8, BitVec.toNat_ofInt]
  congr 1
  simp at this; omega
theorem nat_of_wf16 {n : Int} (h : (Lit.int .u16 n).wf = true) : eU16 (BitVec.ofInt 16 n) = .int .u16 n := by
  have := wf_range h
  simp only [IntKind.min, IntKind.max, IntKind.signed, IntKind.bits] at this
  simp only [eU16, BitVec.toNat_ofInt]
  congr 1
  simp at this; omega
theorem nat_of_wf32 {n : Int} (h : (Lit.int .u32 n).wf = true) : eU32 (BitVec.ofInt 32 n) = .int .u32 n := by
  have := wf_range h
  simp only [IntKind.min, IntKind.max, IntKind.signed, IntKind.bits] at this
  simp only [eU32, BitVec.toNat_ofInt]
  congr 1
  simp at this; omega
theorem nat_of_wf64 {n : Int} (h : (Lit.int .u64 n).wf = true) : eU64 (BitVec.ofInt 64 n) = .int .u64 n := by
  have := wf_range h
  simp only [IntKind.min, IntKind.max, IntKind.signed, IntKind.bits] at this
  simp only [eU64, BitVec.toNat_ofInt]
  congr 1
  simp at this; omega
theorem i64_of_wf {n : Int} (h : (Lit.int .i64 n).wf = true) : -9223372036854775808 ≤ n ∧ n ≤ 9223372036854775807 := by
  have := wf_range h
  simpa [IntKind.min, IntKind.max, IntKind.signed, IntKind.bits] using this
theorem rep_int (k : IntKind) (n : Int) : Rep W K (.int k n) (.int k n) := ⟨by simp [RepC, Value.cells], rfl⟩
theorem rep_u8 {n : Int} (h : (Lit.int .u8 n).wf = true) : Rep W K (eU8 (BitVec.ofInt 8 n)) (.int .u8 n) := by rw [nat_of_wf8 h]; exact rep_int _ _
theorem rep_u16 {n : Int} (h : (Lit.int .u16 n).wf = true) : Rep W K (eU16 (BitVec.ofInt 16 n)) (.int .u16 n) := by rw [nat_of_wf16 h]; exact rep_int _ _
theorem rep_u32 {n : Int} (h : (Lit.int .u32 n).wf = true) : Rep W K (eU32 (BitVec.ofInt 32 n)) (.int .u32 n) := by rw [nat_of_wf32 h]; exact rep_int _ _
theorem rep_u64 {n : Int} (h : (Lit.int .u64 n).wf = true) : Rep W K (eU64 (BitVec.ofInt 64 n)) (.int .u64 n) := by rw [nat_of_wf64 h]; exact rep_int _ _
theorem rep_i {n : Int} : Rep W K (eI n) (.int .i64 n) := rep_int _ _
theorem rep_b {b : Bool} : Rep W K (eB b) (.bool b) := ⟨by simp [eB, RepC, Value.cells], rfl⟩
def strB (s : ByteArray) : List (BitVec 8) := s.data.toList.map UInt8.toBitVec
theorem strB_length (s : ByteArray) : (strB s).length = s.size := by
  unfold strB
  rw [List.length_map, Array.length_toList]; rfl
theorem rep_s {s : ByteArray} : Rep W K (eS (strB s)) (.string s) := by
  refine ⟨?_, rfl⟩
  simp only [eS, strB, ba_surj]
  simp [RepC, Value.cells]
/-- What the row's opening tells of a slice of numbers. -/
def IsRow (k : IntKind) (w : World) (a : Option Addr) (len cap : Nat) (zs : List Int) : Prop :=
  (a = none ∧ len = 0 ∧ cap = 0 ∧ zs = []) ∨
  ∃ x, a = some x ∧ len ≤ cap ∧ cap ≤ maxLen ∧ zs.length = cap ∧ (∀ i, i < zs.length → w.cell? (x.add i) = some (.int k (zs.getD i 0))) ∧ ∀ n ∈ zs, (Lit.int k n).wf = true
theorem IsRow.wf {k : IntKind} {a : Option Addr} {len cap : Nat} {zs : List Int} (h : IsRow k W a len cap zs) : ∀ n ∈ zs.take len, (Lit.int k n).wf = true := by
  intro n hn
  have hn := List.mem_of_mem_take hn
  rcases h with ⟨_, _, _, rfl⟩ | ⟨_, _, _, _, _, _, h⟩
  · simp at hn
  · exact h n hn
theorem IsRow.length {k : IntKind} {a : Option Addr} {len cap : Nat} {zs : List Int} (h : IsRow k W a len cap zs) : (zs.take len).length = len := by
  rcases h with ⟨_, rfl, _, rfl⟩ | ⟨_, _, h1, _, h2, _⟩
  · rfl
  · rw [List.length_take]; omega
theorem IsRow.rep {k : IntKind} {a : Option Addr} {len cap : Nat} {zs : List Int} (h : IsRow k W a len cap zs) : Rep W (oldK W) (.sl 1 ((zs.take len).map (.int k))) (.slice a len cap) := by
  rcases h with h | ⟨x, h1, h2, _, h3, h4, _⟩
  · exact row_rep (Or.inl h)
  · by_cases hz : zs = []
    · subst hz
      have : len = 0 := by simp at h3; omega
      subst this
      exact Rep_sl.2 ⟨a, cap, by simp, by simp, Or.inl (by simp)⟩
    · have hp : 0 < zs.length := List.length_pos_iff.2 hz
      have h5 := h4 0 hp
      have e0 : x.add 0 = x := by simp [Addr.add]
      rw [e0] at h5
      refine row_rep (Or.inr ⟨x, h1, h2, h3, World.cell?_spot h5, ?_, h4⟩)
      unfold World.cell? at h5
      split at h5
      · rename_i hb; exact (Array.getElem?_eq_some_iff.1 hb).1
      · simp at h5
theorem rep_l8 {a : Option Addr} {len cap : Nat} {zs : List Int} (h : IsRow .u8 W a len cap zs) : Rep W (oldK W) (eL 1 eU8 ((zs.take len).map (BitVec.ofInt 8))) (.slice a len cap) := by
  have e : eL 1 eU8 ((zs.take len).map (BitVec.ofInt 8)) = .sl 1 ((zs.take len).map (.int .u8)) := by
    simp only [eL, List.map_map]
    congr 1
    exact List.map_congr_left fun n hn => nat_of_wf8 (h.wf n hn)
  rw [e]; exact h.rep
theorem rep_l64 {a : Option Addr} {len cap : Nat} {zs : List Int} (h : IsRow .u64 W a len cap zs) : Rep W (oldK W) (eL 1 eU64 ((zs.take len).map (BitVec.ofInt 64))) (.slice a len cap) := by
  have e : eL 1 eU64 ((zs.take len).map (BitVec.ofInt 64)) = .sl 1 ((zs.take len).map (.int .u64)) := by
    simp only [eL, List.map_map]
    congr 1
    exact List.map_congr_left fun n hn => nat_of_wf64 (h.wf n hn)
  rw [e]; exact h.rep
theorem rep_li {a : Option Addr} {len cap : Nat} {zs : List Int} (h : IsRow .i64 W a len cap zs) : Rep W (oldK W) (eL 1 eI (zs.take len)) (.slice a len cap) := h.rep
end
open Go.ChangeShapes Go.WideShapes
/-- A slice of numbers among a law's arguments: no longer than what may come in. -/
theorem row_short {H : Type} {enc : TypeId × Value → H} {P : Program} {W : World} {base : Nat} {spare : Nat → Bool} {held : Bool} {t e : TypeId} {k : IntKind} {a : Option Addr} {len cap : Nat} {d : DataW H} {ps : List MemPlace} {ts : List TypeId} {ds : List (DataW H)} {j : Nat}
    (hs : (DataW.weightsEach P ts ds).all (· ≤ reachBytes) = true) (ht : ts[j]? = some t) (hd : ds[j]? = some d) (hu : P.underlying t = some (.slice e)) (he : P.underlying e = some (.int k)) (hc : P.cellsOf e = 1) {B : Nat} (hB : P.bytesOf e = B)
    (h : DataW.Trod enc P W base spare held t (.slice a len cap) d ps) : len * B ≤ 140737488351232 := by
  obtain ⟨fuel, hf⟩ := h
  rcases open_ints hu he hc hf with ⟨h0, _⟩ | ⟨x, l, c, zs, h0, _, hl, _, hz, hx, _, _⟩ <;> simp [Value.cells] at h0 <;> obtain ⟨rfl, rfl, rfl⟩ := h0
  · simp
  · obtain ⟨hx, _⟩ := Prod.mk.inj hx
    subst hx
    have z := sized_slice hs ht hd hu
    rw [hB] at z
    refine Nat.le_trans (Nat.mul_le_mul_right _ ?_) z
    have h1 : len ≤ zs.length := by
      rw [hz]; split
      · exact hl
      · exact Nat.le_refl _
    simp [lits]; omega
end Go.RW

/-! A law's arguments of any kind, opened: numbers, bools, strings, slices, structures. -/
set_option linter.unusedVariables false
set_option linter.unusedSimpArgs false
namespace Go.RW
open Go.RowKit Go.ChangeShapes Go.WideShapes
section
variable {H : Type} {enc : TypeId × Value → H} {P : Program} {W : World} {sp : Nat → Bool} {held : Bool}
/-- Whatever reads as data of type t is a typed value's cells. -/
def OpenL {α : Type} (enc : TypeId × Value → H) (P : Program) (W : World) (sp : Nat → Bool) (held : Bool) (t : TypeId) (g : α → List D) (ok : α → Prop) : Prop :=
  ∀ (fuel : Nat) (cs : List Value) (x : DataW H × List MemPlace), DataW.trod enc P W 0 sp held fuel t cs = some x → ∃ y, RepL W (oldK W) (g y) cs ∧ ok y
def okI (n : Int) : Prop := -9223372036854775808 ≤ n ∧ n ≤ 9223372036854775807
def okS (s : List (BitVec 8)) : Prop := s.length ≤ 9223372036854775807
def okT {α : Type} (x : α) : Prop := True
def okL {α : Type} (ok : α → Prop) (xs : List α) : Prop := xs.length ≤ 9223372036854775807 ∧ ∀ y ∈ xs, ok y
theorem openL_one {x : D} {v : Value} (h0 : isAggD x = false) (h : RepC W (oldK W) x [v]) : RepL W (oldK W) [x] [v] := by
  unfold RepL; exact ⟨v, [], rfl, h0, h, by unfold RepL; rfl⟩
theorem openL_i {t : TypeId} (ht : P.underlying t = some (.int .i64)) : OpenL enc P W sp held t (fun n : Int => [eI n]) okI := by
  intro fuel cs x h
  obtain ⟨n, rfl, _, hw⟩ := DataW.trod_int ht h
  exact ⟨n, openL_one rfl (by simp [eI, RepC]), i64_of_wf hw⟩
theorem openL_u8 {t : TypeId} (ht : P.underlying t = some (.int .u8)) : OpenL enc P W sp held t (fun n : BitVec 8 => [eU8 n]) okT := by
  intro fuel cs x h
  obtain ⟨n, rfl, _, hw⟩ := DataW.trod_int ht h
  exact ⟨BitVec.ofInt 8 n, openL_one rfl (by rw [nat_of_wf8 hw]; simp [RepC]), trivial⟩
theorem openL_u32 {t : TypeId} (ht : P.underlying t = some (.int .u32)) : OpenL enc P W sp held t (fun n : BitVec 32 => [eU32 n]) okT := by
  intro fuel cs x h
  obtain ⟨n, rfl, _, hw⟩ := DataW.trod_int ht h
  exact ⟨BitVec.ofInt 32 n, openL_one rfl (by rw [nat_of_wf32 hw]; simp [RepC]), trivial⟩
theorem openL_u64 {t : TypeId} (ht : P.underlying t = some (.int .u64)) : OpenL enc P W sp held t (fun n : BitVec 64 => [eU64 n]) okT := by
  intro fuel cs x h
  obtain ⟨n, rfl, _, hw⟩ := DataW.trod_int ht h
  exact ⟨BitVec.ofInt 64 n, openL_one rfl (by rw [nat_of_wf64 hw]; simp [RepC]), trivial⟩
theorem openL_b {t : TypeId} (ht : P.underlying t = some .bool) : OpenL enc P W sp held t (fun b : Bool => [eB b]) okT := by
  intro fuel cs x h
  cases fuel with
  | zero => simp [DataW.trod] at h
  | succ n =>
    unfold DataW.trod at h
    rw [ht] at h
    split at h <;> simp_all
    rename_i b
    cases b
    · exact Or.inl ⟨openL_one rfl (by simp [eB, RepC]), trivial⟩
    · exact Or.inr ⟨openL_one rfl (by simp [eB, RepC]), trivial⟩
theorem openL_s {t : TypeId} (ht : P.underlying t = some .string) : OpenL enc P W sp held t (fun s : List (BitVec 8) => [eS s]) okS := by
  intro fuel cs x h
  cases fuel with
  | zero => simp [DataW.trod] at h
  | succ n =>
    unfold DataW.trod at h
    rw [ht] at h
    split at h <;> simp_all
    rename_i s
    exact ⟨strB s, openL_one rfl (by simp only [eS, strB, ba_surj]; simp [RepC]), by rw [okS, strB_length]; exact h.1⟩
theorem RepL_cells {xs : List D} {cs : List Value} (h : RepL W (oldK W) xs cs) : RepC W (oldK W) (.agg xs) cs := by unfold RepC; exact h
theorem RepL_single {x : D} {cs : List Value} (h : RepL W (oldK W) [x] cs) : RepC W (oldK W) x cs := by
  unfold RepL at h
  obtain ⟨v, r, rfl, _, h1, h2⟩ := h
  unfold RepL at h2
  subst h2; exact h1
/-- A slice: its elements, each of the form e. -/
theorem openL_sl {α : Type} {t et : TypeId} {g : α → List D} {e : α → D} {ok : α → Prop} (ht : P.underlying t = some (.slice et)) {sz : Nat} (hsz : P.cellsOf et = sz) (hs : 0 < sz) (he : OpenL enc P W sp held et g ok) (hg : ∀ (y : α) (cs : List Value), RepL W (oldK W) (g y) cs → RepC W (oldK W) (e y) cs) :
    OpenL enc P W sp held t (fun ys : List α => [eL sz e ys]) (okL ok) := by
  subst hsz
  intro fuel cs x h
  rcases DataW.trod_slice ht h with ⟨rfl, _⟩ | ⟨a, len, cap, elems, rest, n, _, rfl, rfl, hb, hl, hm, hlen, hel, _, _⟩
  · exact ⟨[], openL_one rfl (by simp only [eL, List.map_nil]; unfold RepC; exact ⟨none, 0, rfl, Nat.le_refl _, Or.inl rfl⟩), by simp [okL]⟩
  by_cases h0 : len = 0
  · subst h0
    exact ⟨[], openL_one rfl (by simp only [eL, List.map_nil]; unfold RepC; exact ⟨some a, cap, rfl, Nat.zero_le _, Or.inl rfl⟩), by simp [okL]⟩
  have each : ∀ i, i < len → ∃ y cs', W.cells? 0 (a.add (i * P.cellsOf et)) (P.cellsOf et) = some cs' ∧ RepL W (oldK W) (g y) cs' ∧ ok y := by
    intro i hi
    have := hel i hi
    have hy : elems[i]? = some (elems[i]'(by omega)) := List.getElem?_eq_getElem (by omega)
    rw [hy, Option.bind_eq_some_iff] at this
    obtain ⟨cs', h1, h2⟩ := this
    obtain ⟨y, h3, h4⟩ := he _ _ _ h2
    exact ⟨y, cs', h1, h3, h4⟩
  -- the elements' block
  have hblk : a.spot = none ∧ a.block < W.heap.size := by
    obtain ⟨y, cs', h1, _, _⟩ := each 0 (by omega)
    have h2 := World.cells?_some h1
    have e0 : a.add (0 * P.cellsOf et) = a := by simp [Addr.add]
    rw [e0] at h2
    have hl : cs'.length = P.cellsOf et := h2.2.1
    obtain ⟨v, hv⟩ : ∃ v, cs'[0]? = some v := ⟨cs'[0]'(by omega), List.getElem?_eq_getElem (by omega)⟩
    have h3 := h2.2.2 0 (by omega)
    rw [hv] at h3
    have e1 : a.add 0 = a := by simp [Addr.add]
    rw [e1] at h3
    refine ⟨World.cell?_spot h3, ?_⟩
    unfold World.cell? at h3
    split at h3
    · rename_i hb; exact (Array.getElem?_eq_some_iff.1 hb).1
    · simp at h3
  obtain ⟨b, o, s⟩ := a
  obtain ⟨hs0, hbk⟩ := hblk
  simp only at hs0 hbk
  subst hs0
  have key : ∀ (k j : Nat), j + k = len → ∃ ys : List α, ys.length = k ∧ RepE W (oldK W) (P.cellsOf et) b (o + j * P.cellsOf et) (ys.map e) ∧ ∀ y ∈ ys, ok y := by
    intro k
    induction k with
    | zero => intro j _; exact ⟨[], rfl, by simp [RepE], by simp⟩
    | succ k ih =>
      intro j hj
      obtain ⟨y, cs', h1, h2, h3⟩ := each j (by omega)
      obtain ⟨ys, h4, h5, h6⟩ := ih (j + 1) (by omega)
      have h7 := World.cells?_some h1
      refine ⟨y :: ys, by simp [h4], ?_, fun z hz => ?_⟩
      · simp only [List.map_cons]
        unfold RepE
        refine ⟨⟨cs', h7.2.1, fun i u hu => ?_, hg y cs' h2⟩, ?_⟩
        · have hi : i < P.cellsOf et := by have := (List.getElem?_eq_some_iff.1 hu).1; have := h7.2.1; omega
          have := h7.2.2 i hi
          rw [hu] at this
          rw [add_none, add_none] at this
          exact this
        · rw [show o + j * P.cellsOf et + P.cellsOf et = o + (j + 1) * P.cellsOf et by rw [Nat.succ_mul]; omega]
          exact h5
      · rcases List.mem_cons.1 hz with rfl | hz
        · exact h3
        · exact h6 z hz
  obtain ⟨ys, h1, h2, h3⟩ := key len 0 (by omega)
  refine ⟨ys, openL_one rfl ?_, by have : maxLen = 9223372036854775807 := rfl; omega, h3⟩
  simp only [eL]
  unfold RepC
  refine ⟨_, cap, by rw [List.length_map, h1], by rw [List.length_map, h1]; exact hl, Or.inr ⟨b, o, rfl, hbk, ?_⟩⟩
  simpa using h2
/-- The fields of a structure from offset o on. -/
def OpenF {β : Type} (enc : TypeId × Value → H) (P : Program) (W : World) (sp : Nat → Bool) (held : Bool) (o : Nat) (fs : List Field) (g : β → List D) (ok : β → Prop) : Prop :=
  ∀ (n : Nat) (cs : List Value), (∀ f ∈ fs, ∃ x, DataW.trod enc P W 0 sp held n f.type ((cs.drop f.offset).take (P.cellsOf f.type)) = some x) → cs.length = o + (fs.map fun f => P.cellsOf f.type).sum → ∃ y, RepL W (oldK W) (g y) (cs.drop o) ∧ ok y
theorem openF_nil {o : Nat} : OpenF enc P W sp held o [] (fun _ : Unit => []) (fun _ => True) := by
  intro n cs _ hl
  refine ⟨(), ?_, trivial⟩
  unfold RepL
  exact List.drop_of_length_le (by simp at hl; omega)
theorem openF_cons {α β : Type} {o o' : Nat} {f : Field} {fs : List Field} {g : α → List D} {g' : β → List D} {ok : α → Prop} {ok' : β → Prop} (ho : f.offset = o) (hc : o + P.cellsOf f.type = o') (h : OpenL enc P W sp held f.type g ok) (h' : OpenF enc P W sp held o' fs g' ok') :
    OpenF enc P W sp held o (f :: fs) (fun y : α × β => g y.1 ++ g' y.2) (fun y => ok y.1 ∧ ok' y.2) := by
  subst hc
  intro n cs hx hl
  obtain ⟨x, hx1⟩ := hx f List.mem_cons_self
  obtain ⟨y, h1, h2⟩ := h _ _ _ hx1
  rw [List.map_cons, List.sum_cons] at hl
  obtain ⟨z, h3, h4⟩ := h' n cs (fun f' hf => hx f' (List.mem_cons_of_mem _ hf)) (by omega)
  refine ⟨(y, z), ?_, h2, h4⟩
  rw [ho] at h1
  have : cs.drop o = (cs.drop o).take (P.cellsOf f.type) ++ cs.drop (o + P.cellsOf f.type) := by
    rw [← List.drop_drop, List.take_append_drop]
  rw [this]
  exact RepL_append.2 ⟨_, _, rfl, h1, h3⟩
theorem openL_st {α β : Type} {t : TypeId} {fs : Array Field} {g : β → List D} {ok : β → Prop} {e : α → List D} {ok' : α → Prop} (ht : P.underlying t = some (.struct fs)) (hf : OpenF enc P W sp held 0 fs.toList g ok) (hc : P.cellsOf t = (fs.toList.map fun f => P.cellsOf f.type).sum)
    (mk : β → α) (hm : ∀ y, g y = e (mk y)) (hk : ∀ y, ok y → ok' (mk y)) : OpenL enc P W sp held t e ok' := by
  intro fuel cs x h
  obtain ⟨xs, n, _, _, hl, hlen, hx⟩ := DataW.trod_struct ht h
  obtain ⟨y, h1, h2⟩ := hf n cs (fun f hmem => by
    obtain ⟨i, hi⟩ := List.getElem?_of_mem hmem
    have hi' : fs[i]? = some f := by simpa using hi
    have hlt : i < fs.size := (Array.getElem?_eq_some_iff.1 hi').1
    have := hx i f hi'
    rw [List.getElem?_eq_getElem (by omega)] at this
    exact ⟨_, this⟩) (by rw [hl, hc]; omega)
  exact ⟨mk y, by rw [← hm]; simpa using h1, hk y h2⟩
/-- An argument that is a structure, or a slice of anything. -/
theorem arg_st {α : Type} {t : TypeId} {fs : Array Field} {v : Value} {d : DataW H} {ps : List MemPlace} {r : Reach} {b : Nat} {g : α → List D} {ok : α → Prop} (ht : P.underlying t = some (.struct fs)) (hval : Value.okWide P W r b t v) (h : OpenL enc P W sp held t g ok) (hd : DataW.Trod enc P W 0 sp held t v d ps) :
    ∃ y, Rep W (oldK W) (.agg (g y)) v ∧ ok y := by
  obtain ⟨fuel, hf⟩ := hd
  obtain ⟨y, h1, h2⟩ := h _ _ _ hf
  unfold Value.okWide at hval
  rw [ht] at hval
  obtain ⟨cs, rfl, _⟩ := hval
  exact ⟨y, ⟨by unfold RepC; exact h1, rfl⟩, h2⟩
theorem arg_sl {α : Type} {t et : TypeId} {v : Value} {d : DataW H} {ps : List MemPlace} {r : Reach} {b : Nat} {g : α → D} {ok : α → Prop} (ht : P.underlying t = some (.slice et)) (hg : ∀ y, isAggD (g y) = false) (hval : Value.okWide P W r b t v) (h : OpenL enc P W sp held t (fun y => [g y]) ok) (hd : DataW.Trod enc P W 0 sp held t v d ps) :
    ∃ y, Rep W (oldK W) (g y) v ∧ ok y := by
  obtain ⟨fuel, hf⟩ := hd
  obtain ⟨y, h1, h2⟩ := h _ _ _ hf
  obtain ⟨a, len, cap, rfl⟩ := okWide_slice ht hval
  exact ⟨y, ⟨RepL_single h1, by rw [hg]; rfl⟩, h2⟩
end
end Go.RW

/-! Functions without a text of their own, and copies of strings. -/
set_option linter.unusedVariables false
set_option linter.unusedSimpArgs false
namespace Go.RW
/-- A function without a body answers at once and changes nothing. -/
theorem extOK {P : Program} {f : FuncId} {fn : Func} {e : Array Value → Sem Value} {xs : List D} {r : D} (hf : P.funcs[f]? = some fn) (hname : (fn.name == "runtime.NumGoroutine") = false)
    (hb : fn.body.isNone = true) (hn : Extern.findNext fn = none) (he : Extern.find fn = some e)
    (H : ∀ (w : World) (K : Nat → Prop) (vs : List Value), ArgsRep w K (xs.map .d) vs [] → ∃ v, (e vs.toArray).run P w = .ok v w ∧ ∀ S, Rep w S r v) : CallOK P f (xs.map .d) [] (.d r) [] := by
  refine ⟨fun x hx => by simp at hx, fun w K vs bs hargs hnd hK => Or.inr ?_⟩
  have hbs : bs = [] := by
    clear H
    induction xs generalizing vs bs with
    | nil => exact hargs.2
    | cons x xs ih =>
      obtain ⟨v, r, _, _, h⟩ := hargs
      exact ih r bs h hnd hK
  subst hbs
  obtain ⟨v, h1, h2⟩ := H w K vs hargs
  refine ⟨v, w, ?_, v, fun _ => none, rfl, ⟨⟨⟨rfl, rfl, rfl, Nat.le_refl _, fun b _ _ => rfl⟩, hK, fun b hb => by simp at hb, fun id blk h => by simp [mf, Mem.get] at h, fun id id' b h => by simp [mf, Mem.get] at h, fun id blk b h => by simp [mf, Mem.get] at h⟩, h2 _, rfl⟩⟩
  rw [run_callFunc_extern hf hname hb hn he, h1]
  rfl
def idxB : List (BitVec 8) → BitVec 8 → Int
  | [], _ => -1
  | x :: xs, c => if x == c then 0 else if idxB xs c == -1 then -1 else idxB xs c + 1
theorem idxB_eq (c : BitVec 8) : ∀ xs : List (BitVec 8), Lib.indexByte (xs.map UInt8.ofBitVec) (UInt8.ofBitVec c) = idxB xs c
  | [] => rfl
  | x :: xs => by
    have e : (UInt8.ofBitVec x == UInt8.ofBitVec c) = (x == c) := by
      by_cases h : x = c
      · rw [h, beq_self_eq_true, beq_self_eq_true]
      · rw [beq_eq_false_iff_ne.2 h, beq_eq_false_iff_ne.2 (fun e => h (congrArg UInt8.toBitVec e))]
    rw [List.map_cons, Lib.indexByte, idxB, idxB_eq c xs, e]
theorem u8_toNat (c : BitVec 8) : ((c.toNat : Int)).toNat.toUInt8 = UInt8.ofBitVec c := by
  rw [Int.toNat_natCast]
  apply UInt8.toBitVec_inj.1
  apply BitVec.eq_of_toNat_eq
  simp [Nat.toUInt8, UInt8.ofNat, BitVec.toNat_ofNat]
/-- internal/bytealg.IndexByteString. -/
theorem indexByteOK {P : Program} {f : FuncId} {fn : Func} (hf : P.funcs[f]? = some fn) (hname : (fn.name == "runtime.NumGoroutine") = false)
    (hb : fn.body.isNone = true) (hn : Extern.findNext fn = none) (he : Extern.find fn = some Extern.BytealgIndexByte.indexByte) (a0 : List (BitVec 8)) (a1 : BitVec 8) : CallOK P f [.d (eS a0), .d (eU8 a1)] [] (.d (eI (idxB a0 a1))) [] := by
  refine extOK (xs := [eS a0, eU8 a1]) hf hname hb hn he fun w K vs h => ?_
  obtain ⟨v0, _, rfl, h0, v1, _, rfl, h1, rfl, _⟩ := h
  obtain rfl := Rep_str.1 h0
  obtain rfl := Rep_int.1 h1
  refine ⟨.int .i64 (idxB a0 a1), ?_, fun S => Rep_int.2 rfl⟩
  have := Lib.run_indexByteString (P := P) (ba a0) (a1.toNat : Int) w
  rw [u8_toNat, show (ba a0).data.toList = a0.map UInt8.ofBitVec by simp [ba], idxB_eq] at this
  exact this
theorem putLn {α : Type} {xs ys : List α} : (putL xs 0 (ys.take (min ys.length xs.length))).length = xs.length := by
  simp [putL]; omega
section
variable {P : Program} {M : MF} {s : Nat}
theorem cpsR {id ver off len : Nat} {xs ys : List (BitVec 8)} (hm : M id = some (.row true 1 (xs.map eU8))) (hv : ver = xs.length) :
    (opQ s .copys [.ref id ver off len, .d (eS ys)]).Runs M [id] (.val (.d (eI (min ys.length len : Nat))) [(id, .row true 1 ((putL xs off (ys.take (min ys.length len))).map eU8))]) := by
  refine ⟨_, [], hm, rfl, ⟨by rw [List.length_map]; exact hv, rfl⟩, rfl, ?_⟩
  rw [ba_size, ofBA_ba, ← List.map_take, putL_map]; rfl
end
end Go.RW
