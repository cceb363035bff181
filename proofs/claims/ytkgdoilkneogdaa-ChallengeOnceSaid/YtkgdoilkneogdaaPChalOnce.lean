/- The law ChallengeOnce, plain: each challenge is used at most once. -/
import Derived.Test.YtkgdoilkneogdaaPChal
set_option linter.unusedSimpArgs false
set_option linter.unusedVariables false
namespace Go.Proofs.Ty
open Go Go.RW
/-! ### use -/
def sat (sec : BitVec 64) (b : List (BitVec 8)) (kind : Int) (c : TApiChallenge) : Bool := c.Kind == kind && cbytes sec c == b
def useR (s : TApiChallenges) (b : List (BitVec 8)) (kind : Int) : List TApiChallenge → List TApiChallenge → TApiChallenges × TApiChallenge × Int
  | _, [] => (s, zC, 35)
  | fr, c :: r => if sat s.Secret b kind c then (⟨s.Secret, s.Count, fr ++ r⟩, c, 0) else useR s b kind (fr ++ [c]) r
theorem use_loop (s : TApiChallenges) (b : List (BitVec 8)) (kind : Int) (o : List TApiChallenge) (hl : o.length ≤ 1000) (ha : ∀ c ∈ o, c.Account.length ≤ 300) : ∀ (r : List TApiChallenge) (f : Nat) (fr : List TApiChallenge), o = fr ++ r → r.length < f → challengeUseL3 s b kind ⟨s.Secret, s.Count, o⟩ f (fr.length : Int) = some (useR s b kind fr r)
  | r, f, fr, ho, hf => by
    obtain ⟨f, rfl⟩ : ∃ g, f = g + 1 := ⟨f - 1, by omega⟩
    rw [challengeUseL3]
    simp only
    cases r with
    | nil =>
      rw [List.append_nil] at ho
      rw [if_neg (by rw [decide_eq_true_eq, ho]; omega), challengeUseJ2]; rfl
    | cons c r =>
      have hlen : o.length = fr.length + (r.length + 1) := by rw [ho, List.length_append, List.length_cons]
      have e : o.getD (0 + fr.length) (TApiChallenge.mk 0 0 [] false 0) = c := by
        rw [Nat.zero_add, List.getD_eq_getElem?_getD, ho, List.getElem?_append_right (Nat.le_refl _), Nat.sub_self]; rfl
      have e1 : w64 ((fr.length : Int) + 1) = ((fr.length + 1 : Nat) : Int) := by rw [w64_of (by omega) (by omega)]; omega
      have hc : c.Account.length ≤ 300 := ha c (by rw [ho]; simp)
      have tl : o.take (fr.length - 0) ++ (o.drop (0 + (fr.length + 1))).take (o.length - (fr.length + 1)) = fr ++ r := by
        have d1 : o.drop (fr.length + 1) = r := by rw [ho]; simp
        have t1 : o.take fr.length = fr := by rw [ho]; simp
        rw [Nat.sub_zero, Nat.zero_add, t1, d1, List.take_of_length_le (by omega)]
      have next : challengeUseL3 s b kind ⟨s.Secret, s.Count, o⟩ f (w64 ((fr.length : Int) + 1)) = some (useR s b kind (fr ++ [c]) r) := by
        have := use_loop s b kind o hl ha r f (fr ++ [c]) (by rw [ho, List.append_assoc]; rfl) (by rw [List.length_cons] at hf; omega)
        rw [List.length_append] at this
        rw [e1]; exact this
      have e2 : TApiChallenges.mk s.Secret s.Count s.Open = s := rfl
      rw [if_pos (by rw [decide_eq_true_eq]; omega), asq_pos (by omega), Int.toNat_natCast, e, useR, sat]
      by_cases hk : c.Kind = kind
      · rw [if_pos (by rw [beq_iff_eq]; exact hk), e2, bytes_eq _ _ hc, Option.bind_some, challengeUseJ4]
        by_cases hb : cbytes s.Secret c = b
        · rw [if_pos (by rw [beq_iff_eq]; exact hb), e1]
          simp only [Int.toNat_natCast]
          rw [asq_pos (by omega), asq_pos (by omega), asq_pos ⟨by omega, by rw [tl, List.length_append]; omega⟩, tl, e, if_pos (by rw [Bool.and_eq_true, beq_iff_eq, beq_iff_eq]; exact ⟨hk, hb⟩)]
        · rw [if_neg (by rw [beq_iff_eq]; exact hb), if_neg (by rw [Bool.and_eq_true, beq_iff_eq, beq_iff_eq]; exact fun h => hb h.2)]
          exact next
      · rw [if_neg (by rw [beq_iff_eq]; exact hk), challengeUseJ4, if_neg (by simp), if_neg (by rw [Bool.and_eq_true, beq_iff_eq]; exact fun h => hk h.1)]
        exact next
theorem use_eq (s : TApiChallenges) (b : List (BitVec 8)) (kind now : Int) (h0 : 0 ≤ now) (h1 : now ≤ 1099511627776) (hl : s.Open.length ≤ 1000) (ha : ∀ c ∈ s.Open, c.Account.length ≤ 300) : challengeUse s b kind now = some (useR s b kind [] (s.Open.filter (keep now))) := by
  have e2 : TApiChallenges.mk s.Secret s.Count s.Open = s := rfl
  have hfl : (s.Open.filter (keep now)).length ≤ s.Open.length := List.length_filter_le _ _
  rw [challengeUse, if_neg (by rw [decide_eq_true_eq]; omega), decide_eq_false (by omega), challengeUseJ1, if_neg (by simp), e2, expire_eq s now h0 h1 hl, Option.bind_some]
  exact use_loop s b kind _ (by omega) (fun c hc => ha c (List.mem_filter.1 hc).1) (s.Open.filter (keep now)) FUEL [] rfl (by simp only [FUEL]; omega)
theorem useR_none (s : TApiChallenges) (b : List (BitVec 8)) (kind : Int) : ∀ (r fr : List TApiChallenge), (∀ c ∈ r, sat s.Secret b kind c = false) → useR s b kind fr r = (s, zC, 35)
  | [], _, _ => rfl
  | c :: r, fr, h => by
    rw [useR, h c List.mem_cons_self, if_neg (by simp)]
    exact useR_none s b kind r _ fun d hd => h d (List.mem_cons_of_mem _ hd)
theorem useR_hit (s : TApiChallenges) (b : List (BitVec 8)) (kind : Int) (c : TApiChallenge) (post : List TApiChallenge) (hc : sat s.Secret b kind c = true) : ∀ (pre fr : List TApiChallenge), (∀ d ∈ pre, sat s.Secret b kind d = false) → useR s b kind fr (pre ++ c :: post) = (⟨s.Secret, s.Count, fr ++ (pre ++ post)⟩, c, 0)
  | [], fr, _ => by rw [List.nil_append, useR, hc, if_pos rfl]; rfl
  | d :: pre, fr, h => by
    rw [List.cons_append, useR, h d List.mem_cons_self, if_neg (by simp), useR_hit s b kind c post hc pre (fr ++ [d]) fun e he => h e (List.mem_cons_of_mem _ he), List.append_assoc]; rfl
/-! ### the challenges of the law -/
def nmS (b : BitVec 8) : List (BitVec 8) := match b.toNat % 3 with
  | 0 => [97#8, 108#8, 105#8, 99#8, 101#8]
  | 1 => [98#8, 111#8, 98#8]
  | _ => [99#8, 97#8, 114#8, 111#8, 108#8]
theorem nmS_length (b : BitVec 8) : (nmS b).length ≤ 5 := by
  unfold nmS; split <;> decide
theorem name_eq (b : BitVec 8) : passkeycastName ((b.toNat : Int).tmod 3) = some (nmS b) := by
  have e : (b.toNat : Int).tmod 3 = ((b.toNat % 3 : Nat) : Int) := by rw [Int.tmod_eq_emod_of_nonneg (by omega)]; omega
  have hr : b.toNat % 3 < 3 := Nat.mod_lt _ (by decide)
  rw [e, nmS]
  generalize b.toNat % 3 = r at hr
  match r, hr with
  | 0, _ => rfl
  | 1, _ => rfl
  | 2, _ => rfl
def kindOf (b : BitVec 8) : Int := 1 + ((b &&& 1#8).toNat : Int)
theorem and1 (b : BitVec 8) : (b &&& 1#8).toNat ≤ 1 := by
  rw [BitVec.toNat_and]; exact Nat.and_le_right
theorem kind_w (b : BitVec 8) : w64 (1 + ((b &&& 1#8).toNat : Int)) = kindOf b := by
  have := and1 b
  rw [w64_of (by omega) (by omega)]; rfl
def mk1 (b : BitVec 8) (j : Nat) : TApiChallenge := ⟨(j : Int), kindOf b, nmS b, (b &&& 8#8) == 8#8, 100⟩
section
variable (kinds : List (BitVec 8)) (sec : BitVec 64)
def mkj (j : Nat) : TApiChallenge := mk1 (kinds.getD j 0#8) j
def Cs (n : Nat) : List TApiChallenge := (List.range n).map (mkj kinds)
def Bs (n : Nat) : List (List (BitVec 8)) := (List.range n).map fun j => cbytes sec (mkj kinds j)
theorem Cs_length (n : Nat) : (Cs kinds n).length = n := by simp [Cs]
theorem Bs_length (n : Nat) : (Bs kinds sec n).length = n := by simp [Bs]
theorem Cs_succ (n : Nat) : Cs kinds (n + 1) = Cs kinds n ++ [mkj kinds n] := by simp [Cs, List.range_succ]
theorem Bs_succ (n : Nat) : Bs kinds sec (n + 1) = Bs kinds sec n ++ [cbytes sec (mkj kinds n)] := by simp [Bs, List.range_succ]
theorem Bs_get {n k : Nat} (h : k < n) : (Bs kinds sec n).getD (0 + k) [] = cbytes sec (mkj kinds k) := by
  rw [Nat.zero_add, List.getD_eq_getElem?_getD, List.getElem?_eq_getElem (by rw [Bs_length]; exact h)]
  simp [Bs]
theorem cbytes_inj {j k : Nat} (hj : j < 1000) (hk : k < 1000) (c d : TApiChallenge) (hc : c.Number = j) (hd : d.Number = k) (h : cbytes sec c = cbytes sec d) : j = k := by
  have hw : ∀ a b : BitVec 64, (wordsBytes [a, b]).take 8 = wordBytes a := fun a b => by
    have : wordsBytes [a, b] = wordBytes a ++ wordBytes b := by simp [wordsBytes]
    rw [this, List.take_append_of_le_length (by rw [wordBytes_length]; omega), List.take_of_length_le (by rw [wordBytes_length]; omega)]
  have h2 := congrArg (List.take 8) h
  rw [cbytes, cbytes, hw, hw] at h2
  have h3 := congrArg beW h2
  rw [beW_wordBytes, beW_wordBytes, hc, hd] at h3
  have h4 := congrArg BitVec.toNat h3
  rw [BitVec.toNat_ofInt, BitVec.toNat_ofInt] at h4
  omega
theorem keep100 (now : Int) (h0 : 0 ≤ now) (h1 : now ≤ 1000) (j : Nat) : keep now (mkj kinds j) = decide (now ≤ 160) := by
  rw [keep]
  show decide (w64 (now - 100) ≤ 60) = _
  rw [w64_of (by omega) (by omega)]
  by_cases h : now ≤ 160
  · rw [decide_eq_true h, decide_eq_true (by omega)]
  · rw [decide_eq_false h, decide_eq_false (by omega)]
theorem filter100 (n : Nat) : (Cs kinds n).filter (keep 100) = Cs kinds n := by
  rw [List.filter_eq_self]
  intro c hc
  obtain ⟨j, _, rfl⟩ := List.mem_map.1 hc
  rw [keep100 kinds 100 (by omega) (by omega)]; rfl
/-! ### issuing them -/
theorem issue_loop (order : List (BitVec 8)) (wait : BitVec 8) (hl : kinds.length ≤ 140737488351232) (R : ∀ n, n ≤ 20 → n ≤ kinds.length → passkeylaw29ChallengeOnceJ1 kinds order wait sec (n : Int) (Cs kinds n) (Bs kinds sec n) = some true) : ∀ (m f i : Nat), i + m = 20 → i ≤ kinds.length → m < f →
    passkeylaw29ChallengeOnceL12 kinds order wait f sec (i : Int) (Cs kinds i) (Bs kinds sec i) (i : Int) = some true
  | m, f, i, hm, hi, hf => by
    obtain ⟨f, rfl⟩ : ∃ g, f = g + 1 := ⟨f - 1, by omega⟩
    rw [passkeylaw29ChallengeOnceL12]
    by_cases h1 : i < kinds.length
    · rw [if_pos (by rw [decide_eq_true_eq]; omega)]
      cases m with
      | zero =>
        rw [decide_eq_false (by omega), passkeylaw29ChallengeOnceJ13, if_neg (by simp)]
        exact R i (by omega) hi
      | succ m =>
        have ek : kinds.getD i 0#8 = kinds[i] := by rw [List.getD_eq_getElem?_getD, List.getElem?_eq_getElem h1]; rfl
        have e1 : w64 ((i : Int) + 1) = ((i + 1 : Nat) : Int) := by rw [w64_of (by omega) (by omega)]; omega
        have hko : kindOf (kinds.getD i 0#8) = 1 ∨ kindOf (kinds.getD i 0#8) = 2 := by
          have := and1 (kinds.getD i 0#8)
          unfold kindOf; omega
        have hnm := nmS_length (kinds.getD i 0#8)
        rw [decide_eq_true (by omega), passkeylaw29ChallengeOnceJ13, if_pos rfl, asq_pos (by omega), lett_def, asq_pos (by omega), Int.toNat_natCast, name_eq, Option.bind_some, asq_pos (by omega), kind_w, issue_eq _ _ _ _ _ hko (by omega) (by omega) (by omega) (by rw [Cs_length]; omega), Option.bind_some, issueS]
        simp only
        rw [filter100, Cs_length, if_neg (show ¬ 32 ≤ i by omega)]
        simp only
        rw [if_neg (by decide), asq_pos (by rw [List.length_append, Bs_length]; simp only [List.length_cons, List.length_nil]; omega), e1]
        have s1 : Cs kinds i ++ [(⟨(i : Int), kindOf (kinds.getD i 0#8), nmS (kinds.getD i 0#8), (kinds.getD i 0#8 &&& 8#8) == 8#8, 100⟩ : TApiChallenge)] = Cs kinds (i + 1) := (Cs_succ kinds i).symm
        have s2 : Bs kinds sec i ++ [cbytes sec (⟨(i : Int), kindOf (kinds.getD i 0#8), nmS (kinds.getD i 0#8), (kinds.getD i 0#8 &&& 8#8) == 8#8, 100⟩ : TApiChallenge)] = Bs kinds sec (i + 1) := (Bs_succ kinds sec i).symm
        rw [s1, s2]
        exact issue_loop order wait hl R m f (i + 1) (by omega) (by omega) (by omega)
    · rw [if_neg (by rw [decide_eq_true_eq]; omega), passkeylaw29ChallengeOnceJ13, if_neg (by simp)]
      exact R i (by omega) hi
/-! ### no two are alike -/
theorem inner_loop (q : Int → Option Bool) (n i : Nat) (hn : n ≤ 20) (hi : i < n) : ∀ (m f k : Nat), k + m = i → m < f → passkeylaw29ChallengeOnceL11 q (Bs kinds sec n) (i : Int) f (k : Int) = q (w64 ((i : Int) + 1))
  | m, f, k, hm, hf => by
    obtain ⟨f, rfl⟩ : ∃ g, f = g + 1 := ⟨f - 1, by omega⟩
    rw [passkeylaw29ChallengeOnceL11]
    cases m with
    | zero => rw [if_neg (by rw [decide_eq_true_eq]; omega), passkeylaw29ChallengeOnceJ10]
    | succ m =>
      have e1 : w64 ((k : Int) + 1) = ((k + 1 : Nat) : Int) := by rw [w64_of (by omega) (by omega)]; omega
      rw [if_pos (by rw [decide_eq_true_eq]; omega), Bs_length, asq_pos (by omega), asq_pos (by omega), Int.toNat_natCast, Int.toNat_natCast, Bs_get kinds sec hi, Bs_get kinds sec (by omega : k < n), if_neg (by
        rw [beq_iff_eq]; intro h
        have := cbytes_inj sec (by omega) (by omega) _ _ rfl rfl h
        omega), e1]
      exact inner_loop q n i hn hi m f (k + 1) (by omega) (by omega)
theorem outer_loop (order : List (BitVec 8)) (wait : BitVec 8) (n : Nat) (hn : n ≤ 20) (cnt : Int) (o : List TApiChallenge) (R : passkeylaw29ChallengeOnceJ2 kinds order wait sec cnt o (Bs kinds sec n) = some true) : ∀ (m f i : Nat), i + m = n → m < f → passkeylaw29ChallengeOnceL9 kinds order wait sec cnt o (Bs kinds sec n) f (i : Int) = some true
  | m, f, i, hm, hf => by
    obtain ⟨f, rfl⟩ : ∃ g, f = g + 1 := ⟨f - 1, by omega⟩
    rw [passkeylaw29ChallengeOnceL9, Bs_length]
    cases m with
    | zero => rw [if_neg (by rw [decide_eq_true_eq]; omega)]; exact R
    | succ m =>
      have e1 : w64 ((i : Int) + 1) = ((i + 1 : Nat) : Int) := by rw [w64_of (by omega) (by omega)]; omega
      rw [if_pos (by rw [decide_eq_true_eq]; omega)]
      have := inner_loop kinds sec (passkeylaw29ChallengeOnceL9 kinds order wait sec cnt o (Bs kinds sec n) f) n i hn (by omega) i FUEL 0 (by omega) (by simp only [FUEL]; omega)
      refine this.trans ?_
      rw [e1]
      exact outer_loop order wait n hn cnt o R m f (i + 1) (by omega) (by omega)
/-! ### using them -/
def opn (n : Nat) (used : List Bool) : List TApiChallenge := ((List.range n).filter fun j => !(used.getD j false)).map (mkj kinds)
theorem opn_new (n : Nat) : opn kinds n (List.replicate n false) = Cs kinds n := by
  rw [opn, Cs, List.filter_eq_self.2]
  intro j hj
  have : j < n := List.mem_range.1 hj
  simp [List.getD_eq_getElem?_getD, List.getElem?_replicate, this]
theorem opn_length (n : Nat) (used : List Bool) : (opn kinds n used).length ≤ n := by
  rw [opn, List.length_map]
  exact Nat.le_trans (List.length_filter_le _ _) (by simp)
theorem opn_mem {n : Nat} {used : List Bool} {c : TApiChallenge} (h : c ∈ opn kinds n used) : ∃ j, j < n ∧ used.getD j false = false ∧ c = mkj kinds j := by
  obtain ⟨j, hj, rfl⟩ := List.mem_map.1 h
  obtain ⟨h1, h2⟩ := List.mem_filter.1 hj
  exact ⟨j, List.mem_range.1 h1, by simpa using h2, rfl⟩
theorem range_split {n k : Nat} (h : k < n) : ∃ A B, List.range n = A ++ k :: B ∧ k ∉ A ∧ k ∉ B := by
  have e : List.range n = (List.range n).take k ++ k :: (List.range n).drop (k + 1) := by
    have h1 := (List.take_append_drop k (List.range n)).symm
    rw [List.drop_eq_getElem_cons (i := k) (by simpa using h)] at h1
    simpa using h1
  have hn : (List.range n).Nodup := List.nodup_range
  refine ⟨_, _, e, ?_, ?_⟩
  · rw [e] at hn
    intro hk
    exact (List.nodup_append.1 hn).2.2 k hk k List.mem_cons_self rfl
  · rw [e] at hn
    exact (List.nodup_cons.1 (List.nodup_append.1 hn).2.1).1
theorem sat_mkj {n j k : Nat} (hn : n ≤ 20) (hj : j < n) (hk : k < n) (kind : Int) : sat sec (cbytes sec (mkj kinds k)) kind (mkj kinds j) = (kindOf (kinds.getD j 0#8) == kind && j == k) := by
  unfold sat
  have e : (cbytes sec (mkj kinds j) == cbytes sec (mkj kinds k)) = (j == k) := by
    by_cases h : j = k
    · subst h; simp
    · rw [beq_eq_false_iff_ne.2 h, beq_eq_false_iff_ne]
      intro hh
      exact h (cbytes_inj sec (by omega) (by omega) _ _ rfl rfl hh)
  rw [e]; rfl
/-- A challenge that may be used is used. -/
theorem use_yes {n k : Nat} (hn : n ≤ 20) (hk : k < n) (used : List Bool) (hul : used.length = n) (hu : used.getD k false = false) (cnt now : Int) (h0 : 0 ≤ now) (h1 : now ≤ 160) :
    challengeUse ⟨sec, cnt, opn kinds n used⟩ (cbytes sec (mkj kinds k)) (kindOf (kinds.getD k 0#8)) now = some (⟨sec, cnt, opn kinds n (used.set k true)⟩, mkj kinds k, 0) := by
  have hol := opn_length kinds n used
  have hkeep : (opn kinds n used).filter (keep now) = opn kinds n used := by
    rw [List.filter_eq_self]
    intro c hc
    obtain ⟨j, _, _, rfl⟩ := opn_mem kinds hc
    rw [keep100 kinds now h0 (by omega), decide_eq_true h1]
  rw [use_eq _ _ _ _ h0 (by omega) (by simp only; omega) (fun c hc => by
    obtain ⟨j, _, _, rfl⟩ := opn_mem kinds hc
    have := nmS_length (kinds.getD j 0#8)
    show (nmS _).length ≤ 300
    omega)]
  simp only
  rw [hkeep]
  obtain ⟨A, B, hr, hA, hB⟩ := range_split hk
  have mem : ∀ j, j ∈ A ∨ j ∈ B → j < n ∧ j ≠ k := by
    intro j hj
    refine ⟨List.mem_range.1 (by
      rw [hr, List.mem_append, List.mem_cons]
      rcases hj with hj | hj
      · exact Or.inl hj
      · exact Or.inr (Or.inr hj)), ?_⟩
    rintro rfl
    rcases hj with hj | hj
    · exact hA hj
    · exact hB hj
  have ho : opn kinds n used = (A.filter fun j => !(used.getD j false)).map (mkj kinds) ++ mkj kinds k :: (B.filter fun j => !(used.getD j false)).map (mkj kinds) := by
    rw [opn, hr, List.filter_append, List.filter_cons_of_pos (by rw [hu]; rfl), List.map_append, List.map_cons]
  have same : ∀ L : List Nat, (∀ j ∈ L, j ≠ k) → (L.filter fun j => !((used.set k true).getD j false)) = L.filter fun j => !(used.getD j false) := by
    intro L hL
    refine List.filter_congr fun j hj => ?_
    rw [List.getD_eq_getElem?_getD, List.getD_eq_getElem?_getD, List.getElem?_set_ne (Ne.symm (hL j hj))]
  have hset : (used.set k true).getD k false = true := by rw [List.getD_eq_getElem?_getD, List.getElem?_set_self (by omega)]; rfl
  have ho' : opn kinds n (used.set k true) = (A.filter fun j => !(used.getD j false)).map (mkj kinds) ++ (B.filter fun j => !(used.getD j false)).map (mkj kinds) := by
    rw [opn, hr, List.filter_append, List.filter_cons_of_neg (by rw [hset]; simp), same A (fun j hj => (mem j (Or.inl hj)).2), same B (fun j hj => (mem j (Or.inr hj)).2), List.map_append]
  rw [ho, useR_hit _ _ _ _ _ (by rw [sat_mkj kinds sec hn hk hk]; simp) _ _ (fun d hd => by
    obtain ⟨j, hj, rfl⟩ := List.mem_map.1 hd
    have := mem j (Or.inl (List.mem_filter.1 hj).1)
    rw [sat_mkj kinds sec hn this.1 hk, beq_eq_false_iff_ne.2 this.2, Bool.and_false]), ho']
  rfl
/-- A challenge that may not be used is refused. -/
theorem use_no {n k : Nat} (hn : n ≤ 20) (hk : k < n) (used : List Bool) (hul : used.length = n) (kind : Int) (cnt now : Int) (h0 : 0 ≤ now) (h1 : now ≤ 1000) (h : used.getD k false = true ∨ kindOf (kinds.getD k 0#8) ≠ kind ∨ 160 < now) :
    challengeUse ⟨sec, cnt, opn kinds n used⟩ (cbytes sec (mkj kinds k)) kind now = some (⟨sec, cnt, opn kinds n used⟩, zC, 35) := by
  have hol := opn_length kinds n used
  rw [use_eq _ _ _ _ h0 (by omega) (by simp only; omega) (fun c hc => by
    obtain ⟨j, _, _, rfl⟩ := opn_mem kinds hc
    have := nmS_length (kinds.getD j 0#8)
    show (nmS _).length ≤ 300
    omega)]
  simp only
  rw [useR_none]
  intro c hc
  obtain ⟨hc1, hc2⟩ := List.mem_filter.1 hc
  obtain ⟨j, hj, hju, rfl⟩ := opn_mem kinds hc1
  rw [keep100 kinds now h0 h1, decide_eq_true_eq] at hc2
  rw [sat_mkj kinds sec hn hj hk]
  by_cases hjk : j = k
  · subst hjk
    rcases h with h | h | h
    · rw [h] at hju; simp at hju
    · rw [beq_eq_false_iff_ne.2 h, Bool.false_and]
    · omega
  · rw [beq_eq_false_iff_ne.2 hjk, Bool.and_false]
theorem use_law (order : List (BitVec 8)) (wait : BitVec 8) (n : Nat) (hn : n ≤ 20) (hkn : n ≤ kinds.length) (cnt : Int) : ∀ (m f i : Nat) (used : List Bool), i + m = 41 → used.length = n → m < f →
    passkeylaw29ChallengeOnceL4 kinds order wait (Bs kinds sec n) f sec cnt (opn kinds n used) used (i : Int) = some true
  | m, f, i, used, hm, hul, hf => by
    obtain ⟨f, rfl⟩ : ∃ g, f = g + 1 := ⟨f - 1, by omega⟩
    have stop : ∀ v26 v27 v28 v29 v30, passkeylaw29ChallengeOnceJ5 (passkeylaw29ChallengeOnceL4 kinds order wait (Bs kinds sec n) f) kinds order wait (Bs kinds sec n) v26 v27 v28 v29 v30 false = some true := fun _ _ _ _ _ => by
      rw [passkeylaw29ChallengeOnceJ5, if_neg (by simp), passkeylaw29ChallengeOnceJ3, awake_eq]; rfl
    rw [passkeylaw29ChallengeOnceL4]
    by_cases h1 : ¬ i < order.length
    · rw [if_neg (by rw [decide_eq_true_eq]; omega)]; exact stop _ _ _ _ _
    rw [if_pos (by rw [decide_eq_true_eq]; omega)]
    replace h1 : i < order.length := Classical.not_not.1 h1
    by_cases h2 : ¬ i < 40
    · rw [if_neg (by rw [decide_eq_true_eq]; omega)]; exact stop _ _ _ _ _
    replace h2 : i < 40 := Classical.not_not.1 h2
    rw [if_pos (by rw [decide_eq_true_eq]; omega), Bs_length]
    by_cases h3 : ¬ 0 < n
    · rw [decide_eq_false (by omega)]; exact stop _ _ _ _ _
    replace h3 : 0 < n := Classical.not_not.1 h3
    obtain ⟨m, rfl⟩ : ∃ g, m = g + 1 := ⟨m - 1, by omega⟩
    have e1 : w64 ((i : Int) + 1) = ((i + 1 : Nat) : Int) := by rw [w64_of (by omega) (by omega)]; omega
    have go : ∀ u : List Bool, u.length = n → passkeylaw29ChallengeOnceL4 kinds order wait (Bs kinds sec n) f sec cnt (opn kinds n u) u (w64 ((i : Int) + 1)) = some true := fun u hu => by
      rw [e1]; exact use_law order wait n hn hkn cnt m f (i + 1) u (by omega) hu (by omega)
    obtain ⟨k, hkd⟩ : ∃ k, k = (order.getD i 0#8).toNat % n := ⟨_, rfl⟩
    have hk : k < n := by rw [hkd]; exact Nat.mod_lt _ h3
    have ek : ((order.getD i 0#8).toNat : Int).tmod (n : Int) = (k : Int) := by rw [Int.tmod_eq_emod_of_nonneg (by omega), hkd]; omega
    obtain ⟨kd, hkd2⟩ : ∃ kd : Int, w64 ((1 : Int) + ((order.getD i 0#8 >>> 7).toNat : Int)) = kd := ⟨_, rfl⟩
    have hwt := wait.isLt
    have ew : w64 (100 + (wait.toNat : Int)) = ((100 + wait.toNat : Nat) : Int) := by rw [w64_of (by omega) (by omega)]; omega
    have keepU : used.getD k false = true → used.set k true = used := fun h => by
      apply List.ext_getElem?
      intro j
      by_cases hj : k = j
      · subst hj
        rw [List.getElem?_set_self (by omega), List.getElem?_eq_getElem (by omega)]
        rw [List.getD_eq_getElem?_getD, List.getElem?_eq_getElem (by omega)] at h
        simpa using h.symm
      · rw [List.getElem?_set_ne hj]
    have keepF : used.getD k false = false → used.set k false = used := fun h => by
      apply List.ext_getElem?
      intro j
      by_cases hj : k = j
      · subst hj
        rw [List.getElem?_set_self (by omega), List.getElem?_eq_getElem (by omega)]
        rw [List.getD_eq_getElem?_getD, List.getElem?_eq_getElem (by omega)] at h
        simpa using h.symm
      · rw [List.getElem?_set_ne hj]
    -- a use that is refused
    have no : (used.getD k false = true ∨ kindOf (kinds.getD k 0#8) ≠ kd ∨ 160 < (100 + wait.toNat : Nat)) → passkeylaw29ChallengeOnceJ6 (passkeylaw29ChallengeOnceL4 kinds order wait (Bs kinds sec n) f) kinds used (i : Int) (k : Int) (⟨sec, cnt, opn kinds n used⟩, zC, 35) false = some true := fun h => by
      rw [passkeylaw29ChallengeOnceJ6]
      simp only
      rw [if_neg (by decide), if_neg (by decide), passkeylaw29ChallengeOnceJ7, if_neg (by simp), hul, asq_pos (by omega), Int.toNat_natCast, Nat.zero_add]
      by_cases hu : used.getD k false = true
      · rw [if_pos hu, asq_pos (by omega), passkeylaw29ChallengeOnceJ8]
        simp only
        rw [keepU hu]
        exact go used hul
      · rw [if_neg hu, asq_pos (by omega), passkeylaw29ChallengeOnceJ8]
        simp only
        rw [keepF (by simpa using hu)]
        exact go used hul
    rw [decide_eq_true (by omega), passkeylaw29ChallengeOnceJ5, if_pos rfl, asq_pos (by omega), Bs_length, asq_pos (by omega), lett_def, Int.toNat_natCast, ek, asq_pos (by omega), lett_def, asq_pos (by omega), hkd2, ew, Int.toNat_natCast, Bs_get kinds sec hk, hul]
    by_cases hu : used.getD k false = true
    · rw [use_no kinds sec hn hk used hul kd cnt _ (by omega) (by omega) (Or.inl hu), Option.bind_some, asq_pos (by omega), Nat.zero_add, hu, if_neg (by simp)]
      exact no (Or.inl hu)
    · have hu' : used.getD k false = false := by simpa using hu
      have hnot : (!(used.getD (0 + k) false)) = true := by rw [Nat.zero_add, hu']; rfl
      by_cases hkind : kindOf (kinds.getD k 0#8) ≠ kd
      · rw [use_no kinds sec hn hk used hul kd cnt _ (by omega) (by omega) (Or.inr (Or.inl hkind)), Option.bind_some, asq_pos (by omega), if_pos hnot, asq_pos (by omega), lett_def, kind_w, if_neg (by rw [beq_iff_eq]; exact fun h => hkind h.symm)]
        exact no (Or.inr (Or.inl hkind))
      replace hkind : kindOf (kinds.getD k 0#8) = kd := Classical.not_not.1 hkind
      by_cases hw : ¬ wait.toNat ≤ 60
      · rw [use_no kinds sec hn hk used hul kd cnt _ (by omega) (by omega) (Or.inr (Or.inr (by omega))), Option.bind_some, asq_pos (by omega), if_pos hnot, asq_pos (by omega), lett_def, kind_w, if_pos (by rw [beq_iff_eq]; exact hkind.symm), decide_eq_false (by omega)]
        exact no (Or.inr (Or.inr (by omega)))
      replace hw : wait.toNat ≤ 60 := Classical.not_not.1 hw
      rw [← hkind, use_yes kinds sec hn hk used hul hu' cnt _ (by omega) (by omega), Option.bind_some, asq_pos (by omega), if_pos hnot, asq_pos (by omega), lett_def, kind_w, if_pos (beq_self_eq_true _), decide_eq_true (by omega), passkeylaw29ChallengeOnceJ6]
      simp only
      have n1 : (mkj kinds k).Number = (k : Int) := rfl
      have n2 : (mkj kinds k).Account = nmS (kinds.getD k 0#8) := rfl
      have n3 : (mkj kinds k).Bound = ((kinds.getD k 0#8 &&& 8#8) == 8#8) := rfl
      rw [if_neg (by decide), if_pos (beq_self_eq_true _), n1, if_neg (by simp), asq_pos (by omega), Int.toNat_natCast, name_eq, Option.bind_some, n2, if_neg (by simp), asq_pos (by omega), n3, passkeylaw29ChallengeOnceJ7, if_neg (by simp), hul, asq_pos (by omega), Int.toNat_natCast, Nat.zero_add, hu', if_neg (by simp), asq_pos (by omega), passkeylaw29ChallengeOnceJ8]
      exact go (used.set k true) (by rw [List.length_set]; exact hul)
theorem J2_eq (order : List (BitVec 8)) (wait : BitVec 8) (n : Nat) (hn : n ≤ 20) (hkn : n ≤ kinds.length) (cnt : Int) : passkeylaw29ChallengeOnceJ2 kinds order wait sec cnt (Cs kinds n) (Bs kinds sec n) = some true := by
  rw [passkeylaw29ChallengeOnceJ2, Bs_length, asq_pos (by omega), Int.toNat_natCast, ← opn_new]
  exact use_law kinds sec order wait n hn hkn cnt 41 FUEL 0 _ (by omega) (by simp) (by simp only [FUEL]; omega)
end
theorem challengeOnce_holds (a0 : BitVec 64) (a1 a2 : List (BitVec 8)) (a3 : BitVec 8) (h1 : a1.length ≤ 140737488351232) (h2 : a2.length ≤ 140737488351232) : passkeylaw29ChallengeOnce a0 a1 a2 a3 = some true := by
  rw [passkeylaw29ChallengeOnce, challengeNew, Option.bind_some]
  refine issue_loop a1 a0 a2 a3 h1 (fun n hn hkn => ?_) 20 FUEL 0 (by omega) (by omega) (by simp only [FUEL]; omega)
  rw [passkeylaw29ChallengeOnceJ1]
  exact outer_loop a1 a0 a2 a3 n hn _ _ (J2_eq a1 a0 a2 a3 n hn hkn _) n FUEL 0 (by omega) (by simp only [FUEL]; omega)
end Go.Proofs.Ty
