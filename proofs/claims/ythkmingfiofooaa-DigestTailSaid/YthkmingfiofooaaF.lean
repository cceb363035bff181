/- What the Go functions compute, as plain functions. PRINTED by a program of this session (ty.py). -/
import Derived.Test.YthkmingfiofooaaRc
set_option linter.unusedVariables false
set_option linter.unusedSimpArgs false
set_option maxHeartbeats 4000000
set_option maxRecDepth 10000
namespace Go.Proofs.Ty
open Go Go.RW
def FUEL : Nat := 18446744073709551616
structure TDigeststate where
  v0 : BitVec 64
  v1 : BitVec 64
  v2 : BitVec 64
  v3 : BitVec 64
deriving DecidableEq, Inhabited
def eTDigeststate (s : TDigeststate) : D := .agg [eU64 s.v0, eU64 s.v1, eU64 s.v2, eU64 s.v3]
structure TA4BitVec64 where
  c0 : BitVec 64
  c1 : BitVec 64
  c2 : BitVec 64
  c3 : BitVec 64
deriving DecidableEq, Inhabited
def eTA4BitVec64 (s : TA4BitVec64) : D := .agg [eU64 s.c0, eU64 s.c1, eU64 s.c2, eU64 s.c3]
def digestlittleJ1 (v5 : BitVec 64) : Option (BitVec 64) :=
  some v5
def digestlittleL2 (a0 : List (BitVec 8)) : Nat → (BitVec 64) → Int → Option (BitVec 64)
  | 0, _, _ => none
  | k + 1, v12, v13 =>
  (if (decide (v13 < (a0.length : Int))) then (asq (0 ≤ v13 ∧ v13 < (a0.length : Int)) (asq (0 ≤ (w64 ((8 : Int) * v13))) (lett (((a0.getD v13.toNat 0#8).setWidth 64) <<< (w64 ((8 : Int) * v13)).toNat) fun v26 => (digestlittleL2 a0 k) (v12 ||| v26) (w64 (v13 + (1 : Int)))))) else digestlittleJ1 v12)
/-- passkey/digest.little -/
def digestlittle (a0 : List (BitVec 8)) : Option (BitVec 64) :=
  digestlittleL2 a0 FUEL 0#64 (0 : Int)


/-- math/bits.RotateLeft64 -/
def bitsRotateLeft64 (a0 : BitVec 64) (a1 : Int) : Option (BitVec 64) :=
  (lett ((a0 <<< ((BitVec.ofInt 64 a1) &&& 63#64).toNat) ||| (a0 >>> (64#64 - ((BitVec.ofInt 64 a1) &&& 63#64)).toNat)) fun v7 => some v7)

def digeststateroundL1 (a1 : Int) : Nat → (BitVec 64) → (BitVec 64) → (BitVec 64) → (BitVec 64) → Int → Option (TDigeststate)
  | 0, _, _, _, _, _ => none
  | k + 1, v4, v5, v6, v7, v8 =>
  (if (decide (v8 < a1)) then ((bitsRotateLeft64 v5 (13 : Int)).bind fun y20 => ((bitsRotateLeft64 (v4 + v5) (32 : Int)).bind fun y24 => ((bitsRotateLeft64 v7 (16 : Int)).bind fun y30 => ((bitsRotateLeft64 (y30 ^^^ (v6 + v7)) (21 : Int)).bind fun y36 => ((bitsRotateLeft64 (y20 ^^^ (v4 + v5)) (17 : Int)).bind fun y42 => ((bitsRotateLeft64 ((v6 + v7) + (y20 ^^^ (v4 + v5))) (32 : Int)).bind fun y45 => (digeststateroundL1 a1 k) (y24 + (y30 ^^^ (v6 + v7))) (y42 ^^^ ((v6 + v7) + (y20 ^^^ (v4 + v5)))) y45 (y36 ^^^ (y24 + (y30 ^^^ (v6 + v7)))) (w64 (v8 + (1 : Int))))))))) else some (TDigeststate.mk v4 v5 v6 v7))
/-- (*passkey/digest.state).round -/
def digeststateround (a0 : TDigeststate) (a1 : Int) : Option (TDigeststate) :=
  digeststateroundL1 a1 FUEL a0.v0 a0.v1 a0.v2 a0.v3 (0 : Int)


/-- (*passkey/digest.state).word -/
def digeststateword (a0 : TDigeststate) (a1 : BitVec 64) : Option (TDigeststate) :=
  ((digeststateround (TDigeststate.mk a0.v0 a0.v1 a0.v2 (a0.v3 ^^^ a1)) (2 : Int)).bind fun y5 => some (TDigeststate.mk (y5.v0 ^^^ a1) y5.v1 y5.v2 y5.v3))

def digestSumJ1 (a2 : List (BitVec 8)) (v7 : List (BitVec 8)) (v8 : BitVec 64) (v9 : BitVec 64) (v10 : BitVec 64) (v11 : BitVec 64) : Option (BitVec 64) :=
  ((digestlittle v7).bind fun y15 => ((digeststateword (TDigeststate.mk v8 v9 v10 v11) (((BitVec.ofInt 64 (a2.length : Int)) <<< 56) ||| y15)).bind fun y17 => ((digeststateround (TDigeststate.mk y17.v0 y17.v1 (y17.v2 ^^^ 255#64) y17.v3) (4 : Int)).bind fun y23 => some (((y23.v0 ^^^ y23.v1) ^^^ y23.v2) ^^^ y23.v3))))
def digestSumL2 (a2 : List (BitVec 8)) : Nat → (List (BitVec 8)) → (BitVec 64) → (BitVec 64) → (BitVec 64) → (BitVec 64) → Option (BitVec 64)
  | 0, _, _, _, _, _ => none
  | k + 1, v28, v29, v30, v31, v32 =>
  (if (decide ((8 : Int) ≤ (v28.length : Int))) then (asq (0 ≤ (8 : Int) ∧ (8 : Int) ≤ (v28.length : Int)) ((digestlittle (dropTake 0 (8 : Int).toNat v28)).bind fun y42 => ((digeststateword (TDigeststate.mk v29 v30 v31 v32) y42).bind fun y44 => (asq (0 ≤ (8 : Int) ∧ (8 : Int) ≤ (v28.length : Int)) ((digestSumL2 a2 k) (dropTake (8 : Int).toNat v28.length v28) y44.v0 y44.v1 y44.v2 y44.v3))))) else digestSumJ1 a2 v28 v29 v30 v31 v32)
/-- passkey/digest.Sum -/
def digestSum (a0 : BitVec 64) (a1 : BitVec 64) (a2 : List (BitVec 8)) : Option (BitVec 64) :=
  digestSumL2 a2 FUEL a2 (a0 ^^^ 8317987319222330741#64) (a1 ^^^ 7237128888997146477#64) (a0 ^^^ 7816392313619706465#64) (a1 ^^^ 8387220255154660723#64)

def digestWordsJ1 (v5 : List (BitVec 8)) : Option (List (BitVec 8)) :=
  some v5
def digestWordsJ3 (q2 : (List (BitVec 8)) → Int → Option (List (BitVec 8))) (v13 : Int) (v19 : List (BitVec 8)) : Option (List (BitVec 8)) :=
  q2 v19 (w64 (v13 + (1 : Int)))
def digestWordsL4 (q2 : (List (BitVec 8)) → Int → Option (List (BitVec 8))) (a0 : List (BitVec 64)) (v13 : Int) : Nat → (List (BitVec 8)) → Int → Option (List (BitVec 8))
  | 0, _, _ => none
  | k + 1, v29, v30 =>
  (if (decide (v30 < (8 : Int))) then (asq (0 ≤ (w64 ((56 : Int) - (w64 ((8 : Int) * v30))))) (lett ((a0.getD v13.toNat 0#64) >>> (w64 ((56 : Int) - (w64 ((8 : Int) * v30)))).toNat) fun v42 => (asq (((v29 ++ ([(v42.setWidth 8)] : List (BitVec 8)))).length ≤ 140737488355328) ((digestWordsL4 q2 a0 v13 k) (v29 ++ ([(v42.setWidth 8)] : List (BitVec 8))) (w64 (v30 + (1 : Int))))))) else digestWordsJ3 q2 v13 v29)
def digestWordsL2 (a0 : List (BitVec 64)) : Nat → (List (BitVec 8)) → Int → Option (List (BitVec 8))
  | 0, _, _ => none
  | k + 1, v12, v13 =>
  (if (decide (v13 < (a0.length : Int))) then (asq (0 ≤ v13 ∧ v13 < (a0.length : Int)) (digestWordsL4 (digestWordsL2 a0 k) a0 v13 FUEL v12 (0 : Int))) else digestWordsJ1 v12)
/-- passkey/digest.Words -/
def digestWords (a0 : List (BitVec 64)) : Option (List (BitVec 8)) :=
  digestWordsL2 a0 FUEL ([] : List (BitVec 8)) (0 : Int)

def passkeylaw2awakeJ1 (v5 : List (BitVec 8)) : Option (Bool) :=
  ((digestSum 506097522914230528#64 1084818905618843912#64 v5).bind fun y9 => (if (y9 == 11613035633349379557#64) then ((digestWords ([1#64] : List (BitVec 64))).bind fun y12 => some (y12 == ([0#8, 0#8, 0#8, 0#8, 0#8, 0#8, 0#8, 1#8] : List (BitVec 8)))) else some false))
def passkeylaw2awakeL2  : Nat → (List (BitVec 8)) → Int → Option (Bool)
  | 0, _, _ => none
  | k + 1, v17, v18 =>
  (if (decide (v18 < (15 : Int))) then (asq (((v17 ++ ([(BitVec.ofInt 8 v18)] : List (BitVec 8)))).length ≤ 140737488355328) ((passkeylaw2awakeL2 k) (v17 ++ ([(BitVec.ofInt 8 v18)] : List (BitVec 8))) (w64 (v18 + (1 : Int))))) else passkeylaw2awakeJ1 v17)
/-- passkey/passkeylaw2.awake -/
def passkeylaw2awake  : Option (Bool) :=
  passkeylaw2awakeL2 FUEL ([] : List (BitVec 8)) (0 : Int)


/-- passkey/passkeyref1.rotl -/
def passkeyref1rotl (a0 : BitVec 64) (a1 : BitVec 64) : Option (BitVec 64) :=
  some ((a0 <<< a1.toNat) ||| (a0 >>> (64#64 - a1).toNat))


/-- passkey/passkeyref1.round -/
def passkeyref1round (a0 : TA4BitVec64) : Option (TA4BitVec64) :=
  ((passkeyref1rotl a0.c1 13#64).bind fun y7 => ((passkeyref1rotl (a0.c0 + a0.c1) 32#64).bind fun y11 => ((passkeyref1rotl a0.c3 16#64).bind fun y17 => ((passkeyref1rotl (y17 ^^^ (a0.c2 + a0.c3)) 21#64).bind fun y23 => ((passkeyref1rotl (y7 ^^^ (a0.c0 + a0.c1)) 17#64).bind fun y29 => ((passkeyref1rotl ((a0.c2 + a0.c3) + (y7 ^^^ (a0.c0 + a0.c1))) 32#64).bind fun y33 => some (TA4BitVec64.mk (y11 + (y17 ^^^ (a0.c2 + a0.c3))) (y29 ^^^ ((a0.c2 + a0.c3) + (y7 ^^^ (a0.c0 + a0.c1)))) y33 (y23 ^^^ (y11 + (y17 ^^^ (a0.c2 + a0.c3)))))))))))

def passkeyref1SumJ1 (v5 : BitVec 64) (v6 : BitVec 64) (v7 : BitVec 64) (v8 : BitVec 64) : Option (BitVec 64) :=
  ((passkeyref1round (TA4BitVec64.mk v5 v6 (v7 ^^^ 255#64) v8)).bind fun y14 => ((passkeyref1round y14).bind fun y16 => ((passkeyref1round y16).bind fun y18 => ((passkeyref1round y18).bind fun y20 => some (((y20.c0 ^^^ y20.c1) ^^^ y20.c2) ^^^ y20.c3)))))
def passkeyref1SumJ3 (q2 : (BitVec 64) → (BitVec 64) → (BitVec 64) → (BitVec 64) → Int → Option (BitVec 64)) (v31 : Int) (v37 : BitVec 64) (v38 : BitVec 64) (v39 : BitVec 64) (v40 : BitVec 64) : Option (BitVec 64) :=
  q2 v37 v38 v39 v40 (w64 (v31 + (8 : Int)))
def passkeyref1SumJ4 (q2 : (BitVec 64) → (BitVec 64) → (BitVec 64) → (BitVec 64) → Int → Option (BitVec 64)) (v27 : BitVec 64) (v28 : BitVec 64) (v29 : BitVec 64) (v30 : BitVec 64) (v31 : Int) (v46 : BitVec 64) : Option (BitVec 64) :=
  ((passkeyref1round (TA4BitVec64.mk v27 v28 v29 (v30 ^^^ v46))).bind fun y52 => ((passkeyref1round y52).bind fun y54 => passkeyref1SumJ3 q2 v31 (y54.c0 ^^^ v46) y54.c1 y54.c2 y54.c3))
def passkeyref1SumJ6 (q5 : (BitVec 64) → Int → Option (BitVec 64)) (v60 : BitVec 64) (v61 : Int) (v71 : BitVec 8) : Option (BitVec 64) :=
  q5 ((v60 <<< 8) ||| (v71.setWidth 64)) (w64 (v61 - (1 : Int)))
def passkeyref1SumL5 (q2 : (BitVec 64) → (BitVec 64) → (BitVec 64) → (BitVec 64) → Int → Option (BitVec 64)) (a2 : List (BitVec 8)) (v27 : BitVec 64) (v28 : BitVec 64) (v29 : BitVec 64) (v30 : BitVec 64) (v31 : Int) : Nat → (BitVec 64) → Int → Option (BitVec 64)
  | 0, _, _ => none
  | k + 1, v60, v61 =>
  (if (decide ((0 : Int) ≤ v61)) then (if (decide ((w64 (v31 + v61)) < (a2.length : Int))) then (asq (0 ≤ (w64 (v31 + v61)) ∧ (w64 (v31 + v61)) < (a2.length : Int)) (passkeyref1SumJ6 (passkeyref1SumL5 q2 a2 v27 v28 v29 v30 v31 k) v60 v61 (a2.getD (w64 (v31 + v61)).toNat 0#8))) else (if (v61 == (7 : Int)) then passkeyref1SumJ6 (passkeyref1SumL5 q2 a2 v27 v28 v29 v30 v31 k) v60 v61 (BitVec.ofInt 8 (a2.length : Int)) else passkeyref1SumJ6 (passkeyref1SumL5 q2 a2 v27 v28 v29 v30 v31 k) v60 v61 0#8)) else passkeyref1SumJ4 q2 v27 v28 v29 v30 v31 v60)
def passkeyref1SumL2 (a2 : List (BitVec 8)) : Nat → (BitVec 64) → (BitVec 64) → (BitVec 64) → (BitVec 64) → Int → Option (BitVec 64)
  | 0, _, _, _, _, _ => none
  | k + 1, v27, v28, v29, v30, v31 =>
  (if (decide (v31 ≤ (a2.length : Int))) then passkeyref1SumL5 (passkeyref1SumL2 a2 k) a2 v27 v28 v29 v30 v31 FUEL 0#64 (7 : Int) else passkeyref1SumJ1 v27 v28 v29 v30)
/-- passkey/passkeyref1.Sum -/
def passkeyref1Sum (a0 : BitVec 64) (a1 : BitVec 64) (a2 : List (BitVec 8)) : Option (BitVec 64) :=
  passkeyref1SumL2 a2 FUEL (a0 ^^^ 8317987319222330741#64) (a1 ^^^ 7237128888997146477#64) (a0 ^^^ 7816392313619706465#64) (a1 ^^^ 8387220255154660723#64) (0 : Int)


/-- passkey/passkeylaw2.DigestSums -/
def passkeylaw2DigestSums (a0 : BitVec 64) (a1 : BitVec 64) (a2 : List (BitVec 8)) : Option (Bool) :=
  (if (decide ((1000 : Int) < (a2.length : Int))) then ((passkeylaw2awake ).bind fun y9 => some y9) else ((digestSum a0 a1 a2).bind fun y13 => ((passkeyref1Sum a0 a1 a2).bind fun y15 => (if (y13 == y15) then ((passkeylaw2awake ).bind fun y18 => some y18) else some false))))

def passkeyref1WordsJ1 (v5 : List (BitVec 8)) : Option (List (BitVec 8)) :=
  some v5
def passkeyref1WordsJ3 (q2 : (List (BitVec 8)) → Int → Option (List (BitVec 8))) (v13 : Int) (v19 : List (BitVec 8)) : Option (List (BitVec 8)) :=
  q2 v19 (w64 (v13 + (1 : Int)))
def passkeyref1WordsL4 (q2 : (List (BitVec 8)) → Int → Option (List (BitVec 8))) (a0 : List (BitVec 64)) (v13 : Int) : Nat → (List (BitVec 8)) → Int → Option (List (BitVec 8))
  | 0, _, _ => none
  | k + 1, v26, v27 =>
  (if (decide ((0 : Int) ≤ v27)) then (asq (0 ≤ v13 ∧ v13 < (a0.length : Int)) (lett ((a0.getD v13.toNat 0#64) >>> (BitVec.ofInt 64 (w64 ((8 : Int) * v27))).toNat) fun v37 => (asq (((v26 ++ ([(v37.setWidth 8)] : List (BitVec 8)))).length ≤ 140737488355328) ((passkeyref1WordsL4 q2 a0 v13 k) (v26 ++ ([(v37.setWidth 8)] : List (BitVec 8))) (w64 (v27 - (1 : Int))))))) else passkeyref1WordsJ3 q2 v13 v26)
def passkeyref1WordsL2 (a0 : List (BitVec 64)) : Nat → (List (BitVec 8)) → Int → Option (List (BitVec 8))
  | 0, _, _ => none
  | k + 1, v12, v13 =>
  (if (decide (v13 < (a0.length : Int))) then passkeyref1WordsL4 (passkeyref1WordsL2 a0 k) a0 v13 FUEL v12 (7 : Int) else passkeyref1WordsJ1 v12)
/-- passkey/passkeyref1.Words -/
def passkeyref1Words (a0 : List (BitVec 64)) : Option (List (BitVec 8)) :=
  passkeyref1WordsL2 a0 FUEL ([] : List (BitVec 8)) (0 : Int)

def passkeylaw2DigestWordsJ1 (a0 : List (BitVec 64)) (a1 : List (BitVec 64)) (v4 : Bool) : Option (Bool) :=
  (if v4 then ((passkeylaw2awake ).bind fun y9 => some y9) else (asq (a0.length ≤ 17592186044416) (asq (((a0 ++ a1)).length ≤ 17592186044416) ((digestWords (a0 ++ a1)).bind fun y17 => ((passkeyref1Words (a0 ++ a1)).bind fun y19 => (if (y17 == y19) then ((digestWords a0).bind fun y22 => ((digestWords a1).bind fun y24 => (asq (y22.length + y24.length ≤ 9223372036854775807) ((digestWords (a0 ++ a1)).bind fun y27 => (if ((y22 ++ y24) == y27) then ((passkeylaw2awake ).bind fun y30 => some y30) else some false))))) else some false))))))
/-- passkey/passkeylaw2.DigestWords -/
def passkeylaw2DigestWords (a0 : List (BitVec 64)) (a1 : List (BitVec 64)) : Option (Bool) :=
  (if (decide ((100 : Int) < (a0.length : Int))) then passkeylaw2DigestWordsJ1 a0 a1 true else passkeylaw2DigestWordsJ1 a0 a1 (decide ((100 : Int) < (a1.length : Int))))


/-- passkey/digest.Mac -/
def digestMac (a0 : BitVec 64) (a1 : Int) (a2 : List (BitVec 8)) : Option (BitVec 64) :=
  ((digestSum a0 (1#64 + (BitVec.ofInt 64 a1)) a2).bind fun y5 => some y5)


/-- passkey/passkeyref1.Mac -/
def passkeyref1Mac (a0 : BitVec 64) (a1 : Int) (a2 : List (BitVec 8)) : Option (BitVec 64) :=
  ((passkeyref1Sum a0 (1#64 + (BitVec.ofInt 64 a1)) a2).bind fun y5 => some y5)


/-- passkey/passkeylaw2.DigestTail -/
def passkeylaw2DigestTail (a0 : BitVec 64) (a1 : List (BitVec 8)) (a2 : BitVec 8) : Option (Bool) :=
  (if (decide ((24 : Int) < (a1.length : Int))) then ((passkeylaw2awake ).bind fun y9 => some y9) else (asq (a1.length ≤ 140737488355328) (asq ((0 ≤ ((a2 % 17#8).toNat : Int) ∧ ((a2 % 17#8).toNat : Int).toNat ≤ 140737488355328) ∧ ((a1 ++ (List.replicate ((a2 % 17#8).toNat : Int).toNat 0#8))).length ≤ 140737488355328) ((digestMac a0 (3 : Int) a1).bind fun y17 => ((passkeyref1Mac a0 (3 : Int) a1).bind fun y19 => (if (y17 == y19) then ((digestMac a0 (3 : Int) (a1 ++ (List.replicate ((a2 % 17#8).toNat : Int).toNat 0#8))).bind fun y22 => ((passkeyref1Mac a0 (3 : Int) (a1 ++ (List.replicate ((a2 % 17#8).toNat : Int).toNat 0#8))).bind fun y24 => (if (y22 == y24) then ((passkeylaw2awake ).bind fun y27 => some y27) else some false))) else some false))))))


/-- passkey/digest.Hash -/
def digestHash (a0 : Int) (a1 : List (BitVec 8)) : Option (BitVec 64) :=
  ((digestSum (BitVec.ofInt 64 a0) 0#64 a1).bind fun y5 => some y5)


/-- passkey/digest.Derive -/
def digestDerive (a0 : BitVec 64) (a1 : List (BitVec 8)) (a2 : Int) : Option (BitVec 64) :=
  (asq (((a1 ++ ([0#8] : List (BitVec 8)))).length ≤ 140737488355328) ((digestWords ([(BitVec.ofInt 64 a2)] : List (BitVec 64))).bind fun y6 => (asq ((((a1 ++ ([0#8] : List (BitVec 8))) ++ y6)).length ≤ 140737488355328) ((digestMac a0 (4 : Int) ((a1 ++ ([0#8] : List (BitVec 8))) ++ y6)).bind fun y9 => some y9))))


/-- passkey/passkeyref1.Derive -/
def passkeyref1Derive (a0 : BitVec 64) (a1 : List (BitVec 8)) (a2 : Int) : Option (BitVec 64) :=
  (asq (((a1 ++ ([0#8] : List (BitVec 8)))).length ≤ 140737488355328) ((passkeyref1Words ([(BitVec.ofInt 64 a2)] : List (BitVec 64))).bind fun y6 => (asq ((((a1 ++ ([0#8] : List (BitVec 8))) ++ y6)).length ≤ 140737488355328) ((passkeyref1Mac a0 (4 : Int) ((a1 ++ ([0#8] : List (BitVec 8))) ++ y6)).bind fun y9 => some y9))))

def passkeylaw2DigestUsesJ1 (a0 : BitVec 64) (a1 : Int) (a2 : List (BitVec 8)) (a3 : List (BitVec 8)) (a4 : Int) (v4 : Bool) : Option (Bool) :=
  (if v4 then ((passkeylaw2awake ).bind fun y9 => some y9) else ((digestHash a1 a2).bind fun y13 => ((digestSum (BitVec.ofInt 64 a1) 0#64 a2).bind fun y15 => (if (y13 == y15) then ((digestMac a0 a1 a2).bind fun y18 => ((digestSum a0 (1#64 + (BitVec.ofInt 64 a1)) a2).bind fun y20 => (if (y18 == y20) then ((digestDerive a0 a3 a4).bind fun y23 => ((passkeyref1Derive a0 a3 a4).bind fun y25 => (if (y23 == y25) then ((passkeylaw2awake ).bind fun y28 => some y28) else some false))) else some false))) else some false))))
/-- passkey/passkeylaw2.DigestUses -/
def passkeylaw2DigestUses (a0 : BitVec 64) (a1 : Int) (a2 : List (BitVec 8)) (a3 : List (BitVec 8)) (a4 : Int) : Option (Bool) :=
  (if (decide ((1000 : Int) < (a2.length : Int))) then passkeylaw2DigestUsesJ1 a0 a1 a2 a3 a4 true else passkeylaw2DigestUsesJ1 a0 a1 a2 a3 a4 (decide ((300 : Int) < (a3.length : Int))))

end Go.Proofs.Ty
