/- What the Go functions compute, as plain functions. PRINTED by a program of this session (ty.py). -/
import Derived.Test.YtkcbojjoellloaaRc
set_option linter.unusedVariables false
set_option linter.unusedSimpArgs false
set_option maxHeartbeats 4000000
set_option maxRecDepth 10000
namespace Go.Proofs.Ty
open Go Go.RW
def FUEL : Nat := 18446744073709551616
structure TDigeststate where
  v0 : BitVec 64
  v1 : BitVec 64
  v2 : BitVec 64
  v3 : BitVec 64
deriving DecidableEq, Inhabited
def okTDigeststate (s : TDigeststate) : Prop := okT s.v0 ∧ okT s.v1 ∧ okT s.v2 ∧ okT s.v3 ∧ True
def eTDigeststate (s : TDigeststate) : D := .agg [eU64 s.v0, eU64 s.v1, eU64 s.v2, eU64 s.v3]
structure TA4BitVec64 where
  c0 : BitVec 64
  c1 : BitVec 64
  c2 : BitVec 64
  c3 : BitVec 64
deriving DecidableEq, Inhabited
def eTA4BitVec64 (s : TA4BitVec64) : D := .agg [eU64 s.c0, eU64 s.c1, eU64 s.c2, eU64 s.c3]
def digestWordsJ1 (v5 : List (BitVec 8)) : Option (List (BitVec 8)) :=
  some v5
def digestWordsJ3 (q2 : (List (BitVec 8)) → Int → Option (List (BitVec 8))) (v13 : Int) (v19 : List (BitVec 8)) : Option (List (BitVec 8)) :=
  q2 v19 (w64 (v13 + (1 : Int)))
def digestWordsL4 (q2 : (List (BitVec 8)) → Int → Option (List (BitVec 8))) (a0 : List (BitVec 64)) (v13 : Int) : Nat → (List (BitVec 8)) → Int → Option (List (BitVec 8))
  | 0, _, _ => none
  | k + 1, v29, v30 =>
  (if (decide (v30 < (8 : Int))) then (asq (0 ≤ (w64 ((56 : Int) - (w64 ((8 : Int) * v30))))) (lett ((a0.getD v13.toNat 0#64) >>> (w64 ((56 : Int) - (w64 ((8 : Int) * v30)))).toNat) fun v42 => (asq (((v29 ++ ([(v42.setWidth 8)] : List (BitVec 8)))).length ≤ 140737488355328) ((digestWordsL4 q2 a0 v13 k) (v29 ++ ([(v42.setWidth 8)] : List (BitVec 8))) (w64 (v30 + (1 : Int))))))) else digestWordsJ3 q2 v13 v29)
def digestWordsL2 (a0 : List (BitVec 64)) : Nat → (List (BitVec 8)) → Int → Option (List (BitVec 8))
  | 0, _, _ => none
  | k + 1, v12, v13 =>
  (if (decide (v13 < (a0.length : Int))) then (asq (0 ≤ v13 ∧ v13 < (a0.length : Int)) (digestWordsL4 (digestWordsL2 a0 k) a0 v13 FUEL v12 (0 : Int))) else digestWordsJ1 v12)
/-- passkey/digest.Words -/
def digestWords (a0 : List (BitVec 64)) : Option (List (BitVec 8)) :=
  digestWordsL2 a0 FUEL ([] : List (BitVec 8)) (0 : Int)

def digestlittleJ1 (v5 : BitVec 64) : Option (BitVec 64) :=
  some v5
def digestlittleL2 (a0 : List (BitVec 8)) : Nat → (BitVec 64) → Int → Option (BitVec 64)
  | 0, _, _ => none
  | k + 1, v12, v13 =>
  (if (decide (v13 < (a0.length : Int))) then (asq (0 ≤ v13 ∧ v13 < (a0.length : Int)) (asq (0 ≤ (w64 ((8 : Int) * v13))) (lett (((a0.getD v13.toNat 0#8).setWidth 64) <<< (w64 ((8 : Int) * v13)).toNat) fun v26 => (digestlittleL2 a0 k) (v12 ||| v26) (w64 (v13 + (1 : Int)))))) else digestlittleJ1 v12)
/-- passkey/digest.little -/
def digestlittle (a0 : List (BitVec 8)) : Option (BitVec 64) :=
  digestlittleL2 a0 FUEL (0#64) (0 : Int)


/-- math/bits.RotateLeft64 -/
def bitsRotateLeft64 (a0 : BitVec 64) (a1 : Int) : Option (BitVec 64) :=
  (lett (a0 >>> ((64#64) - ((BitVec.ofInt 64 a1) &&& (63#64))).toNat) fun v7 => some ((a0 <<< ((BitVec.ofInt 64 a1) &&& (63#64)).toNat) ||| v7))

def digeststateroundL1 (a1 : Int) : Nat → (BitVec 64) → (BitVec 64) → (BitVec 64) → (BitVec 64) → Int → Option (TDigeststate)
  | 0, _, _, _, _, _ => none
  | k + 1, v4, v5, v6, v7, v8 =>
  (if (decide (v8 < a1)) then ((bitsRotateLeft64 v5 (13 : Int)).bind fun y20 => ((bitsRotateLeft64 (v4 + v5) (32 : Int)).bind fun y24 => ((bitsRotateLeft64 v7 (16 : Int)).bind fun y30 => ((bitsRotateLeft64 (y30 ^^^ (v6 + v7)) (21 : Int)).bind fun y36 => ((bitsRotateLeft64 (y20 ^^^ (v4 + v5)) (17 : Int)).bind fun y42 => ((bitsRotateLeft64 ((v6 + v7) + (y20 ^^^ (v4 + v5))) (32 : Int)).bind fun y45 => (digeststateroundL1 a1 k) (y24 + (y30 ^^^ (v6 + v7))) (y42 ^^^ ((v6 + v7) + (y20 ^^^ (v4 + v5)))) y45 (y36 ^^^ (y24 + (y30 ^^^ (v6 + v7)))) (w64 (v8 + (1 : Int))))))))) else some (TDigeststate.mk v4 v5 v6 v7))
/-- (*passkey/digest.state).round -/
def digeststateround (a0 : TDigeststate) (a1 : Int) : Option (TDigeststate) :=
  digeststateroundL1 a1 FUEL a0.v0 a0.v1 a0.v2 a0.v3 (0 : Int)


/-- (*passkey/digest.state).word -/
def digeststateword (a0 : TDigeststate) (a1 : BitVec 64) : Option (TDigeststate) :=
  ((digeststateround (TDigeststate.mk a0.v0 a0.v1 a0.v2 (a0.v3 ^^^ a1)) (2 : Int)).bind fun y5 => some (TDigeststate.mk (y5.v0 ^^^ a1) y5.v1 y5.v2 y5.v3))

def digestSumJ1 (a2 : List (BitVec 8)) (v7 : List (BitVec 8)) (v8 : BitVec 64) (v9 : BitVec 64) (v10 : BitVec 64) (v11 : BitVec 64) : Option (BitVec 64) :=
  ((digestlittle v7).bind fun y15 => ((digeststateword (TDigeststate.mk v8 v9 v10 v11) (((BitVec.ofInt 64 (a2.length : Int)) <<< 56) ||| y15)).bind fun y17 => ((digeststateround (TDigeststate.mk y17.v0 y17.v1 (y17.v2 ^^^ (255#64)) y17.v3) (4 : Int)).bind fun y23 => some (((y23.v0 ^^^ y23.v1) ^^^ y23.v2) ^^^ y23.v3))))
def digestSumL2 (a2 : List (BitVec 8)) : Nat → (List (BitVec 8)) → (BitVec 64) → (BitVec 64) → (BitVec 64) → (BitVec 64) → Option (BitVec 64)
  | 0, _, _, _, _, _ => none
  | k + 1, v28, v29, v30, v31, v32 =>
  (if (decide ((8 : Int) ≤ (v28.length : Int))) then (asq (0 ≤ (8 : Int) ∧ (8 : Int) ≤ (v28.length : Int)) ((digestlittle (dropTake 0 (8 : Int).toNat v28)).bind fun y42 => ((digeststateword (TDigeststate.mk v29 v30 v31 v32) y42).bind fun y44 => (asq (0 ≤ (8 : Int) ∧ (8 : Int) ≤ (v28.length : Int)) ((digestSumL2 a2 k) (dropTake (8 : Int).toNat v28.length v28) y44.v0 y44.v1 y44.v2 y44.v3))))) else digestSumJ1 a2 v28 v29 v30 v31 v32)
/-- passkey/digest.Sum -/
def digestSum (a0 : BitVec 64) (a1 : BitVec 64) (a2 : List (BitVec 8)) : Option (BitVec 64) :=
  digestSumL2 a2 FUEL a2 (a0 ^^^ (8317987319222330741#64)) (a1 ^^^ (7237128888997146477#64)) (a0 ^^^ (7816392313619706465#64)) (a1 ^^^ (8387220255154660723#64))


/-- passkey/digest.Mac -/
def digestMac (a0 : BitVec 64) (a1 : Int) (a2 : List (BitVec 8)) : Option (BitVec 64) :=
  ((digestSum a0 ((1#64) + (BitVec.ofInt 64 a1)) a2).bind fun y5 => some y5)

def sealStreamJ1 (v5 : Int) (v9 : List (BitVec 8)) : Option (List (BitVec 8)) :=
  (asq (0 ≤ v5 ∧ v5 ≤ (v9.length : Int)) (some ((v9.drop (0 + 0)).take (v5.toNat - 0))))
def sealStreamL2 (a0 : BitVec 64) (a1 : BitVec 64) (v5 : Int) : Nat → (List (BitVec 8)) → (BitVec 64) → Option (List (BitVec 8))
  | 0, _, _ => none
  | k + 1, v17, v18 =>
  (if (decide ((v17.length : Int) < v5)) then ((digestWords ([a1, v18] : List (BitVec 64))).bind fun y27 => ((digestMac a0 (5 : Int) y27).bind fun y29 => ((digestWords ([y29] : List (BitVec 64))).bind fun y31 => (asq (((v17 ++ y31)).length ≤ 140737488355328) ((sealStreamL2 a0 a1 v5 k) (v17 ++ y31) (v18 + (1#64))))))) else sealStreamJ1 v5 v17)
/-- passkey/seal.Stream -/
def sealStream (a0 : BitVec 64) (a1 : BitVec 64) (a2 : Int) : Option (List (BitVec 8)) :=
  (lett (if (if (1024 : Int) < a2 then (1024 : Int) else a2) > (0 : Int) then (if (1024 : Int) < a2 then (1024 : Int) else a2) else (0 : Int)) fun v5 => sealStreamL2 a0 a1 v5 FUEL ([] : List (BitVec 8)) (0#64))

def passkeyref1WordsJ1 (v5 : List (BitVec 8)) : Option (List (BitVec 8)) :=
  some v5
def passkeyref1WordsJ3 (q2 : (List (BitVec 8)) → Int → Option (List (BitVec 8))) (v13 : Int) (v19 : List (BitVec 8)) : Option (List (BitVec 8)) :=
  q2 v19 (w64 (v13 + (1 : Int)))
def passkeyref1WordsL4 (q2 : (List (BitVec 8)) → Int → Option (List (BitVec 8))) (a0 : List (BitVec 64)) (v13 : Int) : Nat → (List (BitVec 8)) → Int → Option (List (BitVec 8))
  | 0, _, _ => none
  | k + 1, v26, v27 =>
  (if (decide ((0 : Int) ≤ v27)) then (asq (0 ≤ v13 ∧ v13 < (a0.length : Int)) (lett ((a0.getD v13.toNat 0#64) >>> (BitVec.ofInt 64 (w64 ((8 : Int) * v27))).toNat) fun v37 => (asq (((v26 ++ ([(v37.setWidth 8)] : List (BitVec 8)))).length ≤ 140737488355328) ((passkeyref1WordsL4 q2 a0 v13 k) (v26 ++ ([(v37.setWidth 8)] : List (BitVec 8))) (w64 (v27 - (1 : Int))))))) else passkeyref1WordsJ3 q2 v13 v26)
def passkeyref1WordsL2 (a0 : List (BitVec 64)) : Nat → (List (BitVec 8)) → Int → Option (List (BitVec 8))
  | 0, _, _ => none
  | k + 1, v12, v13 =>
  (if (decide (v13 < (a0.length : Int))) then passkeyref1WordsL4 (passkeyref1WordsL2 a0 k) a0 v13 FUEL v12 (7 : Int) else passkeyref1WordsJ1 v12)
/-- passkey/passkeyref1.Words -/
def passkeyref1Words (a0 : List (BitVec 64)) : Option (List (BitVec 8)) :=
  passkeyref1WordsL2 a0 FUEL ([] : List (BitVec 8)) (0 : Int)


/-- passkey/passkeyref1.rotl -/
def passkeyref1rotl (a0 : BitVec 64) (a1 : BitVec 64) : Option (BitVec 64) :=
  some ((a0 <<< a1.toNat) ||| (a0 >>> ((64#64) - a1).toNat))


/-- passkey/passkeyref1.round -/
def passkeyref1round (a0 : TA4BitVec64) : Option (TA4BitVec64) :=
  ((passkeyref1rotl a0.c1 (13#64)).bind fun y7 => ((passkeyref1rotl (a0.c0 + a0.c1) (32#64)).bind fun y11 => ((passkeyref1rotl a0.c3 (16#64)).bind fun y17 => ((passkeyref1rotl (y17 ^^^ (a0.c2 + a0.c3)) (21#64)).bind fun y23 => ((passkeyref1rotl (y7 ^^^ (a0.c0 + a0.c1)) (17#64)).bind fun y29 => ((passkeyref1rotl ((a0.c2 + a0.c3) + (y7 ^^^ (a0.c0 + a0.c1))) (32#64)).bind fun y33 => some (TA4BitVec64.mk (y11 + (y17 ^^^ (a0.c2 + a0.c3))) (y29 ^^^ ((a0.c2 + a0.c3) + (y7 ^^^ (a0.c0 + a0.c1)))) y33 (y23 ^^^ (y11 + (y17 ^^^ (a0.c2 + a0.c3)))))))))))

def passkeyref1SumJ1 (v5 : BitVec 64) (v6 : BitVec 64) (v7 : BitVec 64) (v8 : BitVec 64) : Option (BitVec 64) :=
  ((passkeyref1round (TA4BitVec64.mk v5 v6 (v7 ^^^ (255#64)) v8)).bind fun y14 => ((passkeyref1round y14).bind fun y16 => ((passkeyref1round y16).bind fun y18 => ((passkeyref1round y18).bind fun y20 => some (((y20.c0 ^^^ y20.c1) ^^^ y20.c2) ^^^ y20.c3)))))
def passkeyref1SumJ3 (q2 : (BitVec 64) → (BitVec 64) → (BitVec 64) → (BitVec 64) → Int → Option (BitVec 64)) (v31 : Int) (v37 : BitVec 64) (v38 : BitVec 64) (v39 : BitVec 64) (v40 : BitVec 64) : Option (BitVec 64) :=
  q2 v37 v38 v39 v40 (w64 (v31 + (8 : Int)))
def passkeyref1SumJ4 (q2 : (BitVec 64) → (BitVec 64) → (BitVec 64) → (BitVec 64) → Int → Option (BitVec 64)) (v27 : BitVec 64) (v28 : BitVec 64) (v29 : BitVec 64) (v30 : BitVec 64) (v31 : Int) (v46 : BitVec 64) : Option (BitVec 64) :=
  ((passkeyref1round (TA4BitVec64.mk v27 v28 v29 (v30 ^^^ v46))).bind fun y52 => ((passkeyref1round y52).bind fun y54 => passkeyref1SumJ3 q2 v31 (y54.c0 ^^^ v46) y54.c1 y54.c2 y54.c3))
def passkeyref1SumJ6 (q5 : (BitVec 64) → Int → Option (BitVec 64)) (v60 : BitVec 64) (v61 : Int) (v71 : BitVec 8) : Option (BitVec 64) :=
  q5 ((v60 <<< 8) ||| (v71.setWidth 64)) (w64 (v61 - (1 : Int)))
def passkeyref1SumL5 (q2 : (BitVec 64) → (BitVec 64) → (BitVec 64) → (BitVec 64) → Int → Option (BitVec 64)) (a2 : List (BitVec 8)) (v27 : BitVec 64) (v28 : BitVec 64) (v29 : BitVec 64) (v30 : BitVec 64) (v31 : Int) : Nat → (BitVec 64) → Int → Option (BitVec 64)
  | 0, _, _ => none
  | k + 1, v60, v61 =>
  (if (decide ((0 : Int) ≤ v61)) then (if (decide ((w64 (v31 + v61)) < (a2.length : Int))) then (asq (0 ≤ (w64 (v31 + v61)) ∧ (w64 (v31 + v61)) < (a2.length : Int)) (passkeyref1SumJ6 (passkeyref1SumL5 q2 a2 v27 v28 v29 v30 v31 k) v60 v61 (a2.getD (w64 (v31 + v61)).toNat 0#8))) else (if (v61 == (7 : Int)) then passkeyref1SumJ6 (passkeyref1SumL5 q2 a2 v27 v28 v29 v30 v31 k) v60 v61 (BitVec.ofInt 8 (a2.length : Int)) else passkeyref1SumJ6 (passkeyref1SumL5 q2 a2 v27 v28 v29 v30 v31 k) v60 v61 (0#8))) else passkeyref1SumJ4 q2 v27 v28 v29 v30 v31 v60)
def passkeyref1SumL2 (a2 : List (BitVec 8)) : Nat → (BitVec 64) → (BitVec 64) → (BitVec 64) → (BitVec 64) → Int → Option (BitVec 64)
  | 0, _, _, _, _, _ => none
  | k + 1, v27, v28, v29, v30, v31 =>
  (if (decide (v31 ≤ (a2.length : Int))) then passkeyref1SumL5 (passkeyref1SumL2 a2 k) a2 v27 v28 v29 v30 v31 FUEL (0#64) (7 : Int) else passkeyref1SumJ1 v27 v28 v29 v30)
/-- passkey/passkeyref1.Sum -/
def passkeyref1Sum (a0 : BitVec 64) (a1 : BitVec 64) (a2 : List (BitVec 8)) : Option (BitVec 64) :=
  passkeyref1SumL2 a2 FUEL (a0 ^^^ (8317987319222330741#64)) (a1 ^^^ (7237128888997146477#64)) (a0 ^^^ (7816392313619706465#64)) (a1 ^^^ (8387220255154660723#64)) (0 : Int)


/-- passkey/passkeyref1.Mac -/
def passkeyref1Mac (a0 : BitVec 64) (a1 : Int) (a2 : List (BitVec 8)) : Option (BitVec 64) :=
  ((passkeyref1Sum a0 ((1#64) + (BitVec.ofInt 64 a1)) a2).bind fun y5 => some y5)

def passkeyref3StreamJ1 (v5 : Int) (v9 : List (BitVec 8)) : Option (List (BitVec 8)) :=
  (asq (0 ≤ v5 ∧ v5 ≤ (v9.length : Int)) (some ((v9.drop (0 + 0)).take (v5.toNat - 0))))
def passkeyref3StreamL2 (a0 : BitVec 64) (a1 : BitVec 64) (v5 : Int) : Nat → (List (BitVec 8)) → Int → Option (List (BitVec 8))
  | 0, _, _ => none
  | k + 1, v17, v18 =>
  (if (decide ((v17.length : Int) < v5)) then ((passkeyref1Words ([a1, (BitVec.ofInt 64 v18)] : List (BitVec 64))).bind fun y27 => ((passkeyref1Mac a0 (5 : Int) y27).bind fun y29 => ((passkeyref1Words ([y29] : List (BitVec 64))).bind fun y31 => (asq (((v17 ++ y31)).length ≤ 140737488355328) ((passkeyref3StreamL2 a0 a1 v5 k) (v17 ++ y31) (w64 (v18 + (1 : Int)))))))) else passkeyref3StreamJ1 v5 v17)
/-- passkey/passkeyref3.Stream -/
def passkeyref3Stream (a0 : BitVec 64) (a1 : BitVec 64) (a2 : Int) : Option (List (BitVec 8)) :=
  (lett (if (1024 : Int) < (if (0 : Int) > a2 then (0 : Int) else a2) then (1024 : Int) else (if (0 : Int) > a2 then (0 : Int) else a2)) fun v5 => passkeyref3StreamL2 a0 a1 v5 FUEL ([] : List (BitVec 8)) (0 : Int))

def sealStreamOwnJ1 (v5 : Int) (v9 : List (BitVec 8)) : Option (List (BitVec 8)) :=
  (asq (0 ≤ v5 ∧ v5 ≤ (v9.length : Int)) (asq ((v5.toNat - 0) ≤ v9.length) (some (v9.take (v5.toNat - 0)))))
def sealStreamOwnL2 (a0 : BitVec 64) (a1 : BitVec 64) (v5 : Int) : Nat → (List (BitVec 8)) → (BitVec 64) → Option (List (BitVec 8))
  | 0, _, _ => none
  | k + 1, v18, v19 =>
  (if (decide ((v18.length : Int) < v5)) then ((digestWords ([a1, v19] : List (BitVec 64))).bind fun y28 => ((digestMac a0 (5 : Int) y28).bind fun y30 => ((digestWords ([y30] : List (BitVec 64))).bind fun y32 => (asq (((v18 ++ y32)).length ≤ 140737488355328) ((sealStreamOwnL2 a0 a1 v5 k) (v18 ++ y32) (v19 + (1#64))))))) else sealStreamOwnJ1 v5 v18)
/-- passkey/seal.Stream -/
def sealStreamOwn (a0 : BitVec 64) (a1 : BitVec 64) (a2 : Int) : Option (List (BitVec 8)) :=
  (lett (if (if (1024 : Int) < a2 then (1024 : Int) else a2) > (0 : Int) then (if (1024 : Int) < a2 then (1024 : Int) else a2) else (0 : Int)) fun v5 => sealStreamOwnL2 a0 a1 v5 FUEL ([] : List (BitVec 8)) (0#64))

def sealmixedJ1 (v7 : List (BitVec 8)) : Option (List (BitVec 8)) :=
  some v7
def sealmixedL2 (a2 : List (BitVec 8)) (y5 : List (BitVec 8)) : Nat → (List (BitVec 8)) → Int → Option (List (BitVec 8))
  | 0, _, _ => none
  | k + 1, v14, v15 =>
  (if (decide (v15 < (y5.length : Int))) then (asq (0 ≤ v15 ∧ v15 < (v14.length : Int)) (asq (0 ≤ v15 ∧ v15 < (a2.length : Int)) (lett ((v14.getD (0 + v15.toNat) 0#8) ^^^ (a2.getD v15.toNat 0#8)) fun v28 => (asq (0 ≤ v15 ∧ v15 < (v14.length : Int)) ((sealmixedL2 a2 y5 k) (v14.set (0 + v15.toNat) v28) (w64 (v15 + (1 : Int)))))))) else sealmixedJ1 v14)
/-- passkey/seal.mixed -/
def sealmixed (a0 : BitVec 64) (a1 : BitVec 64) (a2 : List (BitVec 8)) : Option (List (BitVec 8)) :=
  ((sealStreamOwn a0 a1 (a2.length : Int)).bind fun y5 => sealmixedL2 a2 y5 FUEL y5 (0 : Int))


/-- passkey/seal.tag -/
def sealtag (a0 : BitVec 64) (a1 : BitVec 64) (a2 : List (BitVec 8)) (a3 : List (BitVec 8)) : Option (List (BitVec 8)) :=
  ((digestWords ([a1, (BitVec.ofInt 64 (a2.length : Int))] : List (BitVec 64))).bind fun y5 => (asq (((y5 ++ a2)).length ≤ 140737488355328) (asq ((((y5 ++ a2) ++ a3)).length ≤ 140737488355328) ((digestMac a0 (6 : Int) ((y5 ++ a2) ++ a3)).bind fun y11 => ((digestWords ([y11] : List (BitVec 64))).bind fun y13 => (asq (8 ≤ (((y13.drop 0).take y13.length)).length) (asq (8 = ((((y13.drop 0).take y13.length).take 8)).length) (asq (((List.replicate 8 (0#8))).length = 8 ∧ ((((y13.drop 0).take y13.length).take 8)).length = 8) (asq (8 = ((((y13.drop 0).take y13.length).take 8)).length) (some (((y13.drop 0).take y13.length).take 8)))))))))))

def sealSealJ1 (a0 : BitVec 64) (a1 : BitVec 64) (a2 : List (BitVec 8)) (a3 : List (BitVec 8)) (v4 : Bool) : Option ((List (BitVec 8)) × Int) :=
  (if v4 then some ([], (8 : Int)) else ((sealmixed a0 a1 a3).bind fun y11 => ((sealtag a0 a1 a2 y11).bind fun y15 => (asq (((List.replicate 8 (0#8))).length = 8 ∧ y15.length = 8) ((digestWords ([a1] : List (BitVec 64))).bind fun y20 => (asq (((y20 ++ y11)).length ≤ 140737488355328) (asq (8 = y15.length) (asq ((((y20 ++ y11) ++ y15)).length ≤ 140737488355328) (some (((y20 ++ y11) ++ y15), (0 : Int)))))))))))
/-- passkey/seal.Seal -/
def sealSeal (a0 : BitVec 64) (a1 : BitVec 64) (a2 : List (BitVec 8)) (a3 : List (BitVec 8)) : Option ((List (BitVec 8)) × Int) :=
  (if (decide ((1024 : Int) < (a3.length : Int))) then sealSealJ1 a0 a1 a2 a3 true else sealSealJ1 a0 a1 a2 a3 (decide ((1024 : Int) < (a2.length : Int))))

def sealwordJ1 (v5 : BitVec 64) : Option (BitVec 64) :=
  some v5
def sealwordL2 (a0 : List (BitVec 8)) : Nat → (BitVec 64) → Int → Option (BitVec 64)
  | 0, _, _ => none
  | k + 1, v13, v14 =>
  (if (decide (v14 < (8 : Int))) then (asq (0 ≤ v14 ∧ v14 < (8 : Int) ∧ v14.toNat < a0.length) ((sealwordL2 a0 k) ((v13 <<< 8) ||| ((a0.getD v14.toNat 0#8).setWidth 64)) (w64 (v14 + (1 : Int))))) else sealwordJ1 v13)
/-- passkey/seal.word -/
def sealword (a0 : List (BitVec 8)) : Option (BitVec 64) :=
  (asq (8 = a0.length) (sealwordL2 a0 FUEL (0#64) (0 : Int)))

def sealOpenJ1 (a0 : BitVec 64) (a1 : List (BitVec 8)) (a2 : List (BitVec 8)) (v10 : Bool) : Option ((List (BitVec 8)) × Int) :=
  (if v10 then some ([], (8 : Int)) else (asq (0 ≤ (8 : Int) ∧ (8 : Int) ≤ (a2.length : Int)) (asq (8 ≤ ((dropTake 0 (8 : Int).toNat a2)).length) (asq (8 = (((dropTake 0 (8 : Int).toNat a2).take 8)).length) ((sealword ((dropTake 0 (8 : Int).toNat a2).take 8)).bind fun y20 => (asq (0 ≤ (8 : Int) ∧ (8 : Int) ≤ (w64 ((a2.length : Int) - (8 : Int))) ∧ (w64 ((a2.length : Int) - (8 : Int))) ≤ (a2.length : Int)) (lett (dropTake (8 : Int).toNat (w64 ((a2.length : Int) - (8 : Int))).toNat a2) fun v23 => (asq (0 ≤ (w64 ((a2.length : Int) - (8 : Int))) ∧ (w64 ((a2.length : Int) - (8 : Int))) ≤ (a2.length : Int)) (lett (dropTake (w64 ((a2.length : Int) - (8 : Int))).toNat a2.length a2) fun v26 => (asq (8 ≤ v26.length) (asq (8 = ((v26.take 8)).length) (asq (((List.replicate 8 (0#8))).length = 8 ∧ ((v26.take 8)).length = 8) (asq (8 = ((v26.take 8)).length) ((sealtag a0 y20 a1 v23).bind fun y35 => (asq (((v26.take 8)).length = 8 ∧ y35.length = 8) (if (!((v26.take 8) == y35)) then some ([], (14 : Int)) else ((sealmixed a0 y20 v23).bind fun y43 => some (y43, (0 : Int)))))))))))))))))))
/-- passkey/seal.Open -/
def sealOpen (a0 : BitVec 64) (a1 : List (BitVec 8)) (a2 : List (BitVec 8)) : Option ((List (BitVec 8)) × Int) :=
  (if (decide ((a2.length : Int) < (16 : Int))) then some ([], (1 : Int)) else (if (decide ((1040 : Int) < (a2.length : Int))) then sealOpenJ1 a0 a1 a2 true else sealOpenJ1 a0 a1 a2 (decide ((1024 : Int) < (a1.length : Int)))))


/-- passkey/passkeylaw6.awake -/
def passkeylaw6awake  : Option (Bool) :=
  (asq (0 < (([(116#8), (101#8), (120#8), (116#8)] : List (BitVec 8))).length) ((sealSeal (1#64) (2#64) ([] : List (BitVec 8)) ([(116#8), (101#8), (120#8), (116#8)] : List (BitVec 8))).bind fun y6 => ((sealOpen (1#64) ([] : List (BitVec 8)) y6.1).bind fun y10 => (lett (if (15 : Int) < (y6.1.length : Int) then (15 : Int) else (y6.1.length : Int)) fun v14 => (asq (0 ≤ v14 ∧ v14 ≤ (y6.1.length : Int)) ((sealOpen (1#64) ([] : List (BitVec 8)) ((y6.1.drop (0 + 0)).take (v14.toNat - 0))).bind fun y17 => (if (y6.2 == (0 : Int)) then (if (y10.2 == (0 : Int)) then (if (y10.1 == ([116#8, 101#8, 120#8, 116#8] : List (BitVec 8))) then (if ((y6.1.length : Int) == (20 : Int)) then some (y17.2 == (1 : Int)) else some false) else some false) else some false) else some false)))))))


/-- passkey/passkeylaw6.SealStreams -/
def passkeylaw6SealStreams (a0 : BitVec 64) (a1 : BitVec 64) (a2 : Int) (a3 : BitVec 8) : Option (Bool) :=
  ((sealStream a0 a1 a2).bind fun y5 => ((sealStream a0 a1 (a3.toNat : Int)).bind fun y7 => ((passkeyref3Stream a0 a1 a2).bind fun y11 => (if (y5 == y11) then ((passkeyref3Stream a0 a1 (a3.toNat : Int)).bind fun y14 => (if (y7 == y14) then (if (decide ((y5.length : Int) < (y7.length : Int))) then ((passkeylaw6awake ).bind fun y18 => some y18) else (asq (0 ≤ (y7.length : Int) ∧ (y7.length : Int) ≤ (y5.length : Int)) (if ((dropTake 0 (y7.length : Int).toNat y5) == y7) then ((passkeylaw6awake ).bind fun y22 => some y22) else some false))) else some false)) else some false))))

def passkeylaw6shortJ1  : Option (Bool) :=
  some true
def passkeylaw6shortL2 (a0 : List (List (BitVec 8))) : Nat → Int → Option (Bool)
  | 0, _ => none
  | k + 1, v9 =>
  (if (decide (v9 < (a0.length : Int))) then (asq (0 ≤ v9 ∧ v9 < (a0.length : Int)) (if (decide ((300 : Int) < (((a0.getD v9.toNat ([] : List (BitVec 8)))).length : Int))) then some false else (passkeylaw6shortL2 a0 k) (w64 (v9 + (1 : Int))))) else passkeylaw6shortJ1)
/-- passkey/passkeylaw6.short -/
def passkeylaw6short (a0 : List (List (BitVec 8))) : Option (Bool) :=
  passkeylaw6shortL2 a0 FUEL (0 : Int)

def passkeyref3mixJ1 (v9 : List (BitVec 8)) : Option (List (BitVec 8)) :=
  some v9
def passkeyref3mixL2 (a2 : List (BitVec 8)) (y5 : List (BitVec 8)) : Nat → (List (BitVec 8)) → Int → Option (List (BitVec 8))
  | 0, _, _ => none
  | k + 1, v16, v17 =>
  (if (decide (v17 < (a2.length : Int))) then (asq (0 ≤ v17 ∧ v17 < (a2.length : Int)) (asq (0 ≤ v17 ∧ v17 < (y5.length : Int)) (asq (((v16 ++ ([((a2.getD v17.toNat 0#8) ^^^ (y5.getD v17.toNat 0#8))] : List (BitVec 8)))).length ≤ 140737488355328) ((passkeyref3mixL2 a2 y5 k) (v16 ++ ([((a2.getD v17.toNat 0#8) ^^^ (y5.getD v17.toNat 0#8))] : List (BitVec 8))) (w64 (v17 + (1 : Int))))))) else passkeyref3mixJ1 v16)
/-- passkey/passkeyref3.mix -/
def passkeyref3mix (a0 : BitVec 64) (a1 : BitVec 64) (a2 : List (BitVec 8)) : Option (List (BitVec 8)) :=
  ((passkeyref3Stream a0 a1 (a2.length : Int)).bind fun y5 => passkeyref3mixL2 a2 y5 FUEL ([] : List (BitVec 8)) (0 : Int))


/-- passkey/passkeyref3.tag -/
def passkeyref3tag (a0 : BitVec 64) (a1 : BitVec 64) (a2 : List (BitVec 8)) (a3 : List (BitVec 8)) : Option (BitVec 64) :=
  ((passkeyref1Words ([a1, (BitVec.ofInt 64 (a2.length : Int))] : List (BitVec 64))).bind fun y5 => (asq (((y5 ++ a2)).length ≤ 140737488355328) (asq ((((y5 ++ a2) ++ a3)).length ≤ 140737488355328) ((passkeyref1Mac a0 (6 : Int) ((y5 ++ a2) ++ a3)).bind fun y11 => some y11))))

def passkeyref3SealJ1 (a0 : BitVec 64) (a1 : BitVec 64) (a2 : List (BitVec 8)) (a3 : List (BitVec 8)) (v4 : Bool) : Option ((List (BitVec 8)) × Int) :=
  (if v4 then some ([], (8 : Int)) else ((passkeyref3mix a0 a1 a3).bind fun y11 => ((passkeyref1Words ([a1] : List (BitVec 64))).bind fun y15 => (asq (((y15 ++ y11)).length ≤ 140737488355328) ((passkeyref3tag a0 a1 a2 y11).bind fun y20 => ((passkeyref1Words ([y20] : List (BitVec 64))).bind fun y22 => (asq ((((y15 ++ y11) ++ y22)).length ≤ 140737488355328) (some (((y15 ++ y11) ++ y22), (0 : Int))))))))))
/-- passkey/passkeyref3.Seal -/
def passkeyref3Seal (a0 : BitVec 64) (a1 : BitVec 64) (a2 : List (BitVec 8)) (a3 : List (BitVec 8)) : Option ((List (BitVec 8)) × Int) :=
  (if (decide ((1024 : Int) < (a3.length : Int))) then passkeyref3SealJ1 a0 a1 a2 a3 true else passkeyref3SealJ1 a0 a1 a2 a3 (decide ((1024 : Int) < (a2.length : Int))))


/-- passkey/passkeylaw6.SealCloses -/
def passkeylaw6SealCloses (a0 : BitVec 64) (a1 : BitVec 64) (a2 : List (BitVec 8)) (a3 : List (BitVec 8)) : Option (Bool) :=
  ((passkeylaw6short ([a2, a3] : List (List (BitVec 8)))).bind fun y6 => (if (!y6) then ((passkeylaw6awake ).bind fun y11 => some y11) else ((sealSeal a0 a1 a2 a3).bind fun y15 => ((passkeyref3Seal a0 a1 a2 a3).bind fun y19 => (if (y15.2 == y19.2) then (if (y15.1 == y19.1) then ((passkeylaw6awake ).bind fun y25 => some y25) else some false) else some false)))))

def passkeyref1WordJ1 (v5 : BitVec 64) : Option (BitVec 64) :=
  some v5
def passkeyref1WordJ3 (q2 : (BitVec 64) → Int → Option (BitVec 64)) (a0 : List (BitVec 8)) (v12 : BitVec 64) (v13 : Int) (v16 : Bool) : Option (BitVec 64) :=
  (if v16 then (asq (0 ≤ v13 ∧ v13 < (a0.length : Int)) (q2 ((v12 <<< 8) ||| ((a0.getD v13.toNat 0#8).setWidth 64)) (w64 (v13 + (1 : Int))))) else passkeyref1WordJ1 v12)
def passkeyref1WordL2 (a0 : List (BitVec 8)) : Nat → (BitVec 64) → Int → Option (BitVec 64)
  | 0, _, _ => none
  | k + 1, v12, v13 =>
  (if (decide (v13 < (8 : Int))) then passkeyref1WordJ3 (passkeyref1WordL2 a0 k) a0 v12 v13 (decide (v13 < (a0.length : Int))) else passkeyref1WordJ3 (passkeyref1WordL2 a0 k) a0 v12 v13 false)
/-- passkey/passkeyref1.Word -/
def passkeyref1Word (a0 : List (BitVec 8)) : Option (BitVec 64) :=
  passkeyref1WordL2 a0 FUEL (0#64) (0 : Int)

def passkeyref3OpenJ1 (a0 : BitVec 64) (a1 : List (BitVec 8)) (a2 : List (BitVec 8)) (v10 : Bool) : Option ((List (BitVec 8)) × Int) :=
  (if v10 then some ([], (8 : Int)) else (asq (0 ≤ (8 : Int) ∧ (8 : Int) ≤ (a2.length : Int)) ((passkeyref1Word (dropTake 0 (8 : Int).toNat a2)).bind fun y18 => (asq (0 ≤ (8 : Int) ∧ (8 : Int) ≤ (w64 ((a2.length : Int) - (8 : Int))) ∧ (w64 ((a2.length : Int) - (8 : Int))) ≤ (a2.length : Int)) (lett (dropTake (8 : Int).toNat (w64 ((a2.length : Int) - (8 : Int))).toNat a2) fun v21 => (asq (0 ≤ (w64 ((a2.length : Int) - (8 : Int))) ∧ (w64 ((a2.length : Int) - (8 : Int))) ≤ (a2.length : Int)) (lett (dropTake (w64 ((a2.length : Int) - (8 : Int))).toNat a2.length a2) fun v27 => ((passkeyref1Word v27).bind fun y29 => ((passkeyref3tag a0 y18 a1 v21).bind fun y31 => (if (y29 != y31) then some ([], (14 : Int)) else ((passkeyref3mix a0 y18 v21).bind fun y38 => some (y38, (0 : Int)))))))))))))
/-- passkey/passkeyref3.Open -/
def passkeyref3Open (a0 : BitVec 64) (a1 : List (BitVec 8)) (a2 : List (BitVec 8)) : Option ((List (BitVec 8)) × Int) :=
  (if (decide ((a2.length : Int) < (16 : Int))) then some ([], (1 : Int)) else (if (decide ((1040 : Int) < (a2.length : Int))) then passkeyref3OpenJ1 a0 a1 a2 true else passkeyref3OpenJ1 a0 a1 a2 (decide ((1024 : Int) < (a1.length : Int)))))


/-- passkey/passkeylaw6.opens -/
def passkeylaw6opens (a0 : BitVec 64) (a1 : List (BitVec 8)) (a2 : List (BitVec 8)) : Option (Bool) :=
  ((sealOpen a0 a1 a2).bind fun y5 => ((passkeyref3Open a0 a1 a2).bind fun y9 => (if (y5.2 == y9.2) then some (y5.1 == y9.1) else some false)))


/-- passkey/passkeylaw6.SealOpens -/
def passkeylaw6SealOpens (a0 : BitVec 64) (a1 : List (BitVec 8)) (a2 : List (BitVec 8)) (a3 : BitVec 64) (a4 : List (BitVec 8)) (a5 : Int) (a6 : BitVec 8) : Option (Bool) :=
  ((passkeylaw6short ([a1, a2, a4] : List (List (BitVec 8)))).bind fun y6 => (if (!y6) then ((passkeylaw6awake ).bind fun y11 => some y11) else ((passkeyref3Seal a0 a3 a1 a4).bind fun y15 => (asq (y15.1.length ≤ 140737488355328) (asq ((y15.1.length : Int) ≠ 0) (lett ((ibits .and .i64 a5 (65535 : Int)).tmod (y15.1.length : Int)) fun v23 => (asq (0 ≤ v23 ∧ v23 < (y15.1.length : Int)) (asq (0 ≤ v23 ∧ v23 < (y15.1.length : Int)) ((passkeylaw6opens a0 a1 a2).bind fun y29 => (if y29 then ((passkeylaw6opens a0 a1 (y15.1.set (0 + v23.toNat) ((y15.1.getD (0 + v23.toNat) 0#8) ^^^ a6))).bind fun y32 => (if y32 then (asq ((y15.1.length : Int) ≠ 0) (lett ((ibits .and .i64 a5 (65535 : Int)).tmod (y15.1.length : Int)) fun v36 => (asq (0 ≤ v36 ∧ v36 ≤ (y15.1.length : Int)) ((passkeylaw6opens a0 a1 ((y15.1.drop (0 + 0)).take (v36.toNat - 0))).bind fun y39 => (if y39 then ((passkeylaw6opens (a0 + (1#64)) a1 y15.1).bind fun y42 => (if y42 then (asq (((([a6] : List (BitVec 8)) ++ a1)).length ≤ 140737488355328) ((passkeylaw6opens a0 (([a6] : List (BitVec 8)) ++ a1) y15.1).bind fun y46 => (if y46 then ((passkeylaw6awake ).bind fun y49 => some y49) else some false))) else some false)) else some false))))) else some false)) else some false))))))))))


/-- passkey/passkeylaw6.SealBack -/
def passkeylaw6SealBack (a0 : BitVec 64) (a1 : BitVec 64) (a2 : List (BitVec 8)) (a3 : List (BitVec 8)) : Option (Bool) :=
  ((passkeylaw6short ([a2, a3] : List (List (BitVec 8)))).bind fun y6 => (if (!y6) then ((passkeylaw6awake ).bind fun y11 => some y11) else ((sealSeal a0 a1 a2 a3).bind fun y15 => ((sealOpen a0 a2 y15.1).bind fun y19 => (if (y15.2 == (0 : Int)) then (if (y19.2 == (0 : Int)) then (if ((y15.1.length : Int) == (w64 ((a3.length : Int) + (16 : Int)))) then (if (y19.1 == a3) then ((passkeylaw6awake ).bind fun y27 => some y27) else some false) else some false) else some false) else some false)))))

def passkeylaw6SealOnlyJ1  : Option (Bool) :=
  ((passkeylaw6awake ).bind fun y20 => some y20)
def passkeylaw6SealOnlyJ3 (q2 : Int → Option (Bool)) (v25 : Int) : Option (Bool) :=
  q2 (w64 (v25 + (1 : Int)))
def passkeylaw6SealOnlyJ4 (q2 : Int → Option (Bool)) (v25 : Int) (v60 : Bool) : Option (Bool) :=
  (if v60 then some false else passkeylaw6SealOnlyJ3 q2 v25)
def passkeylaw6SealOnlyL2 (a0 : BitVec 64) (a1 : List (BitVec 8)) (a2 : List (BitVec 8)) (y15 : (List (BitVec 8)) × Int) : Nat → Int → Option (Bool)
  | 0, _ => none
  | k + 1, v25 =>
  (if (decide (v25 < (2 : Int))) then (asq (0 ≤ v25 ∧ v25 < ((([a2, y15.1] : List (List (BitVec 8)))).length : Int)) ((sealOpen a0 a1 (([a2, y15.1] : List (List (BitVec 8))).getD (0 + v25.toNat) ([] : List (BitVec 8)))).bind fun y39 => (if (y39.2 != (0 : Int)) then passkeylaw6SealOnlyJ3 (passkeylaw6SealOnlyL2 a0 a1 a2 y15 k) v25 else (if (decide ((((([a2, y15.1] : List (List (BitVec 8))).getD (0 + v25.toNat) ([] : List (BitVec 8)))).length : Int) < (16 : Int))) then some false else (asq (0 ≤ (8 : Int) ∧ (8 : Int) ≤ (((([a2, y15.1] : List (List (BitVec 8))).getD (0 + v25.toNat) ([] : List (BitVec 8)))).length : Int)) (lett (dropTake 0 (8 : Int).toNat (([a2, y15.1] : List (List (BitVec 8))).getD (0 + v25.toNat) ([] : List (BitVec 8)))) fun v54 => ((passkeyref1Word v54).bind fun y56 => ((sealSeal a0 y56 a1 y39.1).bind fun y58 => (if (y58.2 != (0 : Int)) then passkeylaw6SealOnlyJ4 (passkeylaw6SealOnlyL2 a0 a1 a2 y15 k) v25 true else passkeylaw6SealOnlyJ4 (passkeylaw6SealOnlyL2 a0 a1 a2 y15 k) v25 (!(y58.1 == (([a2, y15.1] : List (List (BitVec 8))).getD (0 + v25.toNat) ([] : List (BitVec 8)))))))))))))) else passkeylaw6SealOnlyJ1)
/-- passkey/passkeylaw6.SealOnly -/
def passkeylaw6SealOnly (a0 : BitVec 64) (a1 : List (BitVec 8)) (a2 : List (BitVec 8)) (a3 : Int) (a4 : BitVec 64) : Option (Bool) :=
  ((passkeylaw6short ([a1, a2] : List (List (BitVec 8)))).bind fun y6 => (if (!y6) then ((passkeylaw6awake ).bind fun y11 => some y11) else ((passkeyref3Seal a0 a4 a1 a2).bind fun y15 => passkeylaw6SealOnlyL2 a0 a1 a2 y15 FUEL (0 : Int))))

def passkeylaw6SealLimitsJ1 (a0 : BitVec 8) (y9 : (List (BitVec 8)) × Int) (y15 : (List (BitVec 8)) × Int) (y22 : (List (BitVec 8)) × Int) (y28 : (List (BitVec 8)) × Int) (v34 : Int) (v35 : Int) : Option (Bool) :=
  (lett (w64 ((w64 ((1022 : Int) + ((a0 % (5#8)).toNat : Int))) + (16 : Int))) fun v39 => (asq (0 ≤ v39 ∧ v39 ≤ v39 ∧ v39 ≤ (281474976710656 : Int)) ((passkeyref3Open (3#64) ([] : List (BitVec 8)) (List.replicate v39.toNat 0#8)).bind fun y42 => (asq (0 ≤ (w64 ((1022 : Int) + ((a0 % (5#8)).toNat : Int))) ∧ (w64 ((1022 : Int) + ((a0 % (5#8)).toNat : Int))) ≤ (w64 ((1022 : Int) + ((a0 % (5#8)).toNat : Int))) ∧ (w64 ((1022 : Int) + ((a0 % (5#8)).toNat : Int))) ≤ (281474976710656 : Int)) (asq (0 ≤ (20 : Int) ∧ (20 : Int) ≤ (20 : Int) ∧ (20 : Int) ≤ (281474976710656 : Int)) ((passkeyref3Open (3#64) (List.replicate (w64 ((1022 : Int) + ((a0 % (5#8)).toNat : Int))).toNat 0#8) (List.replicate (20 : Int).toNat 0#8)).bind fun y48 => (if (y9.2 == v34) then (if (y15.2 == v34) then (if (y22.2 == y42.2) then (if (y28.2 == y48.2) then (if (v35 == (14 : Int)) then (if (v34 != (0 : Int)) then ((passkeylaw6awake ).bind fun y58 => some y58) else (if ((y9.1.length : Int) == (21 : Int)) then (lett (w64 ((w64 ((1022 : Int) + ((a0 % (5#8)).toNat : Int))) + (16 : Int))) fun v61 => (if ((y15.1.length : Int) == v61) then ((passkeylaw6awake ).bind fun y64 => some y64) else some false)) else some false)) else (if (y22.2 == v35) then (if (y28.2 == v35) then (if (v34 != (0 : Int)) then ((passkeylaw6awake ).bind fun y69 => some y69) else (if ((y9.1.length : Int) == (21 : Int)) then (lett (w64 ((w64 ((1022 : Int) + ((a0 % (5#8)).toNat : Int))) + (16 : Int))) fun v72 => (if ((y15.1.length : Int) == v72) then ((passkeylaw6awake ).bind fun y75 => some y75) else some false)) else some false)) else some false) else some false)) else some false) else some false) else some false) else some false)))))))
/-- passkey/passkeylaw6.SealLimits -/
def passkeylaw6SealLimits (a0 : BitVec 8) : Option (Bool) :=
  (asq (0 ≤ (w64 ((1022 : Int) + ((a0 % (5#8)).toNat : Int))) ∧ (w64 ((1022 : Int) + ((a0 % (5#8)).toNat : Int))) ≤ (w64 ((1022 : Int) + ((a0 % (5#8)).toNat : Int))) ∧ (w64 ((1022 : Int) + ((a0 % (5#8)).toNat : Int))) ≤ (281474976710656 : Int)) (asq (0 ≤ (5 : Int) ∧ (5 : Int) ≤ (5 : Int) ∧ (5 : Int) ≤ (281474976710656 : Int)) ((sealSeal (3#64) (4#64) (List.replicate (w64 ((1022 : Int) + ((a0 % (5#8)).toNat : Int))).toNat 0#8) (List.replicate (5 : Int).toNat 0#8)).bind fun y9 => (asq (0 ≤ (5 : Int) ∧ (5 : Int) ≤ (5 : Int) ∧ (5 : Int) ≤ (281474976710656 : Int)) (asq (0 ≤ (w64 ((1022 : Int) + ((a0 % (5#8)).toNat : Int))) ∧ (w64 ((1022 : Int) + ((a0 % (5#8)).toNat : Int))) ≤ (w64 ((1022 : Int) + ((a0 % (5#8)).toNat : Int))) ∧ (w64 ((1022 : Int) + ((a0 % (5#8)).toNat : Int))) ≤ (281474976710656 : Int)) ((sealSeal (3#64) (4#64) (List.replicate (5 : Int).toNat 0#8) (List.replicate (w64 ((1022 : Int) + ((a0 % (5#8)).toNat : Int))).toNat 0#8)).bind fun y15 => (lett (w64 ((w64 ((1022 : Int) + ((a0 % (5#8)).toNat : Int))) + (16 : Int))) fun v19 => (asq (0 ≤ v19 ∧ v19 ≤ v19 ∧ v19 ≤ (281474976710656 : Int)) ((sealOpen (3#64) ([] : List (BitVec 8)) (List.replicate v19.toNat 0#8)).bind fun y22 => (asq (0 ≤ (w64 ((1022 : Int) + ((a0 % (5#8)).toNat : Int))) ∧ (w64 ((1022 : Int) + ((a0 % (5#8)).toNat : Int))) ≤ (w64 ((1022 : Int) + ((a0 % (5#8)).toNat : Int))) ∧ (w64 ((1022 : Int) + ((a0 % (5#8)).toNat : Int))) ≤ (281474976710656 : Int)) (asq (0 ≤ (20 : Int) ∧ (20 : Int) ≤ (20 : Int) ∧ (20 : Int) ≤ (281474976710656 : Int)) ((sealOpen (3#64) (List.replicate (w64 ((1022 : Int) + ((a0 % (5#8)).toNat : Int))).toNat 0#8) (List.replicate (20 : Int).toNat 0#8)).bind fun y28 => (if (decide ((1024 : Int) < (w64 ((1022 : Int) + ((a0 % (5#8)).toNat : Int))))) then passkeylaw6SealLimitsJ1 a0 y9 y15 y22 y28 (8 : Int) (8 : Int) else passkeylaw6SealLimitsJ1 a0 y9 y15 y22 y28 (0 : Int) (14 : Int))))))))))))))

end Go.Proofs.Ty
