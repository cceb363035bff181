/- What the Go functions compute, as plain functions. PRINTED by a program of this session (ty.py). -/
import Derived.Test.YtjojcickhpgaaaaRc
set_option linter.unusedVariables false
set_option linter.unusedSimpArgs false
set_option maxHeartbeats 4000000
set_option maxRecDepth 10000
namespace Go.Proofs.Ty
open Go Go.RW
def FUEL : Nat := 18446744073709551616
structure TDigeststate where
  v0 : BitVec 64
  v1 : BitVec 64
  v2 : BitVec 64
  v3 : BitVec 64
deriving DecidableEq, Inhabited
def eTDigeststate (s : TDigeststate) : D := .agg [eU64 s.v0, eU64 s.v1, eU64 s.v2, eU64 s.v3]
structure TA4BitVec64 where
  c0 : BitVec 64
  c1 : BitVec 64
  c2 : BitVec 64
  c3 : BitVec 64
deriving DecidableEq, Inhabited
def eTA4BitVec64 (s : TA4BitVec64) : D := .agg [eU64 s.c0, eU64 s.c1, eU64 s.c2, eU64 s.c3]

/-- math/bits.Mul64 -/
def bitsMul64 (a0 : BitVec 64) (a1 : BitVec 64) : Option ((BitVec 64) × (BitVec 64)) :=
  (lett (((a0 &&& (4294967295#64)) * (a1 &&& (4294967295#64))) >>> 32) fun v15 => (lett ((((a0 >>> 32) * (a1 &&& (4294967295#64))) + v15) &&& (4294967295#64)) fun v19 => (lett (((a0 >>> 32) * (a1 >>> 32)) + ((((a0 >>> 32) * (a1 &&& (4294967295#64))) + v15) >>> 32)) fun v27 => (lett (v27 + ((v19 + ((a0 &&& (4294967295#64)) * (a1 >>> 32))) >>> 32)) fun v29 => some (v29, (a0 * a1))))))

def bitsLen64J3 (v9 : BitVec 64) (v10 : Int) : Option (Int) :=
  (asq (0 ≤ ((v9.setWidth 8).toNat : Int) ∧ ((v9.setWidth 8).toNat : Int) < ((([0#8, 1#8, 2#8, 2#8, 3#8, 3#8, 3#8, 3#8, 4#8, 4#8, 4#8, 4#8, 4#8, 4#8, 4#8, 4#8, 5#8, 5#8, 5#8, 5#8, 5#8, 5#8, 5#8, 5#8, 5#8, 5#8, 5#8, 5#8, 5#8, 5#8, 5#8, 5#8, 6#8, 6#8, 6#8, 6#8, 6#8, 6#8, 6#8, 6#8, 6#8, 6#8, 6#8, 6#8, 6#8, 6#8, 6#8, 6#8, 6#8, 6#8, 6#8, 6#8, 6#8, 6#8, 6#8, 6#8, 6#8, 6#8, 6#8, 6#8, 6#8, 6#8, 6#8, 6#8, 7#8, 7#8, 7#8, 7#8, 7#8, 7#8, 7#8, 7#8, 7#8, 7#8, 7#8, 7#8, 7#8, 7#8, 7#8, 7#8, 7#8, 7#8, 7#8, 7#8, 7#8, 7#8, 7#8, 7#8, 7#8, 7#8, 7#8, 7#8, 7#8, 7#8, 7#8, 7#8, 7#8, 7#8, 7#8, 7#8, 7#8, 7#8, 7#8, 7#8, 7#8, 7#8, 7#8, 7#8, 7#8, 7#8, 7#8, 7#8, 7#8, 7#8, 7#8, 7#8, 7#8, 7#8, 7#8, 7#8, 7#8, 7#8, 7#8, 7#8, 7#8, 7#8, 7#8, 7#8, 8#8, 8#8, 8#8, 8#8, 8#8, 8#8, 8#8, 8#8, 8#8, 8#8, 8#8, 8#8, 8#8, 8#8, 8#8, 8#8, 8#8, 8#8, 8#8, 8#8, 8#8, 8#8, 8#8, 8#8, 8#8, 8#8, 8#8, 8#8, 8#8, 8#8, 8#8, 8#8, 8#8, 8#8, 8#8, 8#8, 8#8, 8#8, 8#8, 8#8, 8#8, 8#8, 8#8, 8#8, 8#8, 8#8, 8#8, 8#8, 8#8, 8#8, 8#8, 8#8, 8#8, 8#8, 8#8, 8#8, 8#8, 8#8, 8#8, 8#8, 8#8, 8#8, 8#8, 8#8, 8#8, 8#8, 8#8, 8#8, 8#8, 8#8, 8#8, 8#8, 8#8, 8#8, 8#8, 8#8, 8#8, 8#8, 8#8, 8#8, 8#8, 8#8, 8#8, 8#8, 8#8, 8#8, 8#8, 8#8, 8#8, 8#8, 8#8, 8#8, 8#8, 8#8, 8#8, 8#8, 8#8, 8#8, 8#8, 8#8, 8#8, 8#8, 8#8, 8#8, 8#8, 8#8, 8#8, 8#8, 8#8, 8#8, 8#8, 8#8, 8#8, 8#8, 8#8, 8#8, 8#8, 8#8, 8#8, 8#8, 8#8, 8#8, 8#8, 8#8, 8#8, 8#8, 8#8, 8#8] : List (BitVec 8))).length : Int)) (lett ((([0#8, 1#8, 2#8, 2#8, 3#8, 3#8, 3#8, 3#8, 4#8, 4#8, 4#8, 4#8, 4#8, 4#8, 4#8, 4#8, 5#8, 5#8, 5#8, 5#8, 5#8, 5#8, 5#8, 5#8, 5#8, 5#8, 5#8, 5#8, 5#8, 5#8, 5#8, 5#8, 6#8, 6#8, 6#8, 6#8, 6#8, 6#8, 6#8, 6#8, 6#8, 6#8, 6#8, 6#8, 6#8, 6#8, 6#8, 6#8, 6#8, 6#8, 6#8, 6#8, 6#8, 6#8, 6#8, 6#8, 6#8, 6#8, 6#8, 6#8, 6#8, 6#8, 6#8, 6#8, 7#8, 7#8, 7#8, 7#8, 7#8, 7#8, 7#8, 7#8, 7#8, 7#8, 7#8, 7#8, 7#8, 7#8, 7#8, 7#8, 7#8, 7#8, 7#8, 7#8, 7#8, 7#8, 7#8, 7#8, 7#8, 7#8, 7#8, 7#8, 7#8, 7#8, 7#8, 7#8, 7#8, 7#8, 7#8, 7#8, 7#8, 7#8, 7#8, 7#8, 7#8, 7#8, 7#8, 7#8, 7#8, 7#8, 7#8, 7#8, 7#8, 7#8, 7#8, 7#8, 7#8, 7#8, 7#8, 7#8, 7#8, 7#8, 7#8, 7#8, 7#8, 7#8, 7#8, 7#8, 8#8, 8#8, 8#8, 8#8, 8#8, 8#8, 8#8, 8#8, 8#8, 8#8, 8#8, 8#8, 8#8, 8#8, 8#8, 8#8, 8#8, 8#8, 8#8, 8#8, 8#8, 8#8, 8#8, 8#8, 8#8, 8#8, 8#8, 8#8, 8#8, 8#8, 8#8, 8#8, 8#8, 8#8, 8#8, 8#8, 8#8, 8#8, 8#8, 8#8, 8#8, 8#8, 8#8, 8#8, 8#8, 8#8, 8#8, 8#8, 8#8, 8#8, 8#8, 8#8, 8#8, 8#8, 8#8, 8#8, 8#8, 8#8, 8#8, 8#8, 8#8, 8#8, 8#8, 8#8, 8#8, 8#8, 8#8, 8#8, 8#8, 8#8, 8#8, 8#8, 8#8, 8#8, 8#8, 8#8, 8#8, 8#8, 8#8, 8#8, 8#8, 8#8, 8#8, 8#8, 8#8, 8#8, 8#8, 8#8, 8#8, 8#8, 8#8, 8#8, 8#8, 8#8, 8#8, 8#8, 8#8, 8#8, 8#8, 8#8, 8#8, 8#8, 8#8, 8#8, 8#8, 8#8, 8#8, 8#8, 8#8, 8#8, 8#8, 8#8, 8#8, 8#8, 8#8, 8#8, 8#8, 8#8, 8#8, 8#8, 8#8, 8#8, 8#8, 8#8, 8#8, 8#8, 8#8, 8#8] : List (BitVec 8)).getD ((v9.setWidth 8).toNat : Int).toNat 0#8).toNat : Int) fun v15 => some (w64 (v10 + v15))))
def bitsLen64J2 (v6 : BitVec 64) (v7 : Int) : Option (Int) :=
  (if (decide ((256#64).toNat ≤ v6.toNat)) then bitsLen64J3 (v6 >>> 8) (w64 (v7 + (8 : Int))) else bitsLen64J3 v6 v7)
def bitsLen64J1 (v3 : BitVec 64) (v4 : Int) : Option (Int) :=
  (if (decide ((65536#64).toNat ≤ v3.toNat)) then bitsLen64J2 (v3 >>> 16) (w64 (v4 + (16 : Int))) else bitsLen64J2 v3 v4)
/-- math/bits.Len64 -/
def bitsLen64 (a0 : BitVec 64) : Option (Int) :=
  (if (decide ((4294967296#64).toNat ≤ a0.toNat)) then bitsLen64J1 (a0 >>> 32) (32 : Int) else bitsLen64J1 a0 (0 : Int))


/-- math/bits.LeadingZeros64 -/
def bitsLeadingZeros64 (a0 : BitVec 64) : Option (Int) :=
  ((bitsLen64 a0).bind fun y5 => some (w64 ((64 : Int) - y5)))

def bitsDiv64J2 (a1 : BitVec 64) (a2 : BitVec 64) (y23 : Int) (v48 : BitVec 64) (v52 : BitVec 64) (v63 : BitVec 64) : Option ((BitVec 64) × (BitVec 64)) :=
  (lett ((v52 - (v48 * (a2 <<< (BitVec.ofInt 64 y23).toNat))) * (4294967296#64)) fun v67 => (lett (v67 + ((a1 <<< (BitVec.ofInt 64 y23).toNat) &&& (4294967295#64))) fun v69 => (lett ((v69 - (v63 * (a2 <<< (BitVec.ofInt 64 y23).toNat))) >>> (BitVec.ofInt 64 y23).toNat) fun v71 => some (((v48 * (4294967296#64)) + v63), v71))))
def bitsDiv64J4 (q3 : (BitVec 64) → (BitVec 64) → Option ((BitVec 64) × (BitVec 64))) (a1 : BitVec 64) (a2 : BitVec 64) (y23 : Int) (v48 : BitVec 64) (v52 : BitVec 64) (v74 : BitVec 64) (v75 : BitVec 64) (v78 : Bool) : Option ((BitVec 64) × (BitVec 64)) :=
  (if v78 then (if (decide ((4294967296#64).toNat ≤ (v74 + ((a2 <<< (BitVec.ofInt 64 y23).toNat) >>> 32)).toNat)) then bitsDiv64J2 a1 a2 y23 v48 v52 (v75 - (1#64)) else q3 (v74 + ((a2 <<< (BitVec.ofInt 64 y23).toNat) >>> 32)) (v75 - (1#64))) else bitsDiv64J2 a1 a2 y23 v48 v52 v75)
def bitsDiv64L3 (a1 : BitVec 64) (a2 : BitVec 64) (y23 : Int) (v48 : BitVec 64) (v52 : BitVec 64) : Nat → (BitVec 64) → (BitVec 64) → Option ((BitVec 64) × (BitVec 64))
  | 0, _, _ => none
  | k + 1, v74, v75 =>
  (if (decide ((4294967296#64).toNat ≤ v75.toNat)) then bitsDiv64J4 (bitsDiv64L3 a1 a2 y23 v48 v52 k) a1 a2 y23 v48 v52 v74 v75 true else (lett (v75 * ((a2 <<< (BitVec.ofInt 64 y23).toNat) &&& (4294967295#64))) fun v91 => (lett (((4294967296#64) * v74) + ((a1 <<< (BitVec.ofInt 64 y23).toNat) &&& (4294967295#64))) fun v93 => bitsDiv64J4 (bitsDiv64L3 a1 a2 y23 v48 v52 k) a1 a2 y23 v48 v52 v74 v75 (decide (v93.toNat < v91.toNat)))))
def bitsDiv64J1 (a1 : BitVec 64) (a2 : BitVec 64) (y23 : Int) (v33 : BitVec 64) (v48 : BitVec 64) : Option ((BitVec 64) × (BitVec 64)) :=
  (lett ((v33 * (4294967296#64)) + ((a1 <<< (BitVec.ofInt 64 y23).toNat) >>> 32)) fun v52 => (asq (((a2 <<< (BitVec.ofInt 64 y23).toNat) >>> 32) ≠ 0#64) (lett ((v52 - (v48 * (a2 <<< (BitVec.ofInt 64 y23).toNat))) / ((a2 <<< (BitVec.ofInt 64 y23).toNat) >>> 32)) fun v57 => (lett ((v52 - (v48 * (a2 <<< (BitVec.ofInt 64 y23).toNat))) - (v57 * ((a2 <<< (BitVec.ofInt 64 y23).toNat) >>> 32))) fun v61 => bitsDiv64L3 a1 a2 y23 v48 v52 FUEL v61 v57))))
def bitsDiv64J6 (q5 : (BitVec 64) → (BitVec 64) → Option ((BitVec 64) × (BitVec 64))) (a1 : BitVec 64) (a2 : BitVec 64) (y23 : Int) (v33 : BitVec 64) (v96 : BitVec 64) (v97 : BitVec 64) (v100 : Bool) : Option ((BitVec 64) × (BitVec 64)) :=
  (if v100 then (if (decide ((4294967296#64).toNat ≤ (v97 + ((a2 <<< (BitVec.ofInt 64 y23).toNat) >>> 32)).toNat)) then bitsDiv64J1 a1 a2 y23 v33 (v96 - (1#64)) else q5 (v96 - (1#64)) (v97 + ((a2 <<< (BitVec.ofInt 64 y23).toNat) >>> 32))) else bitsDiv64J1 a1 a2 y23 v33 v96)
def bitsDiv64L5 (a1 : BitVec 64) (a2 : BitVec 64) (y23 : Int) (v33 : BitVec 64) : Nat → (BitVec 64) → (BitVec 64) → Option ((BitVec 64) × (BitVec 64))
  | 0, _, _ => none
  | k + 1, v96, v97 =>
  (if (decide ((4294967296#64).toNat ≤ v96.toNat)) then bitsDiv64J6 (bitsDiv64L5 a1 a2 y23 v33 k) a1 a2 y23 v33 v96 v97 true else (lett (v96 * ((a2 <<< (BitVec.ofInt 64 y23).toNat) &&& (4294967295#64))) fun v113 => (lett (((4294967296#64) * v97) + ((a1 <<< (BitVec.ofInt 64 y23).toNat) >>> 32)) fun v115 => bitsDiv64J6 (bitsDiv64L5 a1 a2 y23 v33 k) a1 a2 y23 v33 v96 v97 (decide (v115.toNat < v113.toNat)))))
/-- math/bits.Div64 -/
def bitsDiv64 (a0 : BitVec 64) (a1 : BitVec 64) (a2 : BitVec 64) : Option ((BitVec 64) × (BitVec 64)) :=
  (if (a2 == (0#64)) then none else (if (decide (a2.toNat ≤ a0.toNat)) then none else (if (a0 == (0#64)) then (asq (a2 ≠ 0#64) (asq (a2 ≠ 0#64) (some ((a1 / a2), (a1 % a2))))) else ((bitsLeadingZeros64 a2).bind fun y23 => (lett ((a0 <<< (BitVec.ofInt 64 y23).toNat) ||| (a1 >>> ((64#64) - (BitVec.ofInt 64 y23)).toNat)) fun v33 => (asq (((a2 <<< (BitVec.ofInt 64 y23).toNat) >>> 32) ≠ 0#64) (lett ((v33 / ((a2 <<< (BitVec.ofInt 64 y23).toNat) >>> 32)) * ((a2 <<< (BitVec.ofInt 64 y23).toNat) >>> 32)) fun v46 => bitsDiv64L5 a1 a2 y23 v33 FUEL (v33 / ((a2 <<< (BitVec.ofInt 64 y23).toNat) >>> 32)) (v33 - v46))))))))


/-- math/bits.Rem64 -/
def bitsRem64 (a0 : BitVec 64) (a1 : BitVec 64) (a2 : BitVec 64) : Option (BitVec 64) :=
  (asq (a2 ≠ 0#64) ((bitsDiv64 (a0 % a2) a1 a2).bind fun y6 => some y6.2))


/-- passkey/exchange.Mul -/
def exchangeMul (a0 : BitVec 64) (a1 : BitVec 64) : Option (BitVec 64) :=
  ((bitsMul64 a0 a1).bind fun y5 => ((bitsRem64 y5.1 y5.2 (2305843009213693951#64)).bind fun y9 => some y9))

def passkeyref3MulJ1 (v7 : BitVec 64) : Option (BitVec 64) :=
  some v7
def passkeyref3MulJ3 (q2 : (BitVec 64) → Int → Option (BitVec 64)) (v15 : Int) (v21 : BitVec 64) : Option (BitVec 64) :=
  q2 v21 (w64 (v15 - (1 : Int)))
def passkeyref3MulL2 (a0 : BitVec 64) (a1 : BitVec 64) : Nat → (BitVec 64) → Int → Option (BitVec 64)
  | 0, _, _ => none
  | k + 1, v14, v15 =>
  (if (decide ((0 : Int) ≤ v15)) then (lett ((a1 % (2305843009213693951#64)) >>> (BitVec.ofInt 64 v15).toNat) fun v29 => (if ((v29 &&& (1#64)) == (1#64)) then (lett (((v14 * (2#64)) % (2305843009213693951#64)) + (a0 % (2305843009213693951#64))) fun v33 => passkeyref3MulJ3 (passkeyref3MulL2 a0 a1 k) v15 (v33 % (2305843009213693951#64))) else passkeyref3MulJ3 (passkeyref3MulL2 a0 a1 k) v15 ((v14 * (2#64)) % (2305843009213693951#64)))) else passkeyref3MulJ1 v14)
/-- passkey/passkeyref3.Mul -/
def passkeyref3Mul (a0 : BitVec 64) (a1 : BitVec 64) : Option (BitVec 64) :=
  passkeyref3MulL2 a0 a1 FUEL (0#64) (60 : Int)


/-- passkey/exchange.exponent -/
def exchangeexponent (a0 : BitVec 64) : Option (BitVec 64) :=
  some ((2#64) + (a0 % (2305843009213693948#64)))

def exchangePowerJ1 (v5 : BitVec 64) : Option (BitVec 64) :=
  some v5
def exchangePowerJ3 (q2 : (BitVec 64) → (BitVec 64) → (BitVec 64) → Option (BitVec 64)) (v10 : BitVec 64) (v11 : BitVec 64) (v20 : BitVec 64) : Option (BitVec 64) :=
  ((exchangeMul v10 v10).bind fun y23 => q2 y23 (v11 >>> 1) v20)
def exchangePowerL2  : Nat → (BitVec 64) → (BitVec 64) → (BitVec 64) → Option (BitVec 64)
  | 0, _, _, _ => none
  | k + 1, v10, v11, v12 =>
  (if (decide ((0#64).toNat < v11.toNat)) then (if ((v11 &&& (1#64)) == (1#64)) then ((exchangeMul v12 v10).bind fun y30 => exchangePowerJ3 (exchangePowerL2 k) v10 v11 y30) else exchangePowerJ3 (exchangePowerL2 k) v10 v11 v12) else exchangePowerJ1 v12)
/-- passkey/exchange.Power -/
def exchangePower (a0 : BitVec 64) (a1 : BitVec 64) : Option (BitVec 64) :=
  exchangePowerL2 FUEL a0 a1 (1#64)

def digestWordsJ1 (v5 : List (BitVec 8)) : Option (List (BitVec 8)) :=
  some v5
def digestWordsJ3 (q2 : (List (BitVec 8)) → Int → Option (List (BitVec 8))) (v13 : Int) (v19 : List (BitVec 8)) : Option (List (BitVec 8)) :=
  q2 v19 (w64 (v13 + (1 : Int)))
def digestWordsL4 (q2 : (List (BitVec 8)) → Int → Option (List (BitVec 8))) (a0 : List (BitVec 64)) (v13 : Int) : Nat → (List (BitVec 8)) → Int → Option (List (BitVec 8))
  | 0, _, _ => none
  | k + 1, v29, v30 =>
  (if (decide (v30 < (8 : Int))) then (asq (0 ≤ (w64 ((56 : Int) - (w64 ((8 : Int) * v30))))) (lett ((a0.getD v13.toNat 0#64) >>> (w64 ((56 : Int) - (w64 ((8 : Int) * v30)))).toNat) fun v42 => (asq (((v29 ++ ([(v42.setWidth 8)] : List (BitVec 8)))).length ≤ 140737488355328) ((digestWordsL4 q2 a0 v13 k) (v29 ++ ([(v42.setWidth 8)] : List (BitVec 8))) (w64 (v30 + (1 : Int))))))) else digestWordsJ3 q2 v13 v29)
def digestWordsL2 (a0 : List (BitVec 64)) : Nat → (List (BitVec 8)) → Int → Option (List (BitVec 8))
  | 0, _, _ => none
  | k + 1, v12, v13 =>
  (if (decide (v13 < (a0.length : Int))) then (asq (0 ≤ v13 ∧ v13 < (a0.length : Int)) (digestWordsL4 (digestWordsL2 a0 k) a0 v13 FUEL v12 (0 : Int))) else digestWordsJ1 v12)
/-- passkey/digest.Words -/
def digestWords (a0 : List (BitVec 64)) : Option (List (BitVec 8)) :=
  digestWordsL2 a0 FUEL ([] : List (BitVec 8)) (0 : Int)

def digestlittleJ1 (v5 : BitVec 64) : Option (BitVec 64) :=
  some v5
def digestlittleL2 (a0 : List (BitVec 8)) : Nat → (BitVec 64) → Int → Option (BitVec 64)
  | 0, _, _ => none
  | k + 1, v12, v13 =>
  (if (decide (v13 < (a0.length : Int))) then (asq (0 ≤ v13 ∧ v13 < (a0.length : Int)) (asq (0 ≤ (w64 ((8 : Int) * v13))) (lett (((a0.getD v13.toNat 0#8).setWidth 64) <<< (w64 ((8 : Int) * v13)).toNat) fun v26 => (digestlittleL2 a0 k) (v12 ||| v26) (w64 (v13 + (1 : Int)))))) else digestlittleJ1 v12)
/-- passkey/digest.little -/
def digestlittle (a0 : List (BitVec 8)) : Option (BitVec 64) :=
  digestlittleL2 a0 FUEL (0#64) (0 : Int)


/-- math/bits.RotateLeft64 -/
def bitsRotateLeft64 (a0 : BitVec 64) (a1 : Int) : Option (BitVec 64) :=
  (lett (a0 >>> ((64#64) - ((BitVec.ofInt 64 a1) &&& (63#64))).toNat) fun v7 => some ((a0 <<< ((BitVec.ofInt 64 a1) &&& (63#64)).toNat) ||| v7))

def digeststateroundL1 (a1 : Int) : Nat → (BitVec 64) → (BitVec 64) → (BitVec 64) → (BitVec 64) → Int → Option (TDigeststate)
  | 0, _, _, _, _, _ => none
  | k + 1, v4, v5, v6, v7, v8 =>
  (if (decide (v8 < a1)) then ((bitsRotateLeft64 v5 (13 : Int)).bind fun y20 => ((bitsRotateLeft64 (v4 + v5) (32 : Int)).bind fun y24 => ((bitsRotateLeft64 v7 (16 : Int)).bind fun y30 => ((bitsRotateLeft64 (y30 ^^^ (v6 + v7)) (21 : Int)).bind fun y36 => ((bitsRotateLeft64 (y20 ^^^ (v4 + v5)) (17 : Int)).bind fun y42 => ((bitsRotateLeft64 ((v6 + v7) + (y20 ^^^ (v4 + v5))) (32 : Int)).bind fun y45 => (digeststateroundL1 a1 k) (y24 + (y30 ^^^ (v6 + v7))) (y42 ^^^ ((v6 + v7) + (y20 ^^^ (v4 + v5)))) y45 (y36 ^^^ (y24 + (y30 ^^^ (v6 + v7)))) (w64 (v8 + (1 : Int))))))))) else some (TDigeststate.mk v4 v5 v6 v7))
/-- (*passkey/digest.state).round -/
def digeststateround (a0 : TDigeststate) (a1 : Int) : Option (TDigeststate) :=
  digeststateroundL1 a1 FUEL a0.v0 a0.v1 a0.v2 a0.v3 (0 : Int)


/-- (*passkey/digest.state).word -/
def digeststateword (a0 : TDigeststate) (a1 : BitVec 64) : Option (TDigeststate) :=
  ((digeststateround (TDigeststate.mk a0.v0 a0.v1 a0.v2 (a0.v3 ^^^ a1)) (2 : Int)).bind fun y5 => some (TDigeststate.mk (y5.v0 ^^^ a1) y5.v1 y5.v2 y5.v3))

def digestSumJ1 (a2 : List (BitVec 8)) (v7 : List (BitVec 8)) (v8 : BitVec 64) (v9 : BitVec 64) (v10 : BitVec 64) (v11 : BitVec 64) : Option (BitVec 64) :=
  ((digestlittle v7).bind fun y15 => ((digeststateword (TDigeststate.mk v8 v9 v10 v11) (((BitVec.ofInt 64 (a2.length : Int)) <<< 56) ||| y15)).bind fun y17 => ((digeststateround (TDigeststate.mk y17.v0 y17.v1 (y17.v2 ^^^ (255#64)) y17.v3) (4 : Int)).bind fun y23 => some (((y23.v0 ^^^ y23.v1) ^^^ y23.v2) ^^^ y23.v3))))
def digestSumL2 (a2 : List (BitVec 8)) : Nat → (List (BitVec 8)) → (BitVec 64) → (BitVec 64) → (BitVec 64) → (BitVec 64) → Option (BitVec 64)
  | 0, _, _, _, _, _ => none
  | k + 1, v28, v29, v30, v31, v32 =>
  (if (decide ((8 : Int) ≤ (v28.length : Int))) then (asq (0 ≤ (8 : Int) ∧ (8 : Int) ≤ (v28.length : Int)) ((digestlittle (dropTake 0 (8 : Int).toNat v28)).bind fun y42 => ((digeststateword (TDigeststate.mk v29 v30 v31 v32) y42).bind fun y44 => (asq (0 ≤ (8 : Int) ∧ (8 : Int) ≤ (v28.length : Int)) ((digestSumL2 a2 k) (dropTake (8 : Int).toNat v28.length v28) y44.v0 y44.v1 y44.v2 y44.v3))))) else digestSumJ1 a2 v28 v29 v30 v31 v32)
/-- passkey/digest.Sum -/
def digestSum (a0 : BitVec 64) (a1 : BitVec 64) (a2 : List (BitVec 8)) : Option (BitVec 64) :=
  digestSumL2 a2 FUEL a2 (a0 ^^^ (8317987319222330741#64)) (a1 ^^^ (7237128888997146477#64)) (a0 ^^^ (7816392313619706465#64)) (a1 ^^^ (8387220255154660723#64))


/-- passkey/digest.Hash -/
def digestHash (a0 : Int) (a1 : List (BitVec 8)) : Option (BitVec 64) :=
  ((digestSum (BitVec.ofInt 64 a0) (0#64) a1).bind fun y5 => some y5)

def exchangeSharedJ1 (a0 : BitVec 64) (a1 : BitVec 64) (v4 : Bool) : Option ((BitVec 64) × Int) :=
  (if v4 then some ((0#64), (9 : Int)) else ((exchangeexponent a0).bind fun y11 => ((exchangePower a1 y11).bind fun y13 => ((digestWords ([y13] : List (BitVec 64))).bind fun y15 => ((digestHash (12 : Int) y15).bind fun y17 => some (y17, (0 : Int)))))))
/-- passkey/exchange.Shared -/
def exchangeShared (a0 : BitVec 64) (a1 : BitVec 64) : Option ((BitVec 64) × Int) :=
  (if (decide (a1.toNat < (2#64).toNat)) then exchangeSharedJ1 a0 a1 true else exchangeSharedJ1 a0 a1 (decide ((2305843009213693949#64).toNat < a1.toNat)))


/-- passkey/passkeylaw5.awake -/
def passkeylaw5awake  : Option (Bool) :=
  ((exchangeShared (5#64) (1#64)).bind fun y5 => ((exchangeMul (1152921504606846976#64) (2#64)).bind fun y9 => (if (y9 == (1#64)) then ((exchangePower (37#64) (1#64)).bind fun y12 => (if (y12 == (37#64)) then (if (y5.2 == (9 : Int)) then ((exchangePower (2#64) (61#64)).bind fun y16 => some (y16 == (1#64))) else some false) else some false)) else some false)))


/-- passkey/passkeylaw5.ExchangeMul -/
def passkeylaw5ExchangeMul (a0 : BitVec 64) (a1 : BitVec 64) (a2 : BitVec 8) : Option (Bool) :=
  (asq (0 ≤ ((a2 % (6#8)).toNat : Int) ∧ ((a2 % (6#8)).toNat : Int) < ((([(0#64), (1#64), (2305843009213693950#64), (2305843009213693951#64), (2305843009213693952#64), (18446744073709551615#64)] : List (BitVec 64))).length : Int)) ((exchangeMul a0 a1).bind fun y8 => ((passkeyref3Mul a0 a1).bind fun y10 => (if (y8 == y10) then ((exchangeMul a0 (([(0#64), (1#64), (2305843009213693950#64), (2305843009213693951#64), (2305843009213693952#64), (18446744073709551615#64)] : List (BitVec 64)).getD (0 + ((a2 % (6#8)).toNat : Int).toNat) 0#64)).bind fun y13 => ((passkeyref3Mul a0 (([(0#64), (1#64), (2305843009213693950#64), (2305843009213693951#64), (2305843009213693952#64), (18446744073709551615#64)] : List (BitVec 64)).getD (0 + ((a2 % (6#8)).toNat : Int).toNat) 0#64)).bind fun y15 => (if (y13 == y15) then ((exchangeMul (([(0#64), (1#64), (2305843009213693950#64), (2305843009213693951#64), (2305843009213693952#64), (18446744073709551615#64)] : List (BitVec 64)).getD (0 + ((a2 % (6#8)).toNat : Int).toNat) 0#64) (([(0#64), (1#64), (2305843009213693950#64), (2305843009213693951#64), (2305843009213693952#64), (18446744073709551615#64)] : List (BitVec 64)).getD (0 + ((a2 % (6#8)).toNat : Int).toNat) 0#64)).bind fun y18 => ((passkeyref3Mul (([(0#64), (1#64), (2305843009213693950#64), (2305843009213693951#64), (2305843009213693952#64), (18446744073709551615#64)] : List (BitVec 64)).getD (0 + ((a2 % (6#8)).toNat : Int).toNat) 0#64) (([(0#64), (1#64), (2305843009213693950#64), (2305843009213693951#64), (2305843009213693952#64), (18446744073709551615#64)] : List (BitVec 64)).getD (0 + ((a2 % (6#8)).toNat : Int).toNat) 0#64)).bind fun y20 => (if (y18 == y20) then ((passkeylaw5awake ).bind fun y23 => some y23) else some false))) else some false))) else some false))))

def passkeyref3PowerJ1 (v5 : BitVec 64) : Option (BitVec 64) :=
  some v5
def passkeyref3PowerJ3 (q2 : (BitVec 64) → Int → Option (BitVec 64)) (v13 : Int) (v19 : BitVec 64) : Option (BitVec 64) :=
  q2 v19 (w64 (v13 - (1 : Int)))
def passkeyref3PowerL2 (a0 : BitVec 64) (a1 : BitVec 64) : Nat → (BitVec 64) → Int → Option (BitVec 64)
  | 0, _, _ => none
  | k + 1, v12, v13 =>
  (if (decide ((0 : Int) ≤ v13)) then ((passkeyref3Mul v12 v12).bind fun y25 => (if (((a1 >>> (BitVec.ofInt 64 v13).toNat) &&& (1#64)) == (1#64)) then ((passkeyref3Mul y25 a0).bind fun y31 => passkeyref3PowerJ3 (passkeyref3PowerL2 a0 a1 k) v13 y31) else passkeyref3PowerJ3 (passkeyref3PowerL2 a0 a1 k) v13 y25)) else passkeyref3PowerJ1 v12)
/-- passkey/passkeyref3.Power -/
def passkeyref3Power (a0 : BitVec 64) (a1 : BitVec 64) : Option (BitVec 64) :=
  passkeyref3PowerL2 a0 a1 FUEL (1#64) (63 : Int)


/-- passkey/passkeylaw5.ExchangePower -/
def passkeylaw5ExchangePower (a0 : BitVec 64) (a1 : BitVec 64) (a2 : BitVec 8) : Option (Bool) :=
  ((exchangePower a0 a1).bind fun y5 => ((passkeyref3Power a0 a1).bind fun y7 => (if (y5 == y7) then ((exchangePower a0 ((a2 % (5#8)).setWidth 64)).bind fun y10 => ((passkeyref3Power a0 ((a2 % (5#8)).setWidth 64)).bind fun y12 => (if (y10 == y12) then ((passkeylaw5awake ).bind fun y15 => some y15) else some false))) else some false)))


/-- passkey/passkeylaw5.ExchangeField -/
def passkeylaw5ExchangeField (a0 : BitVec 64) (a1 : BitVec 64) (a2 : BitVec 64) : Option (Bool) :=
  ((exchangeMul (a0 % (2305843009213693951#64)) (a1 % (2305843009213693951#64))).bind fun y7 => ((exchangeMul (a1 % (2305843009213693951#64)) (a0 % (2305843009213693951#64))).bind fun y9 => (if (y7 == y9) then ((exchangeMul (a0 % (2305843009213693951#64)) (a1 % (2305843009213693951#64))).bind fun y12 => ((exchangeMul y12 (a2 % (2305843009213693951#64))).bind fun y14 => ((exchangeMul (a1 % (2305843009213693951#64)) (a2 % (2305843009213693951#64))).bind fun y16 => ((exchangeMul (a0 % (2305843009213693951#64)) y16).bind fun y18 => (if (y14 == y18) then (lett ((a1 % (2305843009213693951#64)) + (a2 % (2305843009213693951#64))) fun v21 => ((exchangeMul (a0 % (2305843009213693951#64)) (v21 % (2305843009213693951#64))).bind fun y23 => ((exchangeMul (a0 % (2305843009213693951#64)) (a1 % (2305843009213693951#64))).bind fun y25 => ((exchangeMul (a0 % (2305843009213693951#64)) (a2 % (2305843009213693951#64))).bind fun y27 => (if (y23 == ((y25 + y27) % (2305843009213693951#64))) then ((exchangeMul (a0 % (2305843009213693951#64)) (1#64)).bind fun y30 => (if (y30 == (a0 % (2305843009213693951#64))) then ((passkeylaw5awake ).bind fun y33 => some y33) else some false)) else some false))))) else some false))))) else some false)))

def passkeylaw5ExchangeSumsJ1 (a0 : BitVec 64) (a1 : BitVec 64) (a2 : BitVec 64) (v7 : BitVec 64) : Option (Bool) :=
  ((exchangePower a0 ((a1 >>> 1) + (a2 >>> 1))).bind fun y11 => ((exchangePower a0 (a1 >>> 1)).bind fun y13 => ((exchangePower a0 (a2 >>> 1)).bind fun y15 => ((exchangeMul y13 y15).bind fun y17 => (if (y11 == y17) then ((exchangePower a0 (2305843009213693949#64)).bind fun y20 => ((exchangeMul a0 y20).bind fun y22 => (if (y22 == v7) then ((passkeylaw5awake ).bind fun y25 => some y25) else some false))) else some false)))))
/-- passkey/passkeylaw5.ExchangeSums -/
def passkeylaw5ExchangeSums (a0 : BitVec 64) (a1 : BitVec 64) (a2 : BitVec 64) : Option (Bool) :=
  (if ((a0 % (2305843009213693951#64)) == (0#64)) then passkeylaw5ExchangeSumsJ1 a0 a1 a2 (0#64) else passkeylaw5ExchangeSumsJ1 a0 a1 a2 (1#64))


/-- passkey/passkeyref3.exponent -/
def passkeyref3exponent (a0 : BitVec 64) : Option (BitVec 64) :=
  some ((2#64) + (a0 % (2305843009213693948#64)))

def passkeyref1WordsJ1 (v5 : List (BitVec 8)) : Option (List (BitVec 8)) :=
  some v5
def passkeyref1WordsJ3 (q2 : (List (BitVec 8)) → Int → Option (List (BitVec 8))) (v13 : Int) (v19 : List (BitVec 8)) : Option (List (BitVec 8)) :=
  q2 v19 (w64 (v13 + (1 : Int)))
def passkeyref1WordsL4 (q2 : (List (BitVec 8)) → Int → Option (List (BitVec 8))) (a0 : List (BitVec 64)) (v13 : Int) : Nat → (List (BitVec 8)) → Int → Option (List (BitVec 8))
  | 0, _, _ => none
  | k + 1, v26, v27 =>
  (if (decide ((0 : Int) ≤ v27)) then (asq (0 ≤ v13 ∧ v13 < (a0.length : Int)) (lett ((a0.getD v13.toNat 0#64) >>> (BitVec.ofInt 64 (w64 ((8 : Int) * v27))).toNat) fun v37 => (asq (((v26 ++ ([(v37.setWidth 8)] : List (BitVec 8)))).length ≤ 140737488355328) ((passkeyref1WordsL4 q2 a0 v13 k) (v26 ++ ([(v37.setWidth 8)] : List (BitVec 8))) (w64 (v27 - (1 : Int))))))) else passkeyref1WordsJ3 q2 v13 v26)
def passkeyref1WordsL2 (a0 : List (BitVec 64)) : Nat → (List (BitVec 8)) → Int → Option (List (BitVec 8))
  | 0, _, _ => none
  | k + 1, v12, v13 =>
  (if (decide (v13 < (a0.length : Int))) then passkeyref1WordsL4 (passkeyref1WordsL2 a0 k) a0 v13 FUEL v12 (7 : Int) else passkeyref1WordsJ1 v12)
/-- passkey/passkeyref1.Words -/
def passkeyref1Words (a0 : List (BitVec 64)) : Option (List (BitVec 8)) :=
  passkeyref1WordsL2 a0 FUEL ([] : List (BitVec 8)) (0 : Int)


/-- passkey/passkeyref1.rotl -/
def passkeyref1rotl (a0 : BitVec 64) (a1 : BitVec 64) : Option (BitVec 64) :=
  some ((a0 <<< a1.toNat) ||| (a0 >>> ((64#64) - a1).toNat))


/-- passkey/passkeyref1.round -/
def passkeyref1round (a0 : TA4BitVec64) : Option (TA4BitVec64) :=
  ((passkeyref1rotl a0.c1 (13#64)).bind fun y7 => ((passkeyref1rotl (a0.c0 + a0.c1) (32#64)).bind fun y11 => ((passkeyref1rotl a0.c3 (16#64)).bind fun y17 => ((passkeyref1rotl (y17 ^^^ (a0.c2 + a0.c3)) (21#64)).bind fun y23 => ((passkeyref1rotl (y7 ^^^ (a0.c0 + a0.c1)) (17#64)).bind fun y29 => ((passkeyref1rotl ((a0.c2 + a0.c3) + (y7 ^^^ (a0.c0 + a0.c1))) (32#64)).bind fun y33 => some (TA4BitVec64.mk (y11 + (y17 ^^^ (a0.c2 + a0.c3))) (y29 ^^^ ((a0.c2 + a0.c3) + (y7 ^^^ (a0.c0 + a0.c1)))) y33 (y23 ^^^ (y11 + (y17 ^^^ (a0.c2 + a0.c3)))))))))))

def passkeyref1SumJ1 (v5 : BitVec 64) (v6 : BitVec 64) (v7 : BitVec 64) (v8 : BitVec 64) : Option (BitVec 64) :=
  ((passkeyref1round (TA4BitVec64.mk v5 v6 (v7 ^^^ (255#64)) v8)).bind fun y14 => ((passkeyref1round y14).bind fun y16 => ((passkeyref1round y16).bind fun y18 => ((passkeyref1round y18).bind fun y20 => some (((y20.c0 ^^^ y20.c1) ^^^ y20.c2) ^^^ y20.c3)))))
def passkeyref1SumJ3 (q2 : (BitVec 64) → (BitVec 64) → (BitVec 64) → (BitVec 64) → Int → Option (BitVec 64)) (v31 : Int) (v37 : BitVec 64) (v38 : BitVec 64) (v39 : BitVec 64) (v40 : BitVec 64) : Option (BitVec 64) :=
  q2 v37 v38 v39 v40 (w64 (v31 + (8 : Int)))
def passkeyref1SumJ4 (q2 : (BitVec 64) → (BitVec 64) → (BitVec 64) → (BitVec 64) → Int → Option (BitVec 64)) (v27 : BitVec 64) (v28 : BitVec 64) (v29 : BitVec 64) (v30 : BitVec 64) (v31 : Int) (v46 : BitVec 64) : Option (BitVec 64) :=
  ((passkeyref1round (TA4BitVec64.mk v27 v28 v29 (v30 ^^^ v46))).bind fun y52 => ((passkeyref1round y52).bind fun y54 => passkeyref1SumJ3 q2 v31 (y54.c0 ^^^ v46) y54.c1 y54.c2 y54.c3))
def passkeyref1SumJ6 (q5 : (BitVec 64) → Int → Option (BitVec 64)) (v60 : BitVec 64) (v61 : Int) (v71 : BitVec 8) : Option (BitVec 64) :=
  q5 ((v60 <<< 8) ||| (v71.setWidth 64)) (w64 (v61 - (1 : Int)))
def passkeyref1SumL5 (q2 : (BitVec 64) → (BitVec 64) → (BitVec 64) → (BitVec 64) → Int → Option (BitVec 64)) (a2 : List (BitVec 8)) (v27 : BitVec 64) (v28 : BitVec 64) (v29 : BitVec 64) (v30 : BitVec 64) (v31 : Int) : Nat → (BitVec 64) → Int → Option (BitVec 64)
  | 0, _, _ => none
  | k + 1, v60, v61 =>
  (if (decide ((0 : Int) ≤ v61)) then (if (decide ((w64 (v31 + v61)) < (a2.length : Int))) then (asq (0 ≤ (w64 (v31 + v61)) ∧ (w64 (v31 + v61)) < (a2.length : Int)) (passkeyref1SumJ6 (passkeyref1SumL5 q2 a2 v27 v28 v29 v30 v31 k) v60 v61 (a2.getD (w64 (v31 + v61)).toNat 0#8))) else (if (v61 == (7 : Int)) then passkeyref1SumJ6 (passkeyref1SumL5 q2 a2 v27 v28 v29 v30 v31 k) v60 v61 (BitVec.ofInt 8 (a2.length : Int)) else passkeyref1SumJ6 (passkeyref1SumL5 q2 a2 v27 v28 v29 v30 v31 k) v60 v61 (0#8))) else passkeyref1SumJ4 q2 v27 v28 v29 v30 v31 v60)
def passkeyref1SumL2 (a2 : List (BitVec 8)) : Nat → (BitVec 64) → (BitVec 64) → (BitVec 64) → (BitVec 64) → Int → Option (BitVec 64)
  | 0, _, _, _, _, _ => none
  | k + 1, v27, v28, v29, v30, v31 =>
  (if (decide (v31 ≤ (a2.length : Int))) then passkeyref1SumL5 (passkeyref1SumL2 a2 k) a2 v27 v28 v29 v30 v31 FUEL (0#64) (7 : Int) else passkeyref1SumJ1 v27 v28 v29 v30)
/-- passkey/passkeyref1.Sum -/
def passkeyref1Sum (a0 : BitVec 64) (a1 : BitVec 64) (a2 : List (BitVec 8)) : Option (BitVec 64) :=
  passkeyref1SumL2 a2 FUEL (a0 ^^^ (8317987319222330741#64)) (a1 ^^^ (7237128888997146477#64)) (a0 ^^^ (7816392313619706465#64)) (a1 ^^^ (8387220255154660723#64)) (0 : Int)


/-- passkey/passkeyref1.Hash -/
def passkeyref1Hash (a0 : Int) (a1 : List (BitVec 8)) : Option (BitVec 64) :=
  ((passkeyref1Sum (BitVec.ofInt 64 a0) (0#64) a1).bind fun y5 => some y5)

def passkeyref3SharedJ1 (a0 : BitVec 64) (a1 : BitVec 64) (v4 : Bool) : Option ((BitVec 64) × Int) :=
  (if v4 then some ((0#64), (9 : Int)) else ((passkeyref3exponent a0).bind fun y11 => ((passkeyref3Power a1 y11).bind fun y13 => ((passkeyref1Words ([y13] : List (BitVec 64))).bind fun y15 => ((passkeyref1Hash (12 : Int) y15).bind fun y17 => some (y17, (0 : Int)))))))
/-- passkey/passkeyref3.Shared -/
def passkeyref3Shared (a0 : BitVec 64) (a1 : BitVec 64) : Option ((BitVec 64) × Int) :=
  (if (decide (a1.toNat < (2#64).toNat)) then passkeyref3SharedJ1 a0 a1 true else passkeyref3SharedJ1 a0 a1 (decide ((2305843009213693949#64).toNat < a1.toNat)))


/-- passkey/exchange.Public -/
def exchangePublic (a0 : BitVec 64) : Option (BitVec 64) :=
  ((exchangeexponent a0).bind fun y5 => ((exchangePower (37#64) y5).bind fun y7 => some y7))


/-- passkey/passkeyref3.PublicWord -/
def passkeyref3PublicWord (a0 : BitVec 64) : Option (BitVec 64) :=
  ((passkeyref3exponent a0).bind fun y5 => ((passkeyref3Power (37#64) y5).bind fun y7 => some y7))


/-- passkey/passkeylaw5.ExchangeShared -/
def passkeylaw5ExchangeShared (a0 : BitVec 64) (a1 : BitVec 64) (a2 : BitVec 8) : Option (Bool) :=
  (asq (0 ≤ ((a2 % (7#8)).toNat : Int) ∧ ((a2 % (7#8)).toNat : Int) < ((([(0#64), (1#64), (2#64), (2305843009213693949#64), (2305843009213693950#64), (2305843009213693951#64), (18446744073709551615#64)] : List (BitVec 64))).length : Int)) ((exchangeShared a0 a1).bind fun y8 => ((passkeyref3Shared a0 a1).bind fun y12 => ((exchangeShared a0 (([(0#64), (1#64), (2#64), (2305843009213693949#64), (2305843009213693950#64), (2305843009213693951#64), (18446744073709551615#64)] : List (BitVec 64)).getD (0 + ((a2 % (7#8)).toNat : Int).toNat) 0#64)).bind fun y16 => ((passkeyref3Shared a0 (([(0#64), (1#64), (2#64), (2305843009213693949#64), (2305843009213693950#64), (2305843009213693951#64), (18446744073709551615#64)] : List (BitVec 64)).getD (0 + ((a2 % (7#8)).toNat : Int).toNat) 0#64)).bind fun y20 => ((exchangePublic a0).bind fun y24 => ((passkeyref3PublicWord a0).bind fun y26 => (if (y24 == y26) then (if (y8.1 == y12.1) then (if (y8.2 == y12.2) then (if (y16.1 == y20.1) then (if (y16.2 == y20.2) then ((passkeylaw5awake ).bind fun y33 => some y33) else some false) else some false) else some false) else some false) else some false))))))))

def passkeylaw5ExchangeAgreesJ1 (a0 : BitVec 64) (a1 : BitVec 64) (y5 : BitVec 64) (y7 : BitVec 64) (v10 : Bool) : Option (Bool) :=
  (if v10 then ((passkeyref3PublicWord a0).bind fun y15 => (if (y5 == y15) then ((passkeyref3PublicWord a1).bind fun y18 => (if (y7 == y18) then ((passkeylaw5awake ).bind fun y21 => some y21) else some false)) else some false)) else ((exchangeShared a0 y7).bind fun y25 => ((exchangeShared a1 y5).bind fun y29 => (if (y25.2 == (0 : Int)) then (if (y29.2 == (0 : Int)) then (if (y25.1 == y29.1) then ((passkeylaw5awake ).bind fun y36 => some y36) else some false) else some false) else some false))))
/-- passkey/passkeylaw5.ExchangeAgrees -/
def passkeylaw5ExchangeAgrees (a0 : BitVec 64) (a1 : BitVec 64) : Option (Bool) :=
  ((exchangePublic a0).bind fun y5 => ((exchangePublic a1).bind fun y7 => (if (decide (y5.toNat < (2#64).toNat)) then passkeylaw5ExchangeAgreesJ1 a0 a1 y5 y7 true else (if (decide ((2305843009213693949#64).toNat < y5.toNat)) then passkeylaw5ExchangeAgreesJ1 a0 a1 y5 y7 true else (if (decide (y7.toNat < (2#64).toNat)) then passkeylaw5ExchangeAgreesJ1 a0 a1 y5 y7 true else passkeylaw5ExchangeAgreesJ1 a0 a1 y5 y7 (decide ((2305843009213693949#64).toNat < y7.toNat)))))))

end Go.Proofs.Ty
