/- What the Go functions compute, as plain functions. PRINTED by a program of this session (ty.py). -/
import Derived.Test.YtfhdcabplkhdcaaDoorRc
set_option linter.unusedVariables false
set_option linter.unusedSimpArgs false
set_option maxHeartbeats 4000000
set_option maxRecDepth 10000
namespace Go.Proofs.Ty
open Go Go.RW
def FUEL : Nat := 18446744073709551616
structure TDigeststate where
  v0 : BitVec 64
  v1 : BitVec 64
  v2 : BitVec 64
  v3 : BitVec 64
deriving DecidableEq, Inhabited
def okTDigeststate (s : TDigeststate) : Prop := okT s.v0 ∧ okT s.v1 ∧ okT s.v2 ∧ okT s.v3 ∧ True
def eTDigeststate (s : TDigeststate) : D := .agg [eU64 s.v0, eU64 s.v1, eU64 s.v2, eU64 s.v3]
structure TApiToken where
  Secret : BitVec 64
  Active : Bool
  Value : BitVec 64
  Permissions : Int
  RP : List (BitVec 8)
  Since : Int
deriving DecidableEq, Inhabited
def okTApiToken (s : TApiToken) : Prop := okT s.Secret ∧ okT s.Active ∧ okT s.Value ∧ okI s.Permissions ∧ okS s.RP ∧ okI s.Since ∧ True
def eTApiToken (s : TApiToken) : D := .agg [eU64 s.Secret, eB s.Active, eU64 s.Value, eI s.Permissions, eS s.RP, eI s.Since]
structure TA4BitVec64 where
  c0 : BitVec 64
  c1 : BitVec 64
  c2 : BitVec 64
  c3 : BitVec 64
deriving DecidableEq, Inhabited
def eTA4BitVec64 (s : TA4BitVec64) : D := .agg [eU64 s.c0, eU64 s.c1, eU64 s.c2, eU64 s.c3]
def digestWordsJ1 (v5 : List (BitVec 8)) : Option (List (BitVec 8)) :=
  some v5
def digestWordsJ3 (q2 : (List (BitVec 8)) → Int → Option (List (BitVec 8))) (v13 : Int) (v19 : List (BitVec 8)) : Option (List (BitVec 8)) :=
  q2 v19 (w64 (v13 + (1 : Int)))
def digestWordsL4 (q2 : (List (BitVec 8)) → Int → Option (List (BitVec 8))) (a0 : List (BitVec 64)) (v13 : Int) : Nat → (List (BitVec 8)) → Int → Option (List (BitVec 8))
  | 0, _, _ => none
  | k + 1, v29, v30 =>
  (if (decide (v30 < (8 : Int))) then (asq (0 ≤ (w64 ((56 : Int) - (w64 ((8 : Int) * v30))))) (lett ((a0.getD v13.toNat 0#64) >>> (w64 ((56 : Int) - (w64 ((8 : Int) * v30)))).toNat) fun v42 => (asq (((v29 ++ ([(v42.setWidth 8)] : List (BitVec 8)))).length ≤ 140737488355328) ((digestWordsL4 q2 a0 v13 k) (v29 ++ ([(v42.setWidth 8)] : List (BitVec 8))) (w64 (v30 + (1 : Int))))))) else digestWordsJ3 q2 v13 v29)
def digestWordsL2 (a0 : List (BitVec 64)) : Nat → (List (BitVec 8)) → Int → Option (List (BitVec 8))
  | 0, _, _ => none
  | k + 1, v12, v13 =>
  (if (decide (v13 < (a0.length : Int))) then (asq (0 ≤ v13 ∧ v13 < (a0.length : Int)) (digestWordsL4 (digestWordsL2 a0 k) a0 v13 FUEL v12 (0 : Int))) else digestWordsJ1 v12)
/-- passkey/digest.Words -/
def digestWords (a0 : List (BitVec 64)) : Option (List (BitVec 8)) :=
  digestWordsL2 a0 FUEL ([] : List (BitVec 8)) (0 : Int)

def digestlittleJ1 (v5 : BitVec 64) : Option (BitVec 64) :=
  some v5
def digestlittleL2 (a0 : List (BitVec 8)) : Nat → (BitVec 64) → Int → Option (BitVec 64)
  | 0, _, _ => none
  | k + 1, v12, v13 =>
  (if (decide (v13 < (a0.length : Int))) then (asq (0 ≤ v13 ∧ v13 < (a0.length : Int)) (asq (0 ≤ (w64 ((8 : Int) * v13))) (lett (((a0.getD v13.toNat 0#8).setWidth 64) <<< (w64 ((8 : Int) * v13)).toNat) fun v26 => (digestlittleL2 a0 k) (v12 ||| v26) (w64 (v13 + (1 : Int)))))) else digestlittleJ1 v12)
/-- passkey/digest.little -/
def digestlittle (a0 : List (BitVec 8)) : Option (BitVec 64) :=
  digestlittleL2 a0 FUEL (0#64) (0 : Int)


/-- math/bits.RotateLeft64 -/
def bitsRotateLeft64 (a0 : BitVec 64) (a1 : Int) : Option (BitVec 64) :=
  (lett (a0 >>> ((64#64) - ((BitVec.ofInt 64 a1) &&& (63#64))).toNat) fun v7 => some ((a0 <<< ((BitVec.ofInt 64 a1) &&& (63#64)).toNat) ||| v7))

def digeststateroundL1 (a1 : Int) : Nat → (BitVec 64) → (BitVec 64) → (BitVec 64) → (BitVec 64) → Int → Option (TDigeststate)
  | 0, _, _, _, _, _ => none
  | k + 1, v4, v5, v6, v7, v8 =>
  (if (decide (v8 < a1)) then ((bitsRotateLeft64 v5 (13 : Int)).bind fun y20 => ((bitsRotateLeft64 (v4 + v5) (32 : Int)).bind fun y24 => ((bitsRotateLeft64 v7 (16 : Int)).bind fun y30 => ((bitsRotateLeft64 (y30 ^^^ (v6 + v7)) (21 : Int)).bind fun y36 => ((bitsRotateLeft64 (y20 ^^^ (v4 + v5)) (17 : Int)).bind fun y42 => ((bitsRotateLeft64 ((v6 + v7) + (y20 ^^^ (v4 + v5))) (32 : Int)).bind fun y45 => (digeststateroundL1 a1 k) (y24 + (y30 ^^^ (v6 + v7))) (y42 ^^^ ((v6 + v7) + (y20 ^^^ (v4 + v5)))) y45 (y36 ^^^ (y24 + (y30 ^^^ (v6 + v7)))) (w64 (v8 + (1 : Int))))))))) else some (TDigeststate.mk v4 v5 v6 v7))
/-- (*passkey/digest.state).round -/
def digeststateround (a0 : TDigeststate) (a1 : Int) : Option (TDigeststate) :=
  digeststateroundL1 a1 FUEL a0.v0 a0.v1 a0.v2 a0.v3 (0 : Int)


/-- (*passkey/digest.state).word -/
def digeststateword (a0 : TDigeststate) (a1 : BitVec 64) : Option (TDigeststate) :=
  ((digeststateround (TDigeststate.mk a0.v0 a0.v1 a0.v2 (a0.v3 ^^^ a1)) (2 : Int)).bind fun y5 => some (TDigeststate.mk (y5.v0 ^^^ a1) y5.v1 y5.v2 y5.v3))

def digestSumJ1 (a2 : List (BitVec 8)) (v7 : List (BitVec 8)) (v8 : BitVec 64) (v9 : BitVec 64) (v10 : BitVec 64) (v11 : BitVec 64) : Option (BitVec 64) :=
  ((digestlittle v7).bind fun y15 => ((digeststateword (TDigeststate.mk v8 v9 v10 v11) (((BitVec.ofInt 64 (a2.length : Int)) <<< 56) ||| y15)).bind fun y17 => ((digeststateround (TDigeststate.mk y17.v0 y17.v1 (y17.v2 ^^^ (255#64)) y17.v3) (4 : Int)).bind fun y23 => some (((y23.v0 ^^^ y23.v1) ^^^ y23.v2) ^^^ y23.v3))))
def digestSumL2 (a2 : List (BitVec 8)) : Nat → (List (BitVec 8)) → (BitVec 64) → (BitVec 64) → (BitVec 64) → (BitVec 64) → Option (BitVec 64)
  | 0, _, _, _, _, _ => none
  | k + 1, v28, v29, v30, v31, v32 =>
  (if (decide ((8 : Int) ≤ (v28.length : Int))) then (asq (0 ≤ (8 : Int) ∧ (8 : Int) ≤ (v28.length : Int)) ((digestlittle (dropTake 0 (8 : Int).toNat v28)).bind fun y42 => ((digeststateword (TDigeststate.mk v29 v30 v31 v32) y42).bind fun y44 => (asq (0 ≤ (8 : Int) ∧ (8 : Int) ≤ (v28.length : Int)) ((digestSumL2 a2 k) (dropTake (8 : Int).toNat v28.length v28) y44.v0 y44.v1 y44.v2 y44.v3))))) else digestSumJ1 a2 v28 v29 v30 v31 v32)
/-- passkey/digest.Sum -/
def digestSum (a0 : BitVec 64) (a1 : BitVec 64) (a2 : List (BitVec 8)) : Option (BitVec 64) :=
  digestSumL2 a2 FUEL a2 (a0 ^^^ (8317987319222330741#64)) (a1 ^^^ (7237128888997146477#64)) (a0 ^^^ (7816392313619706465#64)) (a1 ^^^ (8387220255154660723#64))


/-- passkey/digest.Mac -/
def digestMac (a0 : BitVec 64) (a1 : Int) (a2 : List (BitVec 8)) : Option (BitVec 64) :=
  ((digestSum a0 ((1#64) + (BitVec.ofInt 64 a1)) a2).bind fun y5 => some y5)

def sealStreamOwnJ1 (v5 : Int) (v9 : List (BitVec 8)) : Option (List (BitVec 8)) :=
  (asq (0 ≤ v5 ∧ v5 ≤ (v9.length : Int)) (asq ((v5.toNat - 0) ≤ v9.length) (some (v9.take (v5.toNat - 0)))))
def sealStreamOwnL2 (a0 : BitVec 64) (a1 : BitVec 64) (v5 : Int) : Nat → (List (BitVec 8)) → (BitVec 64) → Option (List (BitVec 8))
  | 0, _, _ => none
  | k + 1, v18, v19 =>
  (if (decide ((v18.length : Int) < v5)) then ((digestWords ([a1, v19] : List (BitVec 64))).bind fun y28 => ((digestMac a0 (5 : Int) y28).bind fun y30 => ((digestWords ([y30] : List (BitVec 64))).bind fun y32 => (asq (((v18 ++ y32)).length ≤ 140737488355328) ((sealStreamOwnL2 a0 a1 v5 k) (v18 ++ y32) (v19 + (1#64))))))) else sealStreamOwnJ1 v5 v18)
/-- passkey/seal.Stream -/
def sealStreamOwn (a0 : BitVec 64) (a1 : BitVec 64) (a2 : Int) : Option (List (BitVec 8)) :=
  (lett (if (if (1024 : Int) < a2 then (1024 : Int) else a2) > (0 : Int) then (if (1024 : Int) < a2 then (1024 : Int) else a2) else (0 : Int)) fun v5 => sealStreamOwnL2 a0 a1 v5 FUEL ([] : List (BitVec 8)) (0#64))

def sealmixedJ1 (v7 : List (BitVec 8)) : Option (List (BitVec 8)) :=
  some v7
def sealmixedL2 (a2 : List (BitVec 8)) (y5 : List (BitVec 8)) : Nat → (List (BitVec 8)) → Int → Option (List (BitVec 8))
  | 0, _, _ => none
  | k + 1, v14, v15 =>
  (if (decide (v15 < (y5.length : Int))) then (asq (0 ≤ v15 ∧ v15 < (v14.length : Int)) (asq (0 ≤ v15 ∧ v15 < (a2.length : Int)) (lett ((v14.getD (0 + v15.toNat) 0#8) ^^^ (a2.getD v15.toNat 0#8)) fun v28 => (asq (0 ≤ v15 ∧ v15 < (v14.length : Int)) ((sealmixedL2 a2 y5 k) (v14.set (0 + v15.toNat) v28) (w64 (v15 + (1 : Int)))))))) else sealmixedJ1 v14)
/-- passkey/seal.mixed -/
def sealmixed (a0 : BitVec 64) (a1 : BitVec 64) (a2 : List (BitVec 8)) : Option (List (BitVec 8)) :=
  ((sealStreamOwn a0 a1 (a2.length : Int)).bind fun y5 => sealmixedL2 a2 y5 FUEL y5 (0 : Int))


/-- passkey/seal.tag -/
def sealtag (a0 : BitVec 64) (a1 : BitVec 64) (a2 : List (BitVec 8)) (a3 : List (BitVec 8)) : Option (List (BitVec 8)) :=
  ((digestWords ([a1, (BitVec.ofInt 64 (a2.length : Int))] : List (BitVec 64))).bind fun y5 => (asq (((y5 ++ a2)).length ≤ 140737488355328) (asq ((((y5 ++ a2) ++ a3)).length ≤ 140737488355328) ((digestMac a0 (6 : Int) ((y5 ++ a2) ++ a3)).bind fun y11 => ((digestWords ([y11] : List (BitVec 64))).bind fun y13 => (asq (8 ≤ (((y13.drop 0).take y13.length)).length) (asq (8 = ((((y13.drop 0).take y13.length).take 8)).length) (asq (((List.replicate 8 (0#8))).length = 8 ∧ ((((y13.drop 0).take y13.length).take 8)).length = 8) (asq (8 = ((((y13.drop 0).take y13.length).take 8)).length) (some (((y13.drop 0).take y13.length).take 8)))))))))))

def sealSealJ1 (a0 : BitVec 64) (a1 : BitVec 64) (a2 : List (BitVec 8)) (a3 : List (BitVec 8)) (v4 : Bool) : Option ((List (BitVec 8)) × Int) :=
  (if v4 then some ([], (8 : Int)) else ((sealmixed a0 a1 a3).bind fun y11 => ((sealtag a0 a1 a2 y11).bind fun y15 => (asq (((List.replicate 8 (0#8))).length = 8 ∧ y15.length = 8) ((digestWords ([a1] : List (BitVec 64))).bind fun y20 => (asq (((y20 ++ y11)).length ≤ 140737488355328) (asq (8 = y15.length) (asq ((((y20 ++ y11) ++ y15)).length ≤ 140737488355328) (some (((y20 ++ y11) ++ y15), (0 : Int)))))))))))
/-- passkey/seal.Seal -/
def sealSeal (a0 : BitVec 64) (a1 : BitVec 64) (a2 : List (BitVec 8)) (a3 : List (BitVec 8)) : Option ((List (BitVec 8)) × Int) :=
  (if (decide ((1024 : Int) < (a3.length : Int))) then sealSealJ1 a0 a1 a2 a3 true else sealSealJ1 a0 a1 a2 a3 (decide ((1024 : Int) < (a2.length : Int))))


/-- passkey/token.SealPin -/
def tokenSealPin (a0 : BitVec 64) (a1 : BitVec 64) (a2 : List (BitVec 8)) : Option ((List (BitVec 8)) × Int) :=
  (if (decide ((63 : Int) < (a2.length : Int))) then some ([], (8 : Int)) else (asq (0 ≤ (64 : Int) ∧ (64 : Int) ≤ (64 : Int) ∧ (64 : Int) ≤ (281474976710656 : Int)) ((sealSeal a0 a1 ([] : List (BitVec 8)) (putL (List.replicate (64 : Int).toNat 0#8) 0 (a2.take (min a2.length (((List.replicate (64 : Int).toNat 0#8)).length))))).bind fun y16 => some (y16.1, y16.2))))

def sealwordJ1 (v5 : BitVec 64) : Option (BitVec 64) :=
  some v5
def sealwordL2 (a0 : List (BitVec 8)) : Nat → (BitVec 64) → Int → Option (BitVec 64)
  | 0, _, _ => none
  | k + 1, v13, v14 =>
  (if (decide (v14 < (8 : Int))) then (asq (0 ≤ v14 ∧ v14 < (8 : Int) ∧ v14.toNat < a0.length) ((sealwordL2 a0 k) ((v13 <<< 8) ||| ((a0.getD v14.toNat 0#8).setWidth 64)) (w64 (v14 + (1 : Int))))) else sealwordJ1 v13)
/-- passkey/seal.word -/
def sealword (a0 : List (BitVec 8)) : Option (BitVec 64) :=
  (asq (8 = a0.length) (sealwordL2 a0 FUEL (0#64) (0 : Int)))

def sealOpenJ1 (a0 : BitVec 64) (a1 : List (BitVec 8)) (a2 : List (BitVec 8)) (v10 : Bool) : Option ((List (BitVec 8)) × Int) :=
  (if v10 then some ([], (8 : Int)) else (asq (0 ≤ (8 : Int) ∧ (8 : Int) ≤ (a2.length : Int)) (asq (8 ≤ ((dropTake 0 (8 : Int).toNat a2)).length) (asq (8 = (((dropTake 0 (8 : Int).toNat a2).take 8)).length) ((sealword ((dropTake 0 (8 : Int).toNat a2).take 8)).bind fun y20 => (asq (0 ≤ (8 : Int) ∧ (8 : Int) ≤ (w64 ((a2.length : Int) - (8 : Int))) ∧ (w64 ((a2.length : Int) - (8 : Int))) ≤ (a2.length : Int)) (lett (dropTake (8 : Int).toNat (w64 ((a2.length : Int) - (8 : Int))).toNat a2) fun v23 => (asq (0 ≤ (w64 ((a2.length : Int) - (8 : Int))) ∧ (w64 ((a2.length : Int) - (8 : Int))) ≤ (a2.length : Int)) (lett (dropTake (w64 ((a2.length : Int) - (8 : Int))).toNat a2.length a2) fun v26 => (asq (8 ≤ v26.length) (asq (8 = ((v26.take 8)).length) (asq (((List.replicate 8 (0#8))).length = 8 ∧ ((v26.take 8)).length = 8) (asq (8 = ((v26.take 8)).length) ((sealtag a0 y20 a1 v23).bind fun y35 => (asq (((v26.take 8)).length = 8 ∧ y35.length = 8) (if (!((v26.take 8) == y35)) then some ([], (14 : Int)) else ((sealmixed a0 y20 v23).bind fun y43 => some (y43, (0 : Int)))))))))))))))))))
/-- passkey/seal.Open -/
def sealOpen (a0 : BitVec 64) (a1 : List (BitVec 8)) (a2 : List (BitVec 8)) : Option ((List (BitVec 8)) × Int) :=
  (if (decide ((a2.length : Int) < (16 : Int))) then some ([], (1 : Int)) else (if (decide ((1040 : Int) < (a2.length : Int))) then sealOpenJ1 a0 a1 a2 true else sealOpenJ1 a0 a1 a2 (decide ((1024 : Int) < (a1.length : Int)))))

/-- internal/bytealg.IndexByteString -/
def bytealgIndexByteString (a0 : List (BitVec 8)) (a1 : BitVec 8) : Option (Int) := some (idxB a0 a1)


/-- internal/stringslite.IndexByte -/
def stringsliteIndexByte (a0 : List (BitVec 8)) (a1 : BitVec 8) : Option (Int) :=
  ((bytealgIndexByteString a0 a1).bind fun y5 => some y5)


/-- strings.IndexByte -/
def stringsIndexByte (a0 : List (BitVec 8)) (a1 : BitVec 8) : Option (Int) :=
  ((stringsliteIndexByte a0 a1).bind fun y5 => some y5)

def stringstrimRightByteJ1 (v3 : List (BitVec 8)) : Option (List (BitVec 8)) :=
  some v3
def stringstrimRightByteJ3 (q2 : (List (BitVec 8)) → Option (List (BitVec 8))) (v8 : List (BitVec 8)) (v11 : Bool) : Option (List (BitVec 8)) :=
  (if v11 then (asq (0 ≤ (w64 ((v8.length : Int) - (1 : Int))) ∧ (w64 ((v8.length : Int) - (1 : Int))) ≤ (v8.length : Int)) (q2 (dropTake 0 (w64 ((v8.length : Int) - (1 : Int))).toNat v8))) else stringstrimRightByteJ1 v8)
def stringstrimRightByteL2 (a1 : BitVec 8) : Nat → (List (BitVec 8)) → Option (List (BitVec 8))
  | 0, _ => none
  | k + 1, v8 =>
  (if (decide ((0 : Int) < (v8.length : Int))) then (asq (0 ≤ (w64 ((v8.length : Int) - (1 : Int))) ∧ (w64 ((v8.length : Int) - (1 : Int))) < (v8.length : Int)) (stringstrimRightByteJ3 (stringstrimRightByteL2 a1 k) v8 ((v8.getD (w64 ((v8.length : Int) - (1 : Int))).toNat 0#8) == a1))) else stringstrimRightByteJ3 (stringstrimRightByteL2 a1 k) v8 false)
/-- strings.trimRightByte -/
def stringstrimRightByte (a0 : List (BitVec 8)) (a1 : BitVec 8) : Option (List (BitVec 8)) :=
  stringstrimRightByteL2 a1 FUEL a0

def stringstrimLeftByteJ1 (v3 : List (BitVec 8)) : Option (List (BitVec 8)) :=
  some v3
def stringstrimLeftByteJ3 (q2 : (List (BitVec 8)) → Option (List (BitVec 8))) (v8 : List (BitVec 8)) (v11 : Bool) : Option (List (BitVec 8)) :=
  (if v11 then (asq (0 ≤ (1 : Int) ∧ (1 : Int) ≤ (v8.length : Int)) (q2 (dropTake (1 : Int).toNat v8.length v8))) else stringstrimLeftByteJ1 v8)
def stringstrimLeftByteL2 (a1 : BitVec 8) : Nat → (List (BitVec 8)) → Option (List (BitVec 8))
  | 0, _ => none
  | k + 1, v8 =>
  (if (decide ((0 : Int) < (v8.length : Int))) then (asq (0 ≤ (0 : Int) ∧ (0 : Int) < (v8.length : Int)) (stringstrimLeftByteJ3 (stringstrimLeftByteL2 a1 k) v8 ((v8.getD (0 : Int).toNat 0#8) == a1))) else stringstrimLeftByteJ3 (stringstrimLeftByteL2 a1 k) v8 false)
/-- strings.trimLeftByte -/
def stringstrimLeftByte (a0 : List (BitVec 8)) (a1 : BitVec 8) : Option (List (BitVec 8)) :=
  stringstrimLeftByteL2 a1 FUEL a0

def stringsmakeASCIISetJ1 (v3 : List (Bool)) : Option ((List (Bool)) × Bool) :=
  (asq (256 = v3.length) (asq (v3.length = 256 ∧ v3.length = 256) (asq (256 = v3.length) (some (v3, true)))))
def stringsmakeASCIISetL2 (a0 : List (BitVec 8)) : Nat → (List (Bool)) → Int → Option ((List (Bool)) × Bool)
  | 0, _, _ => none
  | k + 1, v13, v14 =>
  (if (decide (v14 < (a0.length : Int))) then (asq (0 ≤ v14 ∧ v14 < (a0.length : Int)) (if (decide ((128#8).toNat ≤ (a0.getD v14.toNat 0#8).toNat)) then (asq (256 = v13.length) (asq (v13.length = 256 ∧ v13.length = 256) (asq (256 = v13.length) (some (v13, false))))) else (asq (0 ≤ ((a0.getD v14.toNat 0#8).toNat : Int) ∧ ((a0.getD v14.toNat 0#8).toNat : Int) < (256 : Int)) (asq (((a0.getD v14.toNat 0#8).toNat : Int).toNat < v13.length) ((stringsmakeASCIISetL2 a0 k) (v13.set (((a0.getD v14.toNat 0#8).toNat : Int).toNat) true) (w64 (v14 + (1 : Int)))))))) else stringsmakeASCIISetJ1 v13)
/-- strings.makeASCIISet -/
def stringsmakeASCIISet (a0 : List (BitVec 8)) : Option ((List (Bool)) × Bool) :=
  stringsmakeASCIISetL2 a0 FUEL (List.replicate 256 false) (0 : Int)

def stringsTrimJ2 (a0 : List (BitVec 8)) (a1 : List (BitVec 8)) (v10 : Bool) : Option (List (BitVec 8)) :=
  (if v10 then (asq (0 ≤ (0 : Int) ∧ (0 : Int) < (a1.length : Int)) ((stringstrimRightByte a0 (a1.getD (0 : Int).toNat 0#8)).bind fun y16 => (asq (0 ≤ (0 : Int) ∧ (0 : Int) < (a1.length : Int)) ((stringstrimLeftByte y16 (a1.getD (0 : Int).toNat 0#8)).bind fun y19 => some y19)))) else none)
def stringsTrimJ1 (a0 : List (BitVec 8)) (a1 : List (BitVec 8)) (v4 : Bool) : Option (List (BitVec 8)) :=
  (if v4 then some a0 else (if ((a1.length : Int) == (1 : Int)) then (asq (0 ≤ (0 : Int) ∧ (0 : Int) < (a1.length : Int)) (stringsTrimJ2 a0 a1 (decide ((a1.getD (0 : Int).toNat 0#8).toNat < (128#8).toNat)))) else stringsTrimJ2 a0 a1 false))
/-- strings.Trim -/
def stringsTrim (a0 : List (BitVec 8)) (a1 : List (BitVec 8)) : Option (List (BitVec 8)) :=
  (if (a0 == ([] : List (BitVec 8))) then stringsTrimJ1 a0 a1 true else stringsTrimJ1 a0 a1 (a1 == ([] : List (BitVec 8))))

def tokenOpenPinJ1 (y5 : (List (BitVec 8)) × Int) (y17 : Int) (v20 : Bool) : Option ((List (BitVec 8)) × Int) :=
  (if v20 then some (([] : List (BitVec 8)), (2 : Int)) else (asq (0 ≤ y17 ∧ y17 ≤ (y5.1.length : Int)) (some ((dropTake 0 y17.toNat y5.1), (0 : Int)))))
/-- passkey/token.OpenPin -/
def tokenOpenPin (a0 : BitVec 64) (a1 : List (BitVec 8)) : Option ((List (BitVec 8)) × Int) :=
  ((sealOpen a0 ([] : List (BitVec 8)) a1).bind fun y5 => (if (y5.2 != (0 : Int)) then some (([] : List (BitVec 8)), y5.2) else ((stringsIndexByte y5.1 (0#8)).bind fun y17 => (if ((y5.1.length : Int) != (64 : Int)) then tokenOpenPinJ1 y5 y17 true else (if (decide (y17 < (0 : Int))) then tokenOpenPinJ1 y5 y17 true else (asq (0 ≤ y17 ∧ y17 ≤ (y5.1.length : Int)) ((stringsTrim (dropTake y17.toNat y5.1.length y5.1) ([0#8] : List (BitVec 8))).bind fun y32 => tokenOpenPinJ1 y5 y17 (!(y32 == ([] : List (BitVec 8)))))))))))


/-- passkey/token.Start -/
def tokenStart (a0 : BitVec 64) : Option (TApiToken) :=
  some (TApiToken.mk a0 false (0#64) (0 : Int) ([] : List (BitVec 8)) (0 : Int))

def tokenIssueJ1 (a0 : TApiToken) (a1 : BitVec 64) (a2 : Int) (a3 : List (BitVec 8)) (a4 : Int) (v4 : Bool) : Option (TApiToken × Int) :=
  (if v4 then some ((TApiToken.mk (0#64) false (0#64) (0 : Int) ([] : List (BitVec 8)) (0 : Int)), (9 : Int)) else (if (decide ((64 : Int) < (a3.length : Int))) then some ((TApiToken.mk (0#64) false (0#64) (0 : Int) ([] : List (BitVec 8)) (0 : Int)), (8 : Int)) else some ((TApiToken.mk a0.Secret true a1 a2 a3 a4), (0 : Int))))
/-- passkey/token.Issue -/
def tokenIssue (a0 : TApiToken) (a1 : BitVec 64) (a2 : Int) (a3 : List (BitVec 8)) (a4 : Int) : Option (TApiToken × Int) :=
  (if (decide (a2 < (1 : Int))) then tokenIssueJ1 a0 a1 a2 a3 a4 true else (if (decide ((7 : Int) < a2)) then tokenIssueJ1 a0 a1 a2 a3 a4 true else (if (decide (a4 < (0 : Int))) then tokenIssueJ1 a0 a1 a2 a3 a4 true else tokenIssueJ1 a0 a1 a2 a3 a4 (decide ((1099511627776 : Int) < a4)))))


/-- passkey/token.Authorize -/
def tokenAuthorize (a0 : BitVec 64) (a1 : BitVec 64) : Option (BitVec 64) :=
  ((digestWords ([a1] : List (BitVec 64))).bind fun y5 => ((digestMac a0 (12 : Int) y5).bind fun y7 => some y7))

def tokenVerifyJ3 (v8 : Bool) : Option (Int) :=
  (if v8 then some (29 : Int) else some (0 : Int))
def tokenVerifyJ2 (a0 : TApiToken) (a3 : List (BitVec 8)) (a4 : BitVec 64) (a5 : BitVec 64) (v3 : Bool) (v5 : Bool) : Option (Int) :=
  (if (!a0.Active) then tokenVerifyJ3 true else (if (!v3) then tokenVerifyJ3 true else (if (!v5) then tokenVerifyJ3 true else (if (!(a0.RP == ([] : List (BitVec 8)))) then (if (!(a0.RP == a3)) then tokenVerifyJ3 true else ((tokenAuthorize a0.Value a4).bind fun y21 => tokenVerifyJ3 (a5 != y21))) else ((tokenAuthorize a0.Value a4).bind fun y23 => tokenVerifyJ3 (a5 != y23))))))
def tokenVerifyJ1 (a0 : TApiToken) (a2 : Int) (a3 : List (BitVec 8)) (a4 : BitVec 64) (a5 : BitVec 64) (v3 : Bool) : Option (Int) :=
  (if (decide ((1 : Int) ≤ a2)) then (if (decide (a2 ≤ (7 : Int))) then tokenVerifyJ2 a0 a3 a4 a5 v3 ((ibits .and .i64 a0.Permissions a2) == a2) else tokenVerifyJ2 a0 a3 a4 a5 v3 false) else tokenVerifyJ2 a0 a3 a4 a5 v3 false)
/-- passkey/token.Verify -/
def tokenVerify (a0 : TApiToken) (a1 : Int) (a2 : Int) (a3 : List (BitVec 8)) (a4 : BitVec 64) (a5 : BitVec 64) : Option (Int) :=
  (if (decide (a0.Since ≤ a1)) then tokenVerifyJ1 a0 a2 a3 a4 a5 (decide (((BitVec.ofInt 64 a1) - (BitVec.ofInt 64 a0.Since)).toNat ≤ (100#64).toNat)) else tokenVerifyJ1 a0 a2 a3 a4 a5 false)


/-- passkey/passkeylaw12.awake -/
def passkeylaw12awake  : Option (Bool) :=
  ((tokenSealPin (1#64) (2#64) ([49#8, 50#8, 51#8, 52#8] : List (BitVec 8))).bind fun y5 => ((tokenOpenPin (1#64) y5.1).bind fun y9 => ((tokenStart (5#64)).bind fun y13 => ((tokenIssue y13 (6#64) (2 : Int) ([] : List (BitVec 8)) (10 : Int)).bind fun y15 => ((tokenAuthorize (6#64) (7#64)).bind fun y19 => ((tokenVerify (TApiToken.mk y15.1.Secret y15.1.Active y15.1.Value y15.1.Permissions y15.1.RP y15.1.Since) (10 : Int) (2 : Int) ([97#8] : List (BitVec 8)) (7#64) y19).bind fun y21 => (if (y5.2 == (0 : Int)) then (if (y9.2 == (0 : Int)) then (if (y15.2 == (0 : Int)) then (if ((y5.1.length : Int) == (80 : Int)) then (if (y9.1 == ([49#8, 50#8, 51#8, 52#8] : List (BitVec 8))) then (if (y21 == (0 : Int)) then ((tokenStart (5#64)).bind fun y31 => ((tokenVerify y31 (10 : Int) (1 : Int) ([] : List (BitVec 8)) (7#64) (0#64)).bind fun y33 => some (y33 == (29 : Int)))) else some false) else some false) else some false) else some false) else some false) else some false)))))))

def passkeyref1WordsJ1 (v5 : List (BitVec 8)) : Option (List (BitVec 8)) :=
  some v5
def passkeyref1WordsJ3 (q2 : (List (BitVec 8)) → Int → Option (List (BitVec 8))) (v13 : Int) (v19 : List (BitVec 8)) : Option (List (BitVec 8)) :=
  q2 v19 (w64 (v13 + (1 : Int)))
def passkeyref1WordsL4 (q2 : (List (BitVec 8)) → Int → Option (List (BitVec 8))) (a0 : List (BitVec 64)) (v13 : Int) : Nat → (List (BitVec 8)) → Int → Option (List (BitVec 8))
  | 0, _, _ => none
  | k + 1, v26, v27 =>
  (if (decide ((0 : Int) ≤ v27)) then (asq (0 ≤ v13 ∧ v13 < (a0.length : Int)) (lett ((a0.getD v13.toNat 0#64) >>> (BitVec.ofInt 64 (w64 ((8 : Int) * v27))).toNat) fun v37 => (asq (((v26 ++ ([(v37.setWidth 8)] : List (BitVec 8)))).length ≤ 140737488355328) ((passkeyref1WordsL4 q2 a0 v13 k) (v26 ++ ([(v37.setWidth 8)] : List (BitVec 8))) (w64 (v27 - (1 : Int))))))) else passkeyref1WordsJ3 q2 v13 v26)
def passkeyref1WordsL2 (a0 : List (BitVec 64)) : Nat → (List (BitVec 8)) → Int → Option (List (BitVec 8))
  | 0, _, _ => none
  | k + 1, v12, v13 =>
  (if (decide (v13 < (a0.length : Int))) then passkeyref1WordsL4 (passkeyref1WordsL2 a0 k) a0 v13 FUEL v12 (7 : Int) else passkeyref1WordsJ1 v12)
/-- passkey/passkeyref1.Words -/
def passkeyref1Words (a0 : List (BitVec 64)) : Option (List (BitVec 8)) :=
  passkeyref1WordsL2 a0 FUEL ([] : List (BitVec 8)) (0 : Int)


/-- passkey/passkeyref1.rotl -/
def passkeyref1rotl (a0 : BitVec 64) (a1 : BitVec 64) : Option (BitVec 64) :=
  some ((a0 <<< a1.toNat) ||| (a0 >>> ((64#64) - a1).toNat))


/-- passkey/passkeyref1.round -/
def passkeyref1round (a0 : TA4BitVec64) : Option (TA4BitVec64) :=
  ((passkeyref1rotl a0.c1 (13#64)).bind fun y7 => ((passkeyref1rotl (a0.c0 + a0.c1) (32#64)).bind fun y11 => ((passkeyref1rotl a0.c3 (16#64)).bind fun y17 => ((passkeyref1rotl (y17 ^^^ (a0.c2 + a0.c3)) (21#64)).bind fun y23 => ((passkeyref1rotl (y7 ^^^ (a0.c0 + a0.c1)) (17#64)).bind fun y29 => ((passkeyref1rotl ((a0.c2 + a0.c3) + (y7 ^^^ (a0.c0 + a0.c1))) (32#64)).bind fun y33 => some (TA4BitVec64.mk (y11 + (y17 ^^^ (a0.c2 + a0.c3))) (y29 ^^^ ((a0.c2 + a0.c3) + (y7 ^^^ (a0.c0 + a0.c1)))) y33 (y23 ^^^ (y11 + (y17 ^^^ (a0.c2 + a0.c3)))))))))))

def passkeyref1SumJ1 (v5 : BitVec 64) (v6 : BitVec 64) (v7 : BitVec 64) (v8 : BitVec 64) : Option (BitVec 64) :=
  ((passkeyref1round (TA4BitVec64.mk v5 v6 (v7 ^^^ (255#64)) v8)).bind fun y14 => ((passkeyref1round y14).bind fun y16 => ((passkeyref1round y16).bind fun y18 => ((passkeyref1round y18).bind fun y20 => some (((y20.c0 ^^^ y20.c1) ^^^ y20.c2) ^^^ y20.c3)))))
def passkeyref1SumJ3 (q2 : (BitVec 64) → (BitVec 64) → (BitVec 64) → (BitVec 64) → Int → Option (BitVec 64)) (v31 : Int) (v37 : BitVec 64) (v38 : BitVec 64) (v39 : BitVec 64) (v40 : BitVec 64) : Option (BitVec 64) :=
  q2 v37 v38 v39 v40 (w64 (v31 + (8 : Int)))
def passkeyref1SumJ4 (q2 : (BitVec 64) → (BitVec 64) → (BitVec 64) → (BitVec 64) → Int → Option (BitVec 64)) (v27 : BitVec 64) (v28 : BitVec 64) (v29 : BitVec 64) (v30 : BitVec 64) (v31 : Int) (v46 : BitVec 64) : Option (BitVec 64) :=
  ((passkeyref1round (TA4BitVec64.mk v27 v28 v29 (v30 ^^^ v46))).bind fun y52 => ((passkeyref1round y52).bind fun y54 => passkeyref1SumJ3 q2 v31 (y54.c0 ^^^ v46) y54.c1 y54.c2 y54.c3))
def passkeyref1SumJ6 (q5 : (BitVec 64) → Int → Option (BitVec 64)) (v60 : BitVec 64) (v61 : Int) (v71 : BitVec 8) : Option (BitVec 64) :=
  q5 ((v60 <<< 8) ||| (v71.setWidth 64)) (w64 (v61 - (1 : Int)))
def passkeyref1SumL5 (q2 : (BitVec 64) → (BitVec 64) → (BitVec 64) → (BitVec 64) → Int → Option (BitVec 64)) (a2 : List (BitVec 8)) (v27 : BitVec 64) (v28 : BitVec 64) (v29 : BitVec 64) (v30 : BitVec 64) (v31 : Int) : Nat → (BitVec 64) → Int → Option (BitVec 64)
  | 0, _, _ => none
  | k + 1, v60, v61 =>
  (if (decide ((0 : Int) ≤ v61)) then (if (decide ((w64 (v31 + v61)) < (a2.length : Int))) then (asq (0 ≤ (w64 (v31 + v61)) ∧ (w64 (v31 + v61)) < (a2.length : Int)) (passkeyref1SumJ6 (passkeyref1SumL5 q2 a2 v27 v28 v29 v30 v31 k) v60 v61 (a2.getD (w64 (v31 + v61)).toNat 0#8))) else (if (v61 == (7 : Int)) then passkeyref1SumJ6 (passkeyref1SumL5 q2 a2 v27 v28 v29 v30 v31 k) v60 v61 (BitVec.ofInt 8 (a2.length : Int)) else passkeyref1SumJ6 (passkeyref1SumL5 q2 a2 v27 v28 v29 v30 v31 k) v60 v61 (0#8))) else passkeyref1SumJ4 q2 v27 v28 v29 v30 v31 v60)
def passkeyref1SumL2 (a2 : List (BitVec 8)) : Nat → (BitVec 64) → (BitVec 64) → (BitVec 64) → (BitVec 64) → Int → Option (BitVec 64)
  | 0, _, _, _, _, _ => none
  | k + 1, v27, v28, v29, v30, v31 =>
  (if (decide (v31 ≤ (a2.length : Int))) then passkeyref1SumL5 (passkeyref1SumL2 a2 k) a2 v27 v28 v29 v30 v31 FUEL (0#64) (7 : Int) else passkeyref1SumJ1 v27 v28 v29 v30)
/-- passkey/passkeyref1.Sum -/
def passkeyref1Sum (a0 : BitVec 64) (a1 : BitVec 64) (a2 : List (BitVec 8)) : Option (BitVec 64) :=
  passkeyref1SumL2 a2 FUEL (a0 ^^^ (8317987319222330741#64)) (a1 ^^^ (7237128888997146477#64)) (a0 ^^^ (7816392313619706465#64)) (a1 ^^^ (8387220255154660723#64)) (0 : Int)


/-- passkey/passkeyref1.Mac -/
def passkeyref1Mac (a0 : BitVec 64) (a1 : Int) (a2 : List (BitVec 8)) : Option (BitVec 64) :=
  ((passkeyref1Sum a0 ((1#64) + (BitVec.ofInt 64 a1)) a2).bind fun y5 => some y5)

def passkeyref3StreamJ1 (v5 : Int) (v9 : List (BitVec 8)) : Option (List (BitVec 8)) :=
  (asq (0 ≤ v5 ∧ v5 ≤ (v9.length : Int)) (some ((v9.drop (0 + 0)).take (v5.toNat - 0))))
def passkeyref3StreamL2 (a0 : BitVec 64) (a1 : BitVec 64) (v5 : Int) : Nat → (List (BitVec 8)) → Int → Option (List (BitVec 8))
  | 0, _, _ => none
  | k + 1, v17, v18 =>
  (if (decide ((v17.length : Int) < v5)) then ((passkeyref1Words ([a1, (BitVec.ofInt 64 v18)] : List (BitVec 64))).bind fun y27 => ((passkeyref1Mac a0 (5 : Int) y27).bind fun y29 => ((passkeyref1Words ([y29] : List (BitVec 64))).bind fun y31 => (asq (((v17 ++ y31)).length ≤ 140737488355328) ((passkeyref3StreamL2 a0 a1 v5 k) (v17 ++ y31) (w64 (v18 + (1 : Int)))))))) else passkeyref3StreamJ1 v5 v17)
/-- passkey/passkeyref3.Stream -/
def passkeyref3Stream (a0 : BitVec 64) (a1 : BitVec 64) (a2 : Int) : Option (List (BitVec 8)) :=
  (lett (if (1024 : Int) < (if (0 : Int) > a2 then (0 : Int) else a2) then (1024 : Int) else (if (0 : Int) > a2 then (0 : Int) else a2)) fun v5 => passkeyref3StreamL2 a0 a1 v5 FUEL ([] : List (BitVec 8)) (0 : Int))

def passkeyref3mixJ1 (v9 : List (BitVec 8)) : Option (List (BitVec 8)) :=
  some v9
def passkeyref3mixL2 (a2 : List (BitVec 8)) (y5 : List (BitVec 8)) : Nat → (List (BitVec 8)) → Int → Option (List (BitVec 8))
  | 0, _, _ => none
  | k + 1, v16, v17 =>
  (if (decide (v17 < (a2.length : Int))) then (asq (0 ≤ v17 ∧ v17 < (a2.length : Int)) (asq (0 ≤ v17 ∧ v17 < (y5.length : Int)) (asq (((v16 ++ ([((a2.getD v17.toNat 0#8) ^^^ (y5.getD v17.toNat 0#8))] : List (BitVec 8)))).length ≤ 140737488355328) ((passkeyref3mixL2 a2 y5 k) (v16 ++ ([((a2.getD v17.toNat 0#8) ^^^ (y5.getD v17.toNat 0#8))] : List (BitVec 8))) (w64 (v17 + (1 : Int))))))) else passkeyref3mixJ1 v16)
/-- passkey/passkeyref3.mix -/
def passkeyref3mix (a0 : BitVec 64) (a1 : BitVec 64) (a2 : List (BitVec 8)) : Option (List (BitVec 8)) :=
  ((passkeyref3Stream a0 a1 (a2.length : Int)).bind fun y5 => passkeyref3mixL2 a2 y5 FUEL ([] : List (BitVec 8)) (0 : Int))


/-- passkey/passkeyref3.tag -/
def passkeyref3tag (a0 : BitVec 64) (a1 : BitVec 64) (a2 : List (BitVec 8)) (a3 : List (BitVec 8)) : Option (BitVec 64) :=
  ((passkeyref1Words ([a1, (BitVec.ofInt 64 (a2.length : Int))] : List (BitVec 64))).bind fun y5 => (asq (((y5 ++ a2)).length ≤ 140737488355328) (asq ((((y5 ++ a2) ++ a3)).length ≤ 140737488355328) ((passkeyref1Mac a0 (6 : Int) ((y5 ++ a2) ++ a3)).bind fun y11 => some y11))))

def passkeyref3SealJ1 (a0 : BitVec 64) (a1 : BitVec 64) (a2 : List (BitVec 8)) (a3 : List (BitVec 8)) (v4 : Bool) : Option ((List (BitVec 8)) × Int) :=
  (if v4 then some ([], (8 : Int)) else ((passkeyref3mix a0 a1 a3).bind fun y11 => ((passkeyref1Words ([a1] : List (BitVec 64))).bind fun y15 => (asq (((y15 ++ y11)).length ≤ 140737488355328) ((passkeyref3tag a0 a1 a2 y11).bind fun y20 => ((passkeyref1Words ([y20] : List (BitVec 64))).bind fun y22 => (asq ((((y15 ++ y11) ++ y22)).length ≤ 140737488355328) (some (((y15 ++ y11) ++ y22), (0 : Int))))))))))
/-- passkey/passkeyref3.Seal -/
def passkeyref3Seal (a0 : BitVec 64) (a1 : BitVec 64) (a2 : List (BitVec 8)) (a3 : List (BitVec 8)) : Option ((List (BitVec 8)) × Int) :=
  (if (decide ((1024 : Int) < (a3.length : Int))) then passkeyref3SealJ1 a0 a1 a2 a3 true else passkeyref3SealJ1 a0 a1 a2 a3 (decide ((1024 : Int) < (a2.length : Int))))


/-- passkey/passkeyref10.SealPin -/
def passkeyref10SealPin (a0 : BitVec 64) (a1 : BitVec 64) (a2 : List (BitVec 8)) : Option ((List (BitVec 8)) × Int) :=
  (if (decide ((63 : Int) < (a2.length : Int))) then some ([], (8 : Int)) else (asq (0 ≤ (64 : Int) ∧ (64 : Int) ≤ (64 : Int) ∧ (64 : Int) ≤ (281474976710656 : Int)) ((passkeyref3Seal a0 a1 ([] : List (BitVec 8)) (putL (List.replicate (64 : Int).toNat 0#8) 0 (a2.take (min a2.length (((List.replicate (64 : Int).toNat 0#8)).length))))).bind fun y16 => some (y16.1, y16.2))))

def passkeyref1WordJ1 (v5 : BitVec 64) : Option (BitVec 64) :=
  some v5
def passkeyref1WordJ3 (q2 : (BitVec 64) → Int → Option (BitVec 64)) (a0 : List (BitVec 8)) (v12 : BitVec 64) (v13 : Int) (v16 : Bool) : Option (BitVec 64) :=
  (if v16 then (asq (0 ≤ v13 ∧ v13 < (a0.length : Int)) (q2 ((v12 <<< 8) ||| ((a0.getD v13.toNat 0#8).setWidth 64)) (w64 (v13 + (1 : Int))))) else passkeyref1WordJ1 v12)
def passkeyref1WordL2 (a0 : List (BitVec 8)) : Nat → (BitVec 64) → Int → Option (BitVec 64)
  | 0, _, _ => none
  | k + 1, v12, v13 =>
  (if (decide (v13 < (8 : Int))) then passkeyref1WordJ3 (passkeyref1WordL2 a0 k) a0 v12 v13 (decide (v13 < (a0.length : Int))) else passkeyref1WordJ3 (passkeyref1WordL2 a0 k) a0 v12 v13 false)
/-- passkey/passkeyref1.Word -/
def passkeyref1Word (a0 : List (BitVec 8)) : Option (BitVec 64) :=
  passkeyref1WordL2 a0 FUEL (0#64) (0 : Int)

def passkeyref3OpenJ1 (a0 : BitVec 64) (a1 : List (BitVec 8)) (a2 : List (BitVec 8)) (v10 : Bool) : Option ((List (BitVec 8)) × Int) :=
  (if v10 then some ([], (8 : Int)) else (asq (0 ≤ (8 : Int) ∧ (8 : Int) ≤ (a2.length : Int)) ((passkeyref1Word (dropTake 0 (8 : Int).toNat a2)).bind fun y18 => (asq (0 ≤ (8 : Int) ∧ (8 : Int) ≤ (w64 ((a2.length : Int) - (8 : Int))) ∧ (w64 ((a2.length : Int) - (8 : Int))) ≤ (a2.length : Int)) (lett (dropTake (8 : Int).toNat (w64 ((a2.length : Int) - (8 : Int))).toNat a2) fun v21 => (asq (0 ≤ (w64 ((a2.length : Int) - (8 : Int))) ∧ (w64 ((a2.length : Int) - (8 : Int))) ≤ (a2.length : Int)) (lett (dropTake (w64 ((a2.length : Int) - (8 : Int))).toNat a2.length a2) fun v27 => ((passkeyref1Word v27).bind fun y29 => ((passkeyref3tag a0 y18 a1 v21).bind fun y31 => (if (y29 != y31) then some ([], (14 : Int)) else ((passkeyref3mix a0 y18 v21).bind fun y38 => some (y38, (0 : Int)))))))))))))
/-- passkey/passkeyref3.Open -/
def passkeyref3Open (a0 : BitVec 64) (a1 : List (BitVec 8)) (a2 : List (BitVec 8)) : Option ((List (BitVec 8)) × Int) :=
  (if (decide ((a2.length : Int) < (16 : Int))) then some ([], (1 : Int)) else (if (decide ((1040 : Int) < (a2.length : Int))) then passkeyref3OpenJ1 a0 a1 a2 true else passkeyref3OpenJ1 a0 a1 a2 (decide ((1024 : Int) < (a1.length : Int)))))

def passkeyref10OpenPinJ3 (y5 : (List (BitVec 8)) × Int) (v15 : Int) : Option ((List (BitVec 8)) × Int) :=
  (asq (0 ≤ v15 ∧ v15 ≤ (y5.1.length : Int)) (some (((y5.1.drop (0 + 0)).take (v15.toNat - 0)), (0 : Int))))
def passkeyref10OpenPinL4 (y5 : (List (BitVec 8)) × Int) (v15 : Int) : Nat → Int → Option ((List (BitVec 8)) × Int)
  | 0, _ => none
  | k + 1, v30 =>
  (if (decide (v30 < (y5.1.length : Int))) then (asq (0 ≤ v30 ∧ v30 < (y5.1.length : Int)) (if ((y5.1.getD (0 + v30.toNat) 0#8) != (0#8)) then some (([] : List (BitVec 8)), (2 : Int)) else (passkeyref10OpenPinL4 y5 v15 k) (w64 (v30 + (1 : Int))))) else passkeyref10OpenPinJ3 y5 v15)
def passkeyref10OpenPinJ2 (y5 : (List (BitVec 8)) × Int) (v15 : Int) (v18 : Bool) : Option ((List (BitVec 8)) × Int) :=
  (if v18 then some (([] : List (BitVec 8)), (2 : Int)) else passkeyref10OpenPinL4 y5 v15 FUEL v15)
def passkeyref10OpenPinJ1 (y5 : (List (BitVec 8)) × Int) (v15 : Int) : Option ((List (BitVec 8)) × Int) :=
  (if ((y5.1.length : Int) != (64 : Int)) then passkeyref10OpenPinJ2 y5 v15 true else passkeyref10OpenPinJ2 y5 v15 (v15 == (y5.1.length : Int)))
def passkeyref10OpenPinJ6 (q5 : Int → Option ((List (BitVec 8)) × Int)) (y5 : (List (BitVec 8)) × Int) (v48 : Int) (v51 : Bool) : Option ((List (BitVec 8)) × Int) :=
  (if v51 then q5 (w64 (v48 + (1 : Int))) else passkeyref10OpenPinJ1 y5 v48)
def passkeyref10OpenPinL5 (y5 : (List (BitVec 8)) × Int) : Nat → Int → Option ((List (BitVec 8)) × Int)
  | 0, _ => none
  | k + 1, v48 =>
  (if (decide (v48 < (y5.1.length : Int))) then (asq (0 ≤ v48 ∧ v48 < (y5.1.length : Int)) (passkeyref10OpenPinJ6 (passkeyref10OpenPinL5 y5 k) y5 v48 ((y5.1.getD (0 + v48.toNat) 0#8) != (0#8)))) else passkeyref10OpenPinJ6 (passkeyref10OpenPinL5 y5 k) y5 v48 false)
/-- passkey/passkeyref10.OpenPin -/
def passkeyref10OpenPin (a0 : BitVec 64) (a1 : List (BitVec 8)) : Option ((List (BitVec 8)) × Int) :=
  ((passkeyref3Open a0 ([] : List (BitVec 8)) a1).bind fun y5 => (if (y5.2 != (0 : Int)) then some (([] : List (BitVec 8)), y5.2) else passkeyref10OpenPinL5 y5 FUEL (0 : Int)))


/-- passkey/passkeylaw12.pins -/
def passkeylaw12pins (a0 : BitVec 64) (a1 : List (BitVec 8)) : Option (Bool) :=
  ((tokenOpenPin a0 a1).bind fun y5 => ((passkeyref10OpenPin a0 a1).bind fun y9 => (if (y5.1 == y9.1) then some (y5.2 == y9.2) else some false)))

def passkeylaw12TokenPinsJ3 (a0 : BitVec 64) (a1 : BitVec 64) (a3 : List (BitVec 8)) (y13 : (List (BitVec 8)) × Int) (y17 : (List (BitVec 8)) × Int) (v24 : List (BitVec 8)) : Option (Bool) :=
  ((passkeyref3Seal a0 a1 ([] : List (BitVec 8)) v24).bind fun y28 => (if (y13.2 == y17.2) then (if (y13.1 == y17.1) then ((passkeylaw12pins a0 a3).bind fun y34 => (if y34 then ((passkeylaw12pins a0 y13.1).bind fun y37 => (if y37 then ((passkeylaw12pins a0 y28.1).bind fun y40 => (if y40 then ((passkeylaw12pins (a0 + (1#64)) y13.1).bind fun y43 => (if y43 then ((passkeylaw12awake ).bind fun y46 => some y46) else some false)) else some false)) else some false)) else some false)) else some false) else some false))
def passkeylaw12TokenPinsJ2 (a0 : BitVec 64) (a1 : BitVec 64) (a3 : List (BitVec 8)) (a4 : Int) (y13 : (List (BitVec 8)) × Int) (y17 : (List (BitVec 8)) × Int) (v22 : List (BitVec 8)) : Option (Bool) :=
  (if ((ibits .and .i64 (ishr .i64 a4 (8 : Int)) (3 : Int)) == (0 : Int)) then (asq ((v22.length : Int) ≠ 0) (lett ((ibits .and .i64 (ishr .i64 a4 (10 : Int)) (63 : Int)).tmod (v22.length : Int)) fun v53 => (asq (0 ≤ v53 ∧ v53 < (v22.length : Int)) (passkeylaw12TokenPinsJ3 a0 a1 a3 y13 y17 (v22.set (0 + v53.toNat) (121#8)))))) else passkeylaw12TokenPinsJ3 a0 a1 a3 y13 y17 v22)
def passkeylaw12TokenPinsL4 (a0 : BitVec 64) (a1 : BitVec 64) (a3 : List (BitVec 8)) (a4 : Int) (y13 : (List (BitVec 8)) × Int) (y17 : (List (BitVec 8)) × Int) : Nat → (List (BitVec 8)) → Int → Option (Bool)
  | 0, _, _ => none
  | k + 1, v59, v60 =>
  (if (decide (v60 < (ibits .and .i64 (ishr .i64 a4 (2 : Int)) (63 : Int)))) then (asq (0 ≤ v60 ∧ v60 < (v59.length : Int)) ((passkeylaw12TokenPinsL4 a0 a1 a3 a4 y13 y17 k) (v59.set (0 + v60.toNat) (120#8)) (w64 (v60 + (1 : Int))))) else passkeylaw12TokenPinsJ2 a0 a1 a3 a4 y13 y17 v59)
def passkeylaw12TokenPinsJ1 (a0 : BitVec 64) (a1 : BitVec 64) (a2 : List (BitVec 8)) (a3 : List (BitVec 8)) (a4 : Int) (v4 : Bool) : Option (Bool) :=
  (if v4 then ((passkeylaw12awake ).bind fun y9 => some y9) else ((tokenSealPin a0 a1 a2).bind fun y13 => ((passkeyref10SealPin a0 a1 a2).bind fun y17 => (asq (0 ≤ (w64 ((63 : Int) + (ibits .and .i64 a4 (3 : Int)))) ∧ (w64 ((63 : Int) + (ibits .and .i64 a4 (3 : Int)))) ≤ (w64 ((63 : Int) + (ibits .and .i64 a4 (3 : Int)))) ∧ (w64 ((63 : Int) + (ibits .and .i64 a4 (3 : Int)))) ≤ (281474976710656 : Int)) (passkeylaw12TokenPinsL4 a0 a1 a3 a4 y13 y17 FUEL (List.replicate (w64 ((63 : Int) + (ibits .and .i64 a4 (3 : Int)))).toNat 0#8) (0 : Int))))))
/-- passkey/passkeylaw12.TokenPins -/
def passkeylaw12TokenPins (a0 : BitVec 64) (a1 : BitVec 64) (a2 : List (BitVec 8)) (a3 : List (BitVec 8)) (a4 : Int) : Option (Bool) :=
  (if (decide ((300 : Int) < (a2.length : Int))) then passkeylaw12TokenPinsJ1 a0 a1 a2 a3 a4 true else passkeylaw12TokenPinsJ1 a0 a1 a2 a3 a4 (decide ((300 : Int) < (a3.length : Int))))


/-- passkey/passkeylaw12.made -/
def passkeylaw12made (a0 : Int) : Option (TApiToken) :=
  (lett (BitVec.ofInt 64 (ibits .and .i64 (ishr .i64 a0 (3 : Int)) (3 : Int))) fun v5 => (lett ((ibits .and .i64 (ishr .i64 a0 (8 : Int)) (3 : Int)).tmod (3 : Int)) fun v7 => (asq (0 ≤ v7 ∧ v7 < ((([([] : List (BitVec 8)), ([97#8, 46#8, 101#8, 120#8, 97#8, 109#8, 112#8, 108#8, 101#8] : List (BitVec 8)), ([98#8, 46#8, 101#8, 120#8, 97#8, 109#8, 112#8, 108#8, 101#8] : List (BitVec 8))] : List (List (BitVec 8)))).length : Int)) (some (TApiToken.mk (3#64) (decide ((0 : Int) < (ibits .and .i64 a0 (7 : Int)))) v5 (ibits .and .i64 (ishr .i64 a0 (5 : Int)) (7 : Int)) (([([] : List (BitVec 8)), ([97#8, 46#8, 101#8, 120#8, 97#8, 109#8, 112#8, 108#8, 101#8] : List (BitVec 8)), ([98#8, 46#8, 101#8, 120#8, 97#8, 109#8, 112#8, 108#8, 101#8] : List (BitVec 8))] : List (List (BitVec 8))).getD (0 + v7.toNat) ([] : List (BitVec 8))) (ibits .and .i64 (ishr .i64 a0 (10 : Int)) (4095 : Int)))))))

def passkeyref10IssueJ1 (a0 : TApiToken) (a1 : BitVec 64) (a2 : Int) (a3 : List (BitVec 8)) (a4 : Int) (v4 : Bool) : Option (TApiToken × Int) :=
  (if v4 then some ((TApiToken.mk (0#64) false (0#64) (0 : Int) ([] : List (BitVec 8)) (0 : Int)), (9 : Int)) else (if (decide ((64 : Int) < (a3.length : Int))) then some ((TApiToken.mk (0#64) false (0#64) (0 : Int) ([] : List (BitVec 8)) (0 : Int)), (8 : Int)) else some ((TApiToken.mk a0.Secret true a1 a2 a3 a4), (0 : Int))))
/-- passkey/passkeyref10.Issue -/
def passkeyref10Issue (a0 : TApiToken) (a1 : BitVec 64) (a2 : Int) (a3 : List (BitVec 8)) (a4 : Int) : Option (TApiToken × Int) :=
  (if (decide (a2 < (1 : Int))) then passkeyref10IssueJ1 a0 a1 a2 a3 a4 true else (if (decide ((7 : Int) < a2)) then passkeyref10IssueJ1 a0 a1 a2 a3 a4 true else (if (decide (a4 < (0 : Int))) then passkeyref10IssueJ1 a0 a1 a2 a3 a4 true else passkeyref10IssueJ1 a0 a1 a2 a3 a4 (decide ((1099511627776 : Int) < a4)))))


/-- passkey/passkeyref10.StartToken -/
def passkeyref10StartToken (a0 : BitVec 64) : Option (TApiToken) :=
  some (TApiToken.mk a0 false (0#64) (0 : Int) ([] : List (BitVec 8)) (0 : Int))


/-- passkey/passkeylaw12.TokenIssues -/
def passkeylaw12TokenIssues (a0 : Int) (a1 : BitVec 64) (a2 : Int) (a3 : List (BitVec 8)) (a4 : Int) : Option (Bool) :=
  (if (decide ((100 : Int) < (a3.length : Int))) then ((passkeylaw12awake ).bind fun y9 => some y9) else ((passkeylaw12made a0).bind fun y13 => ((tokenIssue (TApiToken.mk y13.Secret y13.Active y13.Value y13.Permissions y13.RP y13.Since) a1 a2 a3 a4).bind fun y17 => ((passkeyref10Issue (TApiToken.mk y13.Secret y13.Active y13.Value y13.Permissions y13.RP y13.Since) a1 a2 a3 a4).bind fun y21 => ((tokenIssue (TApiToken.mk y13.Secret y13.Active y13.Value y13.Permissions y13.RP y13.Since) a1 (w64 ((ibits .and .i64 a2 (15 : Int)) - (2 : Int))) a3 (ibits .and .i64 a4 (65535 : Int))).bind fun y25 => ((passkeyref10Issue (TApiToken.mk y13.Secret y13.Active y13.Value y13.Permissions y13.RP y13.Since) a1 (w64 ((ibits .and .i64 a2 (15 : Int)) - (2 : Int))) a3 (ibits .and .i64 a4 (65535 : Int))).bind fun y29 => (if ((y17.1.Secret == y21.1.Secret) && ((y17.1.Active == y21.1.Active) && ((y17.1.Value == y21.1.Value) && ((y17.1.Permissions == y21.1.Permissions) && ((y17.1.RP == y21.1.RP) && ((y17.1.Since == y21.1.Since) && true)))))) then (if (y17.2 == y21.2) then (if ((y25.1.Secret == y29.1.Secret) && ((y25.1.Active == y29.1.Active) && ((y25.1.Value == y29.1.Value) && ((y25.1.Permissions == y29.1.Permissions) && ((y25.1.RP == y29.1.RP) && ((y25.1.Since == y29.1.Since) && true)))))) then (if (y25.2 == y29.2) then ((tokenStart a1).bind fun y37 => ((passkeyref10StartToken a1).bind fun y39 => (if ((y37.Secret == y39.Secret) && ((y37.Active == y39.Active) && ((y37.Value == y39.Value) && ((y37.Permissions == y39.Permissions) && ((y37.RP == y39.RP) && ((y37.Since == y39.Since) && true)))))) then ((passkeylaw12awake ).bind fun y42 => some y42) else some false))) else some false) else some false) else some false) else some false)))))))


/-- passkey/passkeyref10.Authorize -/
def passkeyref10Authorize (a0 : BitVec 64) (a1 : BitVec 64) : Option (BitVec 64) :=
  ((passkeyref1Words ([a1] : List (BitVec 64))).bind fun y5 => ((passkeyref1Mac a0 (12 : Int) y5).bind fun y7 => some y7))

def passkeyref10VerifyTokenJ2 (v6 : Bool) : Option (Int) :=
  (if v6 then some (29 : Int) else some (0 : Int))
def passkeyref10VerifyTokenJ1 (a0 : TApiToken) (a1 : Int) (a2 : Int) (a3 : List (BitVec 8)) (a4 : BitVec 64) (a5 : BitVec 64) (v3 : Bool) : Option (Int) :=
  (if (!a0.Active) then passkeyref10VerifyTokenJ2 true else (if (decide (a1 < a0.Since)) then passkeyref10VerifyTokenJ2 true else (if v3 then passkeyref10VerifyTokenJ2 true else (if (decide (a2 < (1 : Int))) then passkeyref10VerifyTokenJ2 true else (if (decide ((7 : Int) < a2)) then passkeyref10VerifyTokenJ2 true else (if ((ibits .and .i64 a0.Permissions a2) != a2) then passkeyref10VerifyTokenJ2 true else (if (!(a0.RP == ([] : List (BitVec 8)))) then (if (!(a0.RP == a3)) then passkeyref10VerifyTokenJ2 true else ((passkeyref10Authorize a0.Value a4).bind fun y22 => passkeyref10VerifyTokenJ2 (a5 != y22))) else ((passkeyref10Authorize a0.Value a4).bind fun y24 => passkeyref10VerifyTokenJ2 (a5 != y24)))))))))
/-- passkey/passkeyref10.VerifyToken -/
def passkeyref10VerifyToken (a0 : TApiToken) (a1 : Int) (a2 : Int) (a3 : List (BitVec 8)) (a4 : BitVec 64) (a5 : BitVec 64) : Option (Int) :=
  (if (decide (a0.Since ≤ a1)) then passkeyref10VerifyTokenJ1 a0 a1 a2 a3 a4 a5 (decide ((100#64).toNat < ((BitVec.ofInt 64 a1) - (BitVec.ofInt 64 a0.Since)).toNat)) else passkeyref10VerifyTokenJ1 a0 a1 a2 a3 a4 a5 false)

def passkeylaw12TokenVerifiesJ1 (a0 : TApiToken) (a1 : Int) (a2 : Int) (a3 : Int) (a4 : List (BitVec 8)) (a5 : BitVec 64) (a6 : BitVec 64) (v4 : Bool) : Option (Bool) :=
  (if v4 then ((passkeylaw12awake ).bind fun y9 => some y9) else ((passkeylaw12made a1).bind fun y13 => (lett (w64 ((w64 (y13.Since + (ibits .and .i64 a2 (255 : Int)))) - (20 : Int))) fun v17 => ((passkeyref10Authorize y13.Value a5).bind fun y21 => (lett ((ibits .and .i64 (ishr .i64 a1 (22 : Int)) (3 : Int)).tmod (3 : Int)) fun v25 => (asq (0 ≤ v25 ∧ v25 < ((([([] : List (BitVec 8)), ([97#8, 46#8, 101#8, 120#8, 97#8, 109#8, 112#8, 108#8, 101#8] : List (BitVec 8)), ([98#8, 46#8, 101#8, 120#8, 97#8, 109#8, 112#8, 108#8, 101#8] : List (BitVec 8))] : List (List (BitVec 8)))).length : Int)) ((tokenVerify (TApiToken.mk a0.Secret a0.Active a0.Value a0.Permissions a0.RP a0.Since) a2 a3 a4 a5 a6).bind fun y32 => ((passkeyref10VerifyToken (TApiToken.mk a0.Secret a0.Active a0.Value a0.Permissions a0.RP a0.Since) a2 a3 a4 a5 a6).bind fun y34 => (if (y32 == y34) then ((tokenAuthorize a0.Value a5).bind fun y37 => ((tokenVerify (TApiToken.mk a0.Secret a0.Active a0.Value a0.Permissions a0.RP a0.Since) a2 a3 a0.RP a5 y37).bind fun y39 => ((passkeyref10Authorize a0.Value a5).bind fun y41 => ((passkeyref10VerifyToken (TApiToken.mk a0.Secret a0.Active a0.Value a0.Permissions a0.RP a0.Since) a2 a3 a0.RP a5 y41).bind fun y43 => (if (y39 == y43) then ((tokenVerify (TApiToken.mk y13.Secret y13.Active y13.Value y13.Permissions y13.RP y13.Since) v17 (ibits .and .i64 a3 (7 : Int)) (([([] : List (BitVec 8)), ([97#8, 46#8, 101#8, 120#8, 97#8, 109#8, 112#8, 108#8, 101#8] : List (BitVec 8)), ([98#8, 46#8, 101#8, 120#8, 97#8, 109#8, 112#8, 108#8, 101#8] : List (BitVec 8))] : List (List (BitVec 8))).getD (0 + v25.toNat) ([] : List (BitVec 8))) a5 y21).bind fun y46 => ((passkeyref10VerifyToken (TApiToken.mk y13.Secret y13.Active y13.Value y13.Permissions y13.RP y13.Since) v17 (ibits .and .i64 a3 (7 : Int)) (([([] : List (BitVec 8)), ([97#8, 46#8, 101#8, 120#8, 97#8, 109#8, 112#8, 108#8, 101#8] : List (BitVec 8)), ([98#8, 46#8, 101#8, 120#8, 97#8, 109#8, 112#8, 108#8, 101#8] : List (BitVec 8))] : List (List (BitVec 8))).getD (0 + v25.toNat) ([] : List (BitVec 8))) a5 y21).bind fun y48 => (if (y46 == y48) then ((tokenVerify (TApiToken.mk y13.Secret y13.Active y13.Value y13.Permissions y13.RP y13.Since) v17 (ibits .and .i64 a3 (7 : Int)) (([([] : List (BitVec 8)), ([97#8, 46#8, 101#8, 120#8, 97#8, 109#8, 112#8, 108#8, 101#8] : List (BitVec 8)), ([98#8, 46#8, 101#8, 120#8, 97#8, 109#8, 112#8, 108#8, 101#8] : List (BitVec 8))] : List (List (BitVec 8))).getD (0 + v25.toNat) ([] : List (BitVec 8))) a5 a6).bind fun y51 => ((passkeyref10VerifyToken (TApiToken.mk y13.Secret y13.Active y13.Value y13.Permissions y13.RP y13.Since) v17 (ibits .and .i64 a3 (7 : Int)) (([([] : List (BitVec 8)), ([97#8, 46#8, 101#8, 120#8, 97#8, 109#8, 112#8, 108#8, 101#8] : List (BitVec 8)), ([98#8, 46#8, 101#8, 120#8, 97#8, 109#8, 112#8, 108#8, 101#8] : List (BitVec 8))] : List (List (BitVec 8))).getD (0 + v25.toNat) ([] : List (BitVec 8))) a5 a6).bind fun y53 => (if (y51 == y53) then ((passkeylaw12awake ).bind fun y56 => some y56) else some false))) else some false))) else some false))))) else some false)))))))))
/-- passkey/passkeylaw12.TokenVerifies -/
def passkeylaw12TokenVerifies (a0 : TApiToken) (a1 : Int) (a2 : Int) (a3 : Int) (a4 : List (BitVec 8)) (a5 : BitVec 64) (a6 : BitVec 64) : Option (Bool) :=
  (if (decide ((100 : Int) < (a4.length : Int))) then passkeylaw12TokenVerifiesJ1 a0 a1 a2 a3 a4 a5 a6 true else passkeylaw12TokenVerifiesJ1 a0 a1 a2 a3 a4 a5 a6 (decide ((100 : Int) < (a0.RP.length : Int))))

def tokenUseJ1 (a0 : TApiToken) (a1 : Int) (v4 : Bool) : Option (TApiToken) :=
  (if v4 then some (TApiToken.mk a0.Secret a0.Active a0.Value a0.Permissions a0.RP a0.Since) else (if ((ibits .andNot .i64 a0.Permissions a1) == (0 : Int)) then ((tokenStart a0.Secret).bind fun y17 => some (TApiToken.mk y17.Secret y17.Active y17.Value y17.Permissions y17.RP y17.Since)) else some (TApiToken.mk a0.Secret a0.Active a0.Value (ibits .andNot .i64 a0.Permissions a1) a0.RP a0.Since)))
/-- passkey/token.Use -/
def tokenUse (a0 : TApiToken) (a1 : Int) : Option (TApiToken) :=
  (if (decide (a1 < (0 : Int))) then tokenUseJ1 a0 a1 true else tokenUseJ1 a0 a1 (decide ((7 : Int) < a1)))

def passkeylaw12TokenOnceJ1 (a0 : BitVec 64) (v21 : BitVec 64) (v22 : Bool) (v23 : BitVec 64) (v24 : Int) (v25 : List (BitVec 8)) (v26 : Int) : Option (Bool) :=
  (if (!v22) then (if (v21 == a0) then ((passkeylaw12awake ).bind fun y32 => some y32) else some false) else some false)
def passkeylaw12TokenOnceJ4 (q2 : (BitVec 64) → Bool → (BitVec 64) → Int → (List (BitVec 8)) → Int → Int → Option (Bool)) (a4 : BitVec 64) (y19 : BitVec 64) (v37 : BitVec 64) (v38 : Bool) (v39 : BitVec 64) (v40 : Int) (v41 : List (BitVec 8)) (v42 : Int) (v43 : Int) (v54 : Bool) : Option (Bool) :=
  (if v54 then some false else ((tokenUse (TApiToken.mk v37 v38 v39 v40 v41 v42) v43).bind fun y61 => ((tokenVerify (TApiToken.mk y61.Secret y61.Active y61.Value y61.Permissions y61.RP y61.Since) (1000 : Int) v43 ([97#8, 46#8, 101#8, 120#8, 97#8, 109#8, 112#8, 108#8, 101#8] : List (BitVec 8)) a4 y19).bind fun y65 => (if (y65 != (29 : Int)) then some false else q2 y61.Secret y61.Active y61.Value y61.Permissions y61.RP y61.Since (w64 ((2 : Int) * v43))))))
def passkeylaw12TokenOnceJ3 (q2 : (BitVec 64) → Bool → (BitVec 64) → Int → (List (BitVec 8)) → Int → Int → Option (Bool)) (a3 : BitVec 8) (a4 : BitVec 64) (y19 : BitVec 64) (v37 : BitVec 64) (v38 : Bool) (v39 : BitVec 64) (v40 : Int) (v41 : List (BitVec 8)) (v42 : Int) (v43 : Int) (v51 : Bool) : Option (Bool) :=
  ((tokenVerify (TApiToken.mk v37 v38 v39 v40 v41 v42) (w64 ((1000 : Int) + (a3.toNat : Int))) v43 ([97#8, 46#8, 101#8, 120#8, 97#8, 109#8, 112#8, 108#8, 101#8] : List (BitVec 8)) a4 y19).bind fun y72 => (if (!((y72 == (0 : Int)) == v51)) then passkeylaw12TokenOnceJ4 q2 a4 y19 v37 v38 v39 v40 v41 v42 v43 true else ((tokenVerify (TApiToken.mk v37 v38 v39 v40 v41 v42) (1000 : Int) v43 ([98#8, 46#8, 101#8, 120#8, 97#8, 109#8, 112#8, 108#8, 101#8] : List (BitVec 8)) a4 y19).bind fun y75 => (if (y75 != (29 : Int)) then passkeylaw12TokenOnceJ4 q2 a4 y19 v37 v38 v39 v40 v41 v42 v43 true else ((tokenVerify (TApiToken.mk v37 v38 v39 v40 v41 v42) (999 : Int) v43 ([97#8, 46#8, 101#8, 120#8, 97#8, 109#8, 112#8, 108#8, 101#8] : List (BitVec 8)) a4 y19).bind fun y78 => passkeylaw12TokenOnceJ4 q2 a4 y19 v37 v38 v39 v40 v41 v42 v43 (y78 != (29 : Int)))))))
def passkeylaw12TokenOnceL2 (a0 : BitVec 64) (a2 : BitVec 8) (a3 : BitVec 8) (a4 : BitVec 64) (y19 : BitVec 64) : Nat → (BitVec 64) → Bool → (BitVec 64) → Int → (List (BitVec 8)) → Int → Int → Option (Bool)
  | 0, _, _, _, _, _, _, _ => none
  | k + 1, v37, v38, v39, v40, v41, v42, v43 =>
  (if (decide (v43 < (8 : Int))) then (lett (ibits .and .i64 (w64 ((1 : Int) + ((a2 % (7#8)).toNat : Int))) v43) fun v81 => (if (v81 != (0 : Int)) then passkeylaw12TokenOnceJ3 (passkeylaw12TokenOnceL2 a0 a2 a3 a4 y19 k) a3 a4 y19 v37 v38 v39 v40 v41 v42 v43 (decide (a3.toNat ≤ (100#8).toNat)) else passkeylaw12TokenOnceJ3 (passkeylaw12TokenOnceL2 a0 a2 a3 a4 y19 k) a3 a4 y19 v37 v38 v39 v40 v41 v42 v43 false)) else passkeylaw12TokenOnceJ1 a0 v37 v38 v39 v40 v41 v42)
/-- passkey/passkeylaw12.TokenOnce -/
def passkeylaw12TokenOnce (a0 : BitVec 64) (a1 : BitVec 64) (a2 : BitVec 8) (a3 : BitVec 8) (a4 : BitVec 64) : Option (Bool) :=
  ((tokenStart a0).bind fun y7 => ((tokenIssue y7 a1 (w64 ((1 : Int) + ((a2 % (7#8)).toNat : Int))) ([97#8, 46#8, 101#8, 120#8, 97#8, 109#8, 112#8, 108#8, 101#8] : List (BitVec 8)) (1000 : Int)).bind fun y9 => (if (y9.2 != (0 : Int)) then some false else ((tokenAuthorize a1 a4).bind fun y19 => passkeylaw12TokenOnceL2 a0 a2 a3 a4 y19 FUEL y9.1.Secret y9.1.Active y9.1.Value y9.1.Permissions y9.1.RP y9.1.Since (1 : Int)))))


/-- passkey/token.SealWord -/
def tokenSealWord (a0 : BitVec 64) (a1 : BitVec 64) (a2 : BitVec 64) : Option (List (BitVec 8)) :=
  ((digestWords ([a2] : List (BitVec 64))).bind fun y5 => ((sealSeal a0 a1 ([] : List (BitVec 8)) y5).bind fun y7 => some y7.1))

def tokenOpenWordJ1 (v21 : BitVec 64) : Option ((BitVec 64) × Int) :=
  some (v21, (0 : Int))
def tokenOpenWordL2 (y5 : (List (BitVec 8)) × Int) : Nat → (BitVec 64) → Int → Option ((BitVec 64) × Int)
  | 0, _, _ => none
  | k + 1, v28, v29 =>
  (if (decide (v29 < (y5.1.length : Int))) then (asq (0 ≤ v29 ∧ v29 < (y5.1.length : Int)) (lett ((v28 <<< 8) ||| ((y5.1.getD (0 + v29.toNat) 0#8).setWidth 64)) fun v41 => (tokenOpenWordL2 y5 k) v41 (w64 (v29 + (1 : Int))))) else tokenOpenWordJ1 v28)
/-- passkey/token.OpenWord -/
def tokenOpenWord (a0 : BitVec 64) (a1 : List (BitVec 8)) : Option ((BitVec 64) × Int) :=
  ((sealOpen a0 ([] : List (BitVec 8)) a1).bind fun y5 => (if (y5.2 != (0 : Int)) then some ((0#64), y5.2) else (if ((y5.1.length : Int) != (8 : Int)) then some ((0#64), (2 : Int)) else tokenOpenWordL2 y5 FUEL (0#64) (0 : Int))))

def passkeylaw12TokenBackJ1 (a0 : BitVec 64) (a1 : BitVec 64) (a2 : List (BitVec 8)) (a3 : BitVec 64) : Option (Bool) :=
  ((tokenSealPin a0 a1 a2).bind fun y6 => ((tokenOpenPin a0 y6.1).bind fun y10 => ((tokenSealWord a0 a1 a3).bind fun y14 => ((tokenOpenWord a0 y14).bind fun y16 => (if (y6.2 == (0 : Int)) then (if (y10.2 == (0 : Int)) then (if (y16.2 == (0 : Int)) then (if (a2 == y10.1) then (if (y16.1 == a3) then ((passkeylaw12awake ).bind fun y25 => some y25) else some false) else some false) else some false) else some false) else some false)))))
def passkeylaw12TokenBackJ3 (q2 : Int → Option (Bool)) (v30 : Int) (v38 : Bool) : Option (Bool) :=
  (if v38 then ((passkeylaw12awake ).bind fun y43 => some y43) else q2 (w64 (v30 + (1 : Int))))
def passkeylaw12TokenBackL2 (a0 : BitVec 64) (a1 : BitVec 64) (a2 : List (BitVec 8)) (a3 : BitVec 64) : Nat → Int → Option (Bool)
  | 0, _ => none
  | k + 1, v30 =>
  (if (decide (v30 < (a2.length : Int))) then (asq (0 ≤ v30 ∧ v30 < (a2.length : Int)) (if ((a2.getD v30.toNat 0#8) == (0#8)) then passkeylaw12TokenBackJ3 (passkeylaw12TokenBackL2 a0 a1 a2 a3 k) v30 true else passkeylaw12TokenBackJ3 (passkeylaw12TokenBackL2 a0 a1 a2 a3 k) v30 (decide ((63 : Int) < (a2.length : Int))))) else passkeylaw12TokenBackJ1 a0 a1 a2 a3)
/-- passkey/passkeylaw12.TokenBack -/
def passkeylaw12TokenBack (a0 : BitVec 64) (a1 : BitVec 64) (a2 : List (BitVec 8)) (a3 : BitVec 64) : Option (Bool) :=
  passkeylaw12TokenBackL2 a0 a1 a2 a3 FUEL (0 : Int)


/-- passkey/passkeyref10.SealWord -/
def passkeyref10SealWord (a0 : BitVec 64) (a1 : BitVec 64) (a2 : BitVec 64) : Option (List (BitVec 8)) :=
  ((passkeyref1Words ([a2] : List (BitVec 64))).bind fun y5 => ((passkeyref3Seal a0 a1 ([] : List (BitVec 8)) y5).bind fun y7 => some y7.1))


/-- passkey/passkeyref10.OpenWord -/
def passkeyref10OpenWord (a0 : BitVec 64) (a1 : List (BitVec 8)) : Option ((BitVec 64) × Int) :=
  ((passkeyref3Open a0 ([] : List (BitVec 8)) a1).bind fun y5 => (if (y5.2 != (0 : Int)) then some ((0#64), y5.2) else (if ((y5.1.length : Int) != (8 : Int)) then some ((0#64), (2 : Int)) else ((passkeyref1Word y5.1).bind fun y21 => some (y21, (0 : Int))))))


/-- passkey/passkeylaw12.words -/
def passkeylaw12words (a0 : BitVec 64) (a1 : List (BitVec 8)) : Option (Bool) :=
  ((tokenOpenWord a0 a1).bind fun y5 => ((passkeyref10OpenWord a0 a1).bind fun y9 => (if (y5.1 == y9.1) then some (y5.2 == y9.2) else some false)))


/-- passkey/passkeylaw12.TokenWords -/
def passkeylaw12TokenWords (a0 : BitVec 64) (a1 : BitVec 64) (a2 : BitVec 64) (a3 : List (BitVec 8)) (a4 : BitVec 8) : Option (Bool) :=
  (if (decide ((300 : Int) < (a3.length : Int))) then ((passkeylaw12awake ).bind fun y9 => some y9) else (asq (0 ≤ ((a4 % (12#8)).toNat : Int) ∧ ((a4 % (12#8)).toNat : Int) ≤ ((a4 % (12#8)).toNat : Int) ∧ ((a4 % (12#8)).toNat : Int) ≤ (281474976710656 : Int)) ((passkeyref3Seal a0 a1 ([] : List (BitVec 8)) (List.replicate ((a4 % (12#8)).toNat : Int).toNat 0#8)).bind fun y14 => ((tokenSealWord a0 a1 a2).bind fun y18 => ((passkeyref10SealWord a0 a1 a2).bind fun y20 => (if (y18 == y20) then ((passkeylaw12words a0 a3).bind fun y23 => (if y23 then ((passkeylaw12words a0 y14.1).bind fun y26 => (if y26 then ((passkeylaw12words (a0 + (1#64)) y14.1).bind fun y29 => (if y29 then ((passkeylaw12awake ).bind fun y32 => some y32) else some false)) else some false)) else some false)) else some false))))))

end Go.Proofs.Ty
