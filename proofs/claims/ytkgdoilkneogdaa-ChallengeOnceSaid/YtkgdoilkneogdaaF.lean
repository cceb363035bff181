/- What the Go functions compute, as plain functions. PRINTED by a program of this session (ty.py). -/
import Derived.Test.YtkgdoilkneogdaaRc
set_option linter.unusedVariables false
set_option linter.unusedSimpArgs false
set_option maxHeartbeats 4000000
set_option maxRecDepth 10000
namespace Go.Proofs.Ty
open Go Go.RW
def FUEL : Nat := 18446744073709551616
structure TApiChallenge where
  Number : Int
  Kind : Int
  Account : List (BitVec 8)
  Bound : Bool
  Since : Int
deriving DecidableEq, Inhabited
def okTApiChallenge (s : TApiChallenge) : Prop := okI s.Number ∧ okI s.Kind ∧ okS s.Account ∧ okT s.Bound ∧ okI s.Since ∧ True
def eTApiChallenge (s : TApiChallenge) : D := .agg [eI s.Number, eI s.Kind, eS s.Account, eB s.Bound, eI s.Since]
structure TApiChallenges where
  Secret : BitVec 64
  Count : Int
  Open : List (TApiChallenge)
deriving DecidableEq, Inhabited
def okTApiChallenges (s : TApiChallenges) : Prop := okT s.Secret ∧ okI s.Count ∧ (okL okTApiChallenge) s.Open ∧ True
def eTApiChallenges (s : TApiChallenges) : D := .agg [eU64 s.Secret, eI s.Count, (eL 5 eTApiChallenge) s.Open]
structure TDigeststate where
  v0 : BitVec 64
  v1 : BitVec 64
  v2 : BitVec 64
  v3 : BitVec 64
deriving DecidableEq, Inhabited
def okTDigeststate (s : TDigeststate) : Prop := okT s.v0 ∧ okT s.v1 ∧ okT s.v2 ∧ okT s.v3 ∧ True
def eTDigeststate (s : TDigeststate) : D := .agg [eU64 s.v0, eU64 s.v1, eU64 s.v2, eU64 s.v3]
structure TA4BitVec64 where
  c0 : BitVec 64
  c1 : BitVec 64
  c2 : BitVec 64
  c3 : BitVec 64
deriving DecidableEq, Inhabited
def eTA4BitVec64 (s : TA4BitVec64) : D := .agg [eU64 s.c0, eU64 s.c1, eU64 s.c2, eU64 s.c3]

/-- passkey/challenge.New -/
def challengeNew (a0 : BitVec 64) : Option (TApiChallenges) :=
  some (TApiChallenges.mk a0 (0 : Int) ([] : List (TApiChallenge)))

def challengeExpireOwnJ1 (a0 : TApiChallenges) (v5 : List (TApiChallenge)) : Option (TApiChallenges) :=
  some (TApiChallenges.mk a0.Secret a0.Count v5)
def challengeExpireOwnJ3 (q2 : (List (TApiChallenge)) → Int → Option (TApiChallenges)) (v13 : Int) (v19 : List (TApiChallenge)) : Option (TApiChallenges) :=
  q2 v19 (w64 (v13 + (1 : Int)))
def challengeExpireOwnJ4 (q2 : (List (TApiChallenge)) → Int → Option (TApiChallenges)) (a0 : TApiChallenges) (v12 : List (TApiChallenge)) (v13 : Int) (v26 : Bool) : Option (TApiChallenges) :=
  (if v26 then (asq (((v12 ++ ([(TApiChallenge.mk ((a0.Open.getD v13.toNat (TApiChallenge.mk (0 : Int) (0 : Int) ([] : List (BitVec 8)) false (0 : Int))).Number) ((a0.Open.getD v13.toNat (TApiChallenge.mk (0 : Int) (0 : Int) ([] : List (BitVec 8)) false (0 : Int))).Kind) ((a0.Open.getD v13.toNat (TApiChallenge.mk (0 : Int) (0 : Int) ([] : List (BitVec 8)) false (0 : Int))).Account) ((a0.Open.getD v13.toNat (TApiChallenge.mk (0 : Int) (0 : Int) ([] : List (BitVec 8)) false (0 : Int))).Bound) ((a0.Open.getD v13.toNat (TApiChallenge.mk (0 : Int) (0 : Int) ([] : List (BitVec 8)) false (0 : Int))).Since))] : List (TApiChallenge)))).length ≤ 2932031007402) (challengeExpireOwnJ3 q2 v13 (v12 ++ ([(TApiChallenge.mk ((a0.Open.getD v13.toNat (TApiChallenge.mk (0 : Int) (0 : Int) ([] : List (BitVec 8)) false (0 : Int))).Number) ((a0.Open.getD v13.toNat (TApiChallenge.mk (0 : Int) (0 : Int) ([] : List (BitVec 8)) false (0 : Int))).Kind) ((a0.Open.getD v13.toNat (TApiChallenge.mk (0 : Int) (0 : Int) ([] : List (BitVec 8)) false (0 : Int))).Account) ((a0.Open.getD v13.toNat (TApiChallenge.mk (0 : Int) (0 : Int) ([] : List (BitVec 8)) false (0 : Int))).Bound) ((a0.Open.getD v13.toNat (TApiChallenge.mk (0 : Int) (0 : Int) ([] : List (BitVec 8)) false (0 : Int))).Since))] : List (TApiChallenge))))) else challengeExpireOwnJ3 q2 v13 v12)
def challengeExpireOwnL2 (a0 : TApiChallenges) (a1 : Int) : Nat → (List (TApiChallenge)) → Int → Option (TApiChallenges)
  | 0, _, _ => none
  | k + 1, v12, v13 =>
  (if (decide (v13 < (a0.Open.length : Int))) then (asq (0 ≤ v13 ∧ v13 < (a0.Open.length : Int)) (if (decide (a1 < (0 : Int))) then challengeExpireOwnJ4 (challengeExpireOwnL2 a0 a1 k) a0 v12 v13 true else (if (decide ((1099511627776 : Int) < a1)) then challengeExpireOwnJ4 (challengeExpireOwnL2 a0 a1 k) a0 v12 v13 true else (lett (w64 (a1 - ((a0.Open.getD v13.toNat (TApiChallenge.mk (0 : Int) (0 : Int) ([] : List (BitVec 8)) false (0 : Int))).Since))) fun v34 => challengeExpireOwnJ4 (challengeExpireOwnL2 a0 a1 k) a0 v12 v13 (decide (v34 ≤ (60 : Int))))))) else challengeExpireOwnJ1 a0 v12)
/-- passkey/challenge.Expire -/
def challengeExpireOwn (a0 : TApiChallenges) (a1 : Int) : Option (TApiChallenges) :=
  challengeExpireOwnL2 a0 a1 FUEL ([] : List (TApiChallenge)) (0 : Int)

def digestWordsJ1 (v5 : List (BitVec 8)) : Option (List (BitVec 8)) :=
  some v5
def digestWordsJ3 (q2 : (List (BitVec 8)) → Int → Option (List (BitVec 8))) (v13 : Int) (v19 : List (BitVec 8)) : Option (List (BitVec 8)) :=
  q2 v19 (w64 (v13 + (1 : Int)))
def digestWordsL4 (q2 : (List (BitVec 8)) → Int → Option (List (BitVec 8))) (a0 : List (BitVec 64)) (v13 : Int) : Nat → (List (BitVec 8)) → Int → Option (List (BitVec 8))
  | 0, _, _ => none
  | k + 1, v29, v30 =>
  (if (decide (v30 < (8 : Int))) then (asq (0 ≤ (w64 ((56 : Int) - (w64 ((8 : Int) * v30))))) (lett ((a0.getD v13.toNat 0#64) >>> (w64 ((56 : Int) - (w64 ((8 : Int) * v30)))).toNat) fun v42 => (asq (((v29 ++ ([(v42.setWidth 8)] : List (BitVec 8)))).length ≤ 140737488355328) ((digestWordsL4 q2 a0 v13 k) (v29 ++ ([(v42.setWidth 8)] : List (BitVec 8))) (w64 (v30 + (1 : Int))))))) else digestWordsJ3 q2 v13 v29)
def digestWordsL2 (a0 : List (BitVec 64)) : Nat → (List (BitVec 8)) → Int → Option (List (BitVec 8))
  | 0, _, _ => none
  | k + 1, v12, v13 =>
  (if (decide (v13 < (a0.length : Int))) then (asq (0 ≤ v13 ∧ v13 < (a0.length : Int)) (digestWordsL4 (digestWordsL2 a0 k) a0 v13 FUEL v12 (0 : Int))) else digestWordsJ1 v12)
/-- passkey/digest.Words -/
def digestWords (a0 : List (BitVec 64)) : Option (List (BitVec 8)) :=
  digestWordsL2 a0 FUEL ([] : List (BitVec 8)) (0 : Int)

def digestlittleJ1 (v5 : BitVec 64) : Option (BitVec 64) :=
  some v5
def digestlittleL2 (a0 : List (BitVec 8)) : Nat → (BitVec 64) → Int → Option (BitVec 64)
  | 0, _, _ => none
  | k + 1, v12, v13 =>
  (if (decide (v13 < (a0.length : Int))) then (asq (0 ≤ v13 ∧ v13 < (a0.length : Int)) (asq (0 ≤ (w64 ((8 : Int) * v13))) (lett (((a0.getD v13.toNat 0#8).setWidth 64) <<< (w64 ((8 : Int) * v13)).toNat) fun v26 => (digestlittleL2 a0 k) (v12 ||| v26) (w64 (v13 + (1 : Int)))))) else digestlittleJ1 v12)
/-- passkey/digest.little -/
def digestlittle (a0 : List (BitVec 8)) : Option (BitVec 64) :=
  digestlittleL2 a0 FUEL (0#64) (0 : Int)


/-- math/bits.RotateLeft64 -/
def bitsRotateLeft64 (a0 : BitVec 64) (a1 : Int) : Option (BitVec 64) :=
  (lett (a0 >>> ((64#64) - ((BitVec.ofInt 64 a1) &&& (63#64))).toNat) fun v7 => some ((a0 <<< ((BitVec.ofInt 64 a1) &&& (63#64)).toNat) ||| v7))

def digeststateroundL1 (a1 : Int) : Nat → (BitVec 64) → (BitVec 64) → (BitVec 64) → (BitVec 64) → Int → Option (TDigeststate)
  | 0, _, _, _, _, _ => none
  | k + 1, v4, v5, v6, v7, v8 =>
  (if (decide (v8 < a1)) then ((bitsRotateLeft64 v5 (13 : Int)).bind fun y20 => ((bitsRotateLeft64 (v4 + v5) (32 : Int)).bind fun y24 => ((bitsRotateLeft64 v7 (16 : Int)).bind fun y30 => ((bitsRotateLeft64 (y30 ^^^ (v6 + v7)) (21 : Int)).bind fun y36 => ((bitsRotateLeft64 (y20 ^^^ (v4 + v5)) (17 : Int)).bind fun y42 => ((bitsRotateLeft64 ((v6 + v7) + (y20 ^^^ (v4 + v5))) (32 : Int)).bind fun y45 => (digeststateroundL1 a1 k) (y24 + (y30 ^^^ (v6 + v7))) (y42 ^^^ ((v6 + v7) + (y20 ^^^ (v4 + v5)))) y45 (y36 ^^^ (y24 + (y30 ^^^ (v6 + v7)))) (w64 (v8 + (1 : Int))))))))) else some (TDigeststate.mk v4 v5 v6 v7))
/-- (*passkey/digest.state).round -/
def digeststateround (a0 : TDigeststate) (a1 : Int) : Option (TDigeststate) :=
  digeststateroundL1 a1 FUEL a0.v0 a0.v1 a0.v2 a0.v3 (0 : Int)


/-- (*passkey/digest.state).word -/
def digeststateword (a0 : TDigeststate) (a1 : BitVec 64) : Option (TDigeststate) :=
  ((digeststateround (TDigeststate.mk a0.v0 a0.v1 a0.v2 (a0.v3 ^^^ a1)) (2 : Int)).bind fun y5 => some (TDigeststate.mk (y5.v0 ^^^ a1) y5.v1 y5.v2 y5.v3))

def digestSumJ1 (a2 : List (BitVec 8)) (v7 : List (BitVec 8)) (v8 : BitVec 64) (v9 : BitVec 64) (v10 : BitVec 64) (v11 : BitVec 64) : Option (BitVec 64) :=
  ((digestlittle v7).bind fun y15 => ((digeststateword (TDigeststate.mk v8 v9 v10 v11) (((BitVec.ofInt 64 (a2.length : Int)) <<< 56) ||| y15)).bind fun y17 => ((digeststateround (TDigeststate.mk y17.v0 y17.v1 (y17.v2 ^^^ (255#64)) y17.v3) (4 : Int)).bind fun y23 => some (((y23.v0 ^^^ y23.v1) ^^^ y23.v2) ^^^ y23.v3))))
def digestSumL2 (a2 : List (BitVec 8)) : Nat → (List (BitVec 8)) → (BitVec 64) → (BitVec 64) → (BitVec 64) → (BitVec 64) → Option (BitVec 64)
  | 0, _, _, _, _, _ => none
  | k + 1, v28, v29, v30, v31, v32 =>
  (if (decide ((8 : Int) ≤ (v28.length : Int))) then (asq (0 ≤ (8 : Int) ∧ (8 : Int) ≤ (v28.length : Int)) ((digestlittle (dropTake 0 (8 : Int).toNat v28)).bind fun y42 => ((digeststateword (TDigeststate.mk v29 v30 v31 v32) y42).bind fun y44 => (asq (0 ≤ (8 : Int) ∧ (8 : Int) ≤ (v28.length : Int)) ((digestSumL2 a2 k) (dropTake (8 : Int).toNat v28.length v28) y44.v0 y44.v1 y44.v2 y44.v3))))) else digestSumJ1 a2 v28 v29 v30 v31 v32)
/-- passkey/digest.Sum -/
def digestSum (a0 : BitVec 64) (a1 : BitVec 64) (a2 : List (BitVec 8)) : Option (BitVec 64) :=
  digestSumL2 a2 FUEL a2 (a0 ^^^ (8317987319222330741#64)) (a1 ^^^ (7237128888997146477#64)) (a0 ^^^ (7816392313619706465#64)) (a1 ^^^ (8387220255154660723#64))


/-- passkey/digest.Mac -/
def digestMac (a0 : BitVec 64) (a1 : Int) (a2 : List (BitVec 8)) : Option (BitVec 64) :=
  ((digestSum a0 ((1#64) + (BitVec.ofInt 64 a1)) a2).bind fun y5 => some y5)

def challengeBytesJ1 (a0 : TApiChallenges) (a1 : TApiChallenge) (v5 : BitVec 64) : Option (List (BitVec 8)) :=
  ((digestWords ([(BitVec.ofInt 64 a1.Number), (BitVec.ofInt 64 a1.Kind), v5, (BitVec.ofInt 64 a1.Since)] : List (BitVec 64))).bind fun y9 => (asq (((y9 ++ a1.Account)).length ≤ 140737488355328) ((digestMac a0.Secret (17 : Int) (y9 ++ a1.Account)).bind fun y14 => ((digestWords ([(BitVec.ofInt 64 a1.Number), y14] : List (BitVec 64))).bind fun y16 => some y16))))
/-- passkey/challenge.Bytes -/
def challengeBytes (a0 : TApiChallenges) (a1 : TApiChallenge) : Option (List (BitVec 8)) :=
  (if a1.Bound then challengeBytesJ1 a0 a1 (1#64) else challengeBytesJ1 a0 a1 (0#64))

def challengeIssueJ2 (a0 : TApiChallenges) (a1 : Int) (a2 : List (BitVec 8)) (a3 : Bool) (a4 : Int) (v10 : Bool) : Option (TApiChallenges × (List (BitVec 8)) × Int) :=
  (if v10 then some ((TApiChallenges.mk a0.Secret a0.Count a0.Open), [], (3 : Int)) else (if (decide ((32 : Int) < (a2.length : Int))) then some ((TApiChallenges.mk a0.Secret a0.Count a0.Open), [], (8 : Int)) else ((challengeExpireOwn (TApiChallenges.mk a0.Secret a0.Count a0.Open) a4).bind fun y23 => (if (decide ((32 : Int) ≤ (y23.Open.length : Int))) then some ((TApiChallenges.mk a0.Secret a0.Count a0.Open), [], (12 : Int)) else (asq (((y23.Open ++ ([(TApiChallenge.mk a0.Count a1 a2 a3 a4)] : List (TApiChallenge)))).length ≤ 2932031007402) ((challengeBytes (TApiChallenges.mk y23.Secret (w64 (y23.Count + (1 : Int))) (y23.Open ++ ([(TApiChallenge.mk a0.Count a1 a2 a3 a4)] : List (TApiChallenge)))) (TApiChallenge.mk a0.Count a1 a2 a3 a4)).bind fun y40 => some ((TApiChallenges.mk y23.Secret (w64 (y23.Count + (1 : Int))) (y23.Open ++ ([(TApiChallenge.mk a0.Count a1 a2 a3 a4)] : List (TApiChallenge)))), y40, (0 : Int))))))))
def challengeIssueJ1 (a0 : TApiChallenges) (a1 : Int) (a2 : List (BitVec 8)) (a3 : Bool) (a4 : Int) (v4 : Bool) : Option (TApiChallenges × (List (BitVec 8)) × Int) :=
  (if v4 then some ((TApiChallenges.mk a0.Secret a0.Count a0.Open), [], (9 : Int)) else (if (a1 != (1 : Int)) then challengeIssueJ2 a0 a1 a2 a3 a4 (a1 != (2 : Int)) else challengeIssueJ2 a0 a1 a2 a3 a4 false))
/-- passkey/challenge.Issue -/
def challengeIssue (a0 : TApiChallenges) (a1 : Int) (a2 : List (BitVec 8)) (a3 : Bool) (a4 : Int) : Option (TApiChallenges × (List (BitVec 8)) × Int) :=
  (if (decide (a4 < (0 : Int))) then challengeIssueJ1 a0 a1 a2 a3 a4 true else challengeIssueJ1 a0 a1 a2 a3 a4 (decide ((1099511627776 : Int) < a4)))

def challengeUseJ2 (a0 : TApiChallenges) : Option (TApiChallenges × TApiChallenge × Int) :=
  some ((TApiChallenges.mk a0.Secret a0.Count a0.Open), (TApiChallenge.mk (0 : Int) (0 : Int) ([] : List (BitVec 8)) false (0 : Int)), (35 : Int))
def challengeUseJ4 (q3 : Int → Option (TApiChallenges × TApiChallenge × Int)) (y11 : TApiChallenges) (v19 : Int) (v30 : Bool) : Option (TApiChallenges × TApiChallenge × Int) :=
  (if v30 then (asq (0 ≤ v19 ∧ v19 ≤ (y11.Open.length : Int)) (asq (0 ≤ (w64 (v19 + (1 : Int))) ∧ (w64 (v19 + (1 : Int))) ≤ (y11.Open.length : Int)) (asq ((v19.toNat - 0) < y11.Open.length ∧ ((y11.Open.take (v19.toNat - 0) ++ ((y11.Open.drop (0 + (w64 (v19 + (1 : Int))).toNat)).take (y11.Open.length - (w64 (v19 + (1 : Int))).toNat)))).length ≤ 2932031007402) (some ((TApiChallenges.mk y11.Secret y11.Count (y11.Open.take (v19.toNat - 0) ++ ((y11.Open.drop (0 + (w64 (v19 + (1 : Int))).toNat)).take (y11.Open.length - (w64 (v19 + (1 : Int))).toNat)))), (TApiChallenge.mk ((y11.Open.getD (0 + v19.toNat) (TApiChallenge.mk (0 : Int) (0 : Int) ([] : List (BitVec 8)) false (0 : Int))).Number) ((y11.Open.getD (0 + v19.toNat) (TApiChallenge.mk (0 : Int) (0 : Int) ([] : List (BitVec 8)) false (0 : Int))).Kind) ((y11.Open.getD (0 + v19.toNat) (TApiChallenge.mk (0 : Int) (0 : Int) ([] : List (BitVec 8)) false (0 : Int))).Account) ((y11.Open.getD (0 + v19.toNat) (TApiChallenge.mk (0 : Int) (0 : Int) ([] : List (BitVec 8)) false (0 : Int))).Bound) ((y11.Open.getD (0 + v19.toNat) (TApiChallenge.mk (0 : Int) (0 : Int) ([] : List (BitVec 8)) false (0 : Int))).Since)), (0 : Int)))))) else q3 (w64 (v19 + (1 : Int))))
def challengeUseL3 (a0 : TApiChallenges) (a1 : List (BitVec 8)) (a2 : Int) (y11 : TApiChallenges) : Nat → Int → Option (TApiChallenges × TApiChallenge × Int)
  | 0, _ => none
  | k + 1, v19 =>
  (if (decide (v19 < (y11.Open.length : Int))) then (asq (0 ≤ v19 ∧ v19 < (y11.Open.length : Int)) (if (((y11.Open.getD (0 + v19.toNat) (TApiChallenge.mk (0 : Int) (0 : Int) ([] : List (BitVec 8)) false (0 : Int))).Kind) == a2) then ((challengeBytes (TApiChallenges.mk a0.Secret a0.Count a0.Open) (TApiChallenge.mk ((y11.Open.getD (0 + v19.toNat) (TApiChallenge.mk (0 : Int) (0 : Int) ([] : List (BitVec 8)) false (0 : Int))).Number) ((y11.Open.getD (0 + v19.toNat) (TApiChallenge.mk (0 : Int) (0 : Int) ([] : List (BitVec 8)) false (0 : Int))).Kind) ((y11.Open.getD (0 + v19.toNat) (TApiChallenge.mk (0 : Int) (0 : Int) ([] : List (BitVec 8)) false (0 : Int))).Account) ((y11.Open.getD (0 + v19.toNat) (TApiChallenge.mk (0 : Int) (0 : Int) ([] : List (BitVec 8)) false (0 : Int))).Bound) ((y11.Open.getD (0 + v19.toNat) (TApiChallenge.mk (0 : Int) (0 : Int) ([] : List (BitVec 8)) false (0 : Int))).Since))).bind fun y43 => challengeUseJ4 (challengeUseL3 a0 a1 a2 y11 k) y11 v19 (y43 == a1)) else challengeUseJ4 (challengeUseL3 a0 a1 a2 y11 k) y11 v19 false)) else challengeUseJ2 a0)
def challengeUseJ1 (a0 : TApiChallenges) (a1 : List (BitVec 8)) (a2 : Int) (a3 : Int) (v4 : Bool) : Option (TApiChallenges × TApiChallenge × Int) :=
  (if v4 then some ((TApiChallenges.mk a0.Secret a0.Count a0.Open), (TApiChallenge.mk (0 : Int) (0 : Int) ([] : List (BitVec 8)) false (0 : Int)), (9 : Int)) else ((challengeExpireOwn (TApiChallenges.mk a0.Secret a0.Count a0.Open) a3).bind fun y11 => challengeUseL3 a0 a1 a2 y11 FUEL (0 : Int)))
/-- passkey/challenge.Use -/
def challengeUse (a0 : TApiChallenges) (a1 : List (BitVec 8)) (a2 : Int) (a3 : Int) : Option (TApiChallenges × TApiChallenge × Int) :=
  (if (decide (a3 < (0 : Int))) then challengeUseJ1 a0 a1 a2 a3 true else challengeUseJ1 a0 a1 a2 a3 (decide ((1099511627776 : Int) < a3)))


/-- passkey/passkeylaw29.awake -/
def passkeylaw29awake  : Option (Bool) :=
  ((challengeNew (7#64)).bind fun y5 => ((challengeIssue y5 (2 : Int) ([97#8, 108#8, 105#8, 99#8, 101#8] : List (BitVec 8)) false (10 : Int)).bind fun y7 => ((challengeUse (TApiChallenges.mk y7.1.Secret y7.1.Count y7.1.Open) y7.2.1 (2 : Int) (70 : Int)).bind fun y11 => ((challengeUse (TApiChallenges.mk y11.1.Secret y11.1.Count y11.1.Open) y7.2.1 (2 : Int) (70 : Int)).bind fun y15 => ((challengeUse (TApiChallenges.mk y7.1.Secret y7.1.Count y7.1.Open) y7.2.1 (2 : Int) (71 : Int)).bind fun y19 => (if (y7.2.2 == (0 : Int)) then (if (y11.2.2 == (0 : Int)) then (if ((y7.2.1.length : Int) == (16 : Int)) then (if (y11.2.1.Account == ([97#8, 108#8, 105#8, 99#8, 101#8] : List (BitVec 8))) then (if ((y11.1.Open.length : Int) == (0 : Int)) then (if (y15.2.2 == (35 : Int)) then some (y19.2.2 == (35 : Int)) else some false) else some false) else some false) else some false) else some false) else some false))))))

def passkeyref1WordsJ1 (v5 : List (BitVec 8)) : Option (List (BitVec 8)) :=
  some v5
def passkeyref1WordsJ3 (q2 : (List (BitVec 8)) → Int → Option (List (BitVec 8))) (v13 : Int) (v19 : List (BitVec 8)) : Option (List (BitVec 8)) :=
  q2 v19 (w64 (v13 + (1 : Int)))
def passkeyref1WordsL4 (q2 : (List (BitVec 8)) → Int → Option (List (BitVec 8))) (a0 : List (BitVec 64)) (v13 : Int) : Nat → (List (BitVec 8)) → Int → Option (List (BitVec 8))
  | 0, _, _ => none
  | k + 1, v26, v27 =>
  (if (decide ((0 : Int) ≤ v27)) then (asq (0 ≤ v13 ∧ v13 < (a0.length : Int)) (lett ((a0.getD v13.toNat 0#64) >>> (BitVec.ofInt 64 (w64 ((8 : Int) * v27))).toNat) fun v37 => (asq (((v26 ++ ([(v37.setWidth 8)] : List (BitVec 8)))).length ≤ 140737488355328) ((passkeyref1WordsL4 q2 a0 v13 k) (v26 ++ ([(v37.setWidth 8)] : List (BitVec 8))) (w64 (v27 - (1 : Int))))))) else passkeyref1WordsJ3 q2 v13 v26)
def passkeyref1WordsL2 (a0 : List (BitVec 64)) : Nat → (List (BitVec 8)) → Int → Option (List (BitVec 8))
  | 0, _, _ => none
  | k + 1, v12, v13 =>
  (if (decide (v13 < (a0.length : Int))) then passkeyref1WordsL4 (passkeyref1WordsL2 a0 k) a0 v13 FUEL v12 (7 : Int) else passkeyref1WordsJ1 v12)
/-- passkey/passkeyref1.Words -/
def passkeyref1Words (a0 : List (BitVec 64)) : Option (List (BitVec 8)) :=
  passkeyref1WordsL2 a0 FUEL ([] : List (BitVec 8)) (0 : Int)


/-- passkey/passkeyref1.rotl -/
def passkeyref1rotl (a0 : BitVec 64) (a1 : BitVec 64) : Option (BitVec 64) :=
  some ((a0 <<< a1.toNat) ||| (a0 >>> ((64#64) - a1).toNat))


/-- passkey/passkeyref1.round -/
def passkeyref1round (a0 : TA4BitVec64) : Option (TA4BitVec64) :=
  ((passkeyref1rotl a0.c1 (13#64)).bind fun y7 => ((passkeyref1rotl (a0.c0 + a0.c1) (32#64)).bind fun y11 => ((passkeyref1rotl a0.c3 (16#64)).bind fun y17 => ((passkeyref1rotl (y17 ^^^ (a0.c2 + a0.c3)) (21#64)).bind fun y23 => ((passkeyref1rotl (y7 ^^^ (a0.c0 + a0.c1)) (17#64)).bind fun y29 => ((passkeyref1rotl ((a0.c2 + a0.c3) + (y7 ^^^ (a0.c0 + a0.c1))) (32#64)).bind fun y33 => some (TA4BitVec64.mk (y11 + (y17 ^^^ (a0.c2 + a0.c3))) (y29 ^^^ ((a0.c2 + a0.c3) + (y7 ^^^ (a0.c0 + a0.c1)))) y33 (y23 ^^^ (y11 + (y17 ^^^ (a0.c2 + a0.c3)))))))))))

def passkeyref1SumJ1 (v5 : BitVec 64) (v6 : BitVec 64) (v7 : BitVec 64) (v8 : BitVec 64) : Option (BitVec 64) :=
  ((passkeyref1round (TA4BitVec64.mk v5 v6 (v7 ^^^ (255#64)) v8)).bind fun y14 => ((passkeyref1round y14).bind fun y16 => ((passkeyref1round y16).bind fun y18 => ((passkeyref1round y18).bind fun y20 => some (((y20.c0 ^^^ y20.c1) ^^^ y20.c2) ^^^ y20.c3)))))
def passkeyref1SumJ3 (q2 : (BitVec 64) → (BitVec 64) → (BitVec 64) → (BitVec 64) → Int → Option (BitVec 64)) (v31 : Int) (v37 : BitVec 64) (v38 : BitVec 64) (v39 : BitVec 64) (v40 : BitVec 64) : Option (BitVec 64) :=
  q2 v37 v38 v39 v40 (w64 (v31 + (8 : Int)))
def passkeyref1SumJ4 (q2 : (BitVec 64) → (BitVec 64) → (BitVec 64) → (BitVec 64) → Int → Option (BitVec 64)) (v27 : BitVec 64) (v28 : BitVec 64) (v29 : BitVec 64) (v30 : BitVec 64) (v31 : Int) (v46 : BitVec 64) : Option (BitVec 64) :=
  ((passkeyref1round (TA4BitVec64.mk v27 v28 v29 (v30 ^^^ v46))).bind fun y52 => ((passkeyref1round y52).bind fun y54 => passkeyref1SumJ3 q2 v31 (y54.c0 ^^^ v46) y54.c1 y54.c2 y54.c3))
def passkeyref1SumJ6 (q5 : (BitVec 64) → Int → Option (BitVec 64)) (v60 : BitVec 64) (v61 : Int) (v71 : BitVec 8) : Option (BitVec 64) :=
  q5 ((v60 <<< 8) ||| (v71.setWidth 64)) (w64 (v61 - (1 : Int)))
def passkeyref1SumL5 (q2 : (BitVec 64) → (BitVec 64) → (BitVec 64) → (BitVec 64) → Int → Option (BitVec 64)) (a2 : List (BitVec 8)) (v27 : BitVec 64) (v28 : BitVec 64) (v29 : BitVec 64) (v30 : BitVec 64) (v31 : Int) : Nat → (BitVec 64) → Int → Option (BitVec 64)
  | 0, _, _ => none
  | k + 1, v60, v61 =>
  (if (decide ((0 : Int) ≤ v61)) then (if (decide ((w64 (v31 + v61)) < (a2.length : Int))) then (asq (0 ≤ (w64 (v31 + v61)) ∧ (w64 (v31 + v61)) < (a2.length : Int)) (passkeyref1SumJ6 (passkeyref1SumL5 q2 a2 v27 v28 v29 v30 v31 k) v60 v61 (a2.getD (w64 (v31 + v61)).toNat 0#8))) else (if (v61 == (7 : Int)) then passkeyref1SumJ6 (passkeyref1SumL5 q2 a2 v27 v28 v29 v30 v31 k) v60 v61 (BitVec.ofInt 8 (a2.length : Int)) else passkeyref1SumJ6 (passkeyref1SumL5 q2 a2 v27 v28 v29 v30 v31 k) v60 v61 (0#8))) else passkeyref1SumJ4 q2 v27 v28 v29 v30 v31 v60)
def passkeyref1SumL2 (a2 : List (BitVec 8)) : Nat → (BitVec 64) → (BitVec 64) → (BitVec 64) → (BitVec 64) → Int → Option (BitVec 64)
  | 0, _, _, _, _, _ => none
  | k + 1, v27, v28, v29, v30, v31 =>
  (if (decide (v31 ≤ (a2.length : Int))) then passkeyref1SumL5 (passkeyref1SumL2 a2 k) a2 v27 v28 v29 v30 v31 FUEL (0#64) (7 : Int) else passkeyref1SumJ1 v27 v28 v29 v30)
/-- passkey/passkeyref1.Sum -/
def passkeyref1Sum (a0 : BitVec 64) (a1 : BitVec 64) (a2 : List (BitVec 8)) : Option (BitVec 64) :=
  passkeyref1SumL2 a2 FUEL (a0 ^^^ (8317987319222330741#64)) (a1 ^^^ (7237128888997146477#64)) (a0 ^^^ (7816392313619706465#64)) (a1 ^^^ (8387220255154660723#64)) (0 : Int)


/-- passkey/passkeyref1.Mac -/
def passkeyref1Mac (a0 : BitVec 64) (a1 : Int) (a2 : List (BitVec 8)) : Option (BitVec 64) :=
  ((passkeyref1Sum a0 ((1#64) + (BitVec.ofInt 64 a1)) a2).bind fun y5 => some y5)

def passkeyref29ChallengeBytesJ1 (a0 : TApiChallenges) (a1 : TApiChallenge) (v5 : BitVec 64) : Option (List (BitVec 8)) :=
  ((passkeyref1Words ([(BitVec.ofInt 64 a1.Number), (BitVec.ofInt 64 a1.Kind), v5, (BitVec.ofInt 64 a1.Since)] : List (BitVec 64))).bind fun y9 => (asq (((y9 ++ a1.Account)).length ≤ 140737488355328) ((passkeyref1Mac a0.Secret (17 : Int) (y9 ++ a1.Account)).bind fun y14 => ((passkeyref1Words ([(BitVec.ofInt 64 a1.Number), y14] : List (BitVec 64))).bind fun y16 => some y16))))
/-- passkey/passkeyref29.ChallengeBytes -/
def passkeyref29ChallengeBytes (a0 : TApiChallenges) (a1 : TApiChallenge) : Option (List (BitVec 8)) :=
  (if a1.Bound then passkeyref29ChallengeBytesJ1 a0 a1 (1#64) else passkeyref29ChallengeBytesJ1 a0 a1 (0#64))


/-- passkey/passkeylaw29.ChallengeBytes -/
def passkeylaw29ChallengeBytes (a0 : TApiChallenges) (a1 : TApiChallenge) : Option (Bool) :=
  (if (decide ((200 : Int) < (a1.Account.length : Int))) then ((passkeylaw29awake ).bind fun y9 => some y9) else ((challengeBytes (TApiChallenges.mk a0.Secret a0.Count a0.Open) (TApiChallenge.mk a1.Number a1.Kind a1.Account a1.Bound a1.Since)).bind fun y13 => ((passkeyref29ChallengeBytes (TApiChallenges.mk a0.Secret a0.Count a0.Open) (TApiChallenge.mk a1.Number a1.Kind a1.Account a1.Bound a1.Since)).bind fun y15 => (if (y13 == y15) then ((passkeylaw29awake ).bind fun y18 => some y18) else some false))))


/-- passkey/passkeycast.Mod -/
def passkeycastMod (a0 : Int) (a1 : Int) : Option (Int) :=
  (asq ((BitVec.ofInt 64 a1) ≠ 0#64) (some (((BitVec.ofInt 64 a0) % (BitVec.ofInt 64 a1)).toInt)))


/-- passkey/passkeycast.Name -/
def passkeycastName (a0 : Int) : Option (List (BitVec 8)) :=
  ((passkeycastMod a0 (5 : Int)).bind fun y5 => (asq (0 ≤ y5 ∧ y5 < ((([([97#8, 108#8, 105#8, 99#8, 101#8] : List (BitVec 8)), ([98#8, 111#8, 98#8] : List (BitVec 8)), ([99#8, 97#8, 114#8, 111#8, 108#8] : List (BitVec 8)), ([] : List (BitVec 8)), ([255#8] : List (BitVec 8))] : List (List (BitVec 8)))).length : Int)) (some (([([97#8, 108#8, 105#8, 99#8, 101#8] : List (BitVec 8)), ([98#8, 111#8, 98#8] : List (BitVec 8)), ([99#8, 97#8, 114#8, 111#8, 108#8] : List (BitVec 8)), ([] : List (BitVec 8)), ([255#8] : List (BitVec 8))] : List (List (BitVec 8))).getD (0 + y5.toNat) ([] : List (BitVec 8))))))

def passkeylaw29ChallengeOnceJ3  : Option (Bool) :=
  ((passkeylaw29awake ).bind fun y21 => some y21)
def passkeylaw29ChallengeOnceJ8 (q4 : (BitVec 64) → Int → (List (TApiChallenge)) → (List (Bool)) → Int → Option (Bool)) (v30 : Int) (y52 : TApiChallenges × TApiChallenge × Int) (v62 : List (Bool)) : Option (Bool) :=
  q4 y52.1.Secret y52.1.Count y52.1.Open v62 (w64 (v30 + (1 : Int)))
def passkeylaw29ChallengeOnceJ7 (q4 : (BitVec 64) → Int → (List (TApiChallenge)) → (List (Bool)) → Int → Option (Bool)) (v29 : List (Bool)) (v30 : Int) (v42 : Int) (y52 : TApiChallenges × TApiChallenge × Int) (v54 : Bool) (v57 : Bool) : Option (Bool) :=
  (if v57 then some false else (asq (0 ≤ v42 ∧ v42 < (v29.length : Int)) (if (v29.getD (0 + v42.toNat) false) then (asq (0 ≤ v42 ∧ v42 < (v29.length : Int)) (passkeylaw29ChallengeOnceJ8 q4 v30 y52 (v29.set (0 + v42.toNat) true))) else (asq (0 ≤ v42 ∧ v42 < (v29.length : Int)) (passkeylaw29ChallengeOnceJ8 q4 v30 y52 (v29.set (0 + v42.toNat) v54))))))
def passkeylaw29ChallengeOnceJ6 (q4 : (BitVec 64) → Int → (List (TApiChallenge)) → (List (Bool)) → Int → Option (Bool)) (a1 : List (BitVec 8)) (v29 : List (Bool)) (v30 : Int) (v42 : Int) (y52 : TApiChallenges × TApiChallenge × Int) (v54 : Bool) : Option (Bool) :=
  (if (!((y52.2.2 == (0 : Int)) == v54)) then passkeylaw29ChallengeOnceJ7 q4 v29 v30 v42 y52 v54 true else (if (y52.2.2 == (0 : Int)) then (if (y52.2.1.Number != v42) then passkeylaw29ChallengeOnceJ7 q4 v29 v30 v42 y52 v54 true else (asq (0 ≤ v42 ∧ v42 < (a1.length : Int)) ((passkeycastName (((a1.getD v42.toNat 0#8).toNat : Int).tmod (3 : Int))).bind fun y76 => (if (!(y52.2.1.Account == y76)) then passkeylaw29ChallengeOnceJ7 q4 v29 v30 v42 y52 v54 true else (asq (0 ≤ v42 ∧ v42 < (a1.length : Int)) (passkeylaw29ChallengeOnceJ7 q4 v29 v30 v42 y52 v54 (!(y52.2.1.Bound == (((a1.getD v42.toNat 0#8) &&& (8#8)) == (8#8)))))))))) else passkeylaw29ChallengeOnceJ7 q4 v29 v30 v42 y52 v54 false))
def passkeylaw29ChallengeOnceJ5 (q4 : (BitVec 64) → Int → (List (TApiChallenge)) → (List (Bool)) → Int → Option (Bool)) (a1 : List (BitVec 8)) (a2 : List (BitVec 8)) (a3 : BitVec 8) (v12 : List (List (BitVec 8))) (v26 : BitVec 64) (v27 : Int) (v28 : List (TApiChallenge)) (v29 : List (Bool)) (v30 : Int) (v33 : Bool) : Option (Bool) :=
  (if v33 then (asq (0 ≤ v30 ∧ v30 < (a2.length : Int)) (asq ((v12.length : Int) ≠ 0) (lett (((a2.getD v30.toNat 0#8).toNat : Int).tmod (v12.length : Int)) fun v42 => (asq (0 ≤ v30 ∧ v30 < (a2.length : Int)) (lett (w64 ((1 : Int) + (((a2.getD v30.toNat 0#8) >>> 7).toNat : Int))) fun v47 => (asq (0 ≤ v42 ∧ v42 < (v12.length : Int)) ((challengeUse (TApiChallenges.mk v26 v27 v28) (v12.getD (0 + v42.toNat) ([] : List (BitVec 8))) v47 (w64 ((100 : Int) + (a3.toNat : Int)))).bind fun y52 => (asq (0 ≤ v42 ∧ v42 < (v29.length : Int)) (if (!(v29.getD (0 + v42.toNat) false)) then (asq (0 ≤ v42 ∧ v42 < (a1.length : Int)) (lett (w64 ((1 : Int) + (((a1.getD v42.toNat 0#8) &&& (1#8)).toNat : Int))) fun v84 => (if (v47 == v84) then passkeylaw29ChallengeOnceJ6 q4 a1 v29 v30 v42 y52 (decide ((a3.toNat : Int) ≤ (60 : Int))) else passkeylaw29ChallengeOnceJ6 q4 a1 v29 v30 v42 y52 false))) else passkeylaw29ChallengeOnceJ6 q4 a1 v29 v30 v42 y52 false))))))))) else passkeylaw29ChallengeOnceJ3)
def passkeylaw29ChallengeOnceL4 (a1 : List (BitVec 8)) (a2 : List (BitVec 8)) (a3 : BitVec 8) (v12 : List (List (BitVec 8))) : Nat → (BitVec 64) → Int → (List (TApiChallenge)) → (List (Bool)) → Int → Option (Bool)
  | 0, _, _, _, _, _ => none
  | k + 1, v26, v27, v28, v29, v30 =>
  (if (decide (v30 < (a2.length : Int))) then (if (decide (v30 < (40 : Int))) then passkeylaw29ChallengeOnceJ5 (passkeylaw29ChallengeOnceL4 a1 a2 a3 v12 k) a1 a2 a3 v12 v26 v27 v28 v29 v30 (decide ((0 : Int) < (v12.length : Int))) else passkeylaw29ChallengeOnceJ5 (passkeylaw29ChallengeOnceL4 a1 a2 a3 v12 k) a1 a2 a3 v12 v26 v27 v28 v29 v30 false) else passkeylaw29ChallengeOnceJ5 (passkeylaw29ChallengeOnceL4 a1 a2 a3 v12 k) a1 a2 a3 v12 v26 v27 v28 v29 v30 false)
def passkeylaw29ChallengeOnceJ2 (a1 : List (BitVec 8)) (a2 : List (BitVec 8)) (a3 : BitVec 8) (v9 : BitVec 64) (v10 : Int) (v11 : List (TApiChallenge)) (v12 : List (List (BitVec 8))) : Option (Bool) :=
  (asq (0 ≤ (v12.length : Int) ∧ (v12.length : Int) ≤ (v12.length : Int) ∧ (v12.length : Int) ≤ (281474976710656 : Int)) (passkeylaw29ChallengeOnceL4 a1 a2 a3 v12 FUEL v9 v10 v11 (List.replicate (v12.length : Int).toNat false) (0 : Int)))
def passkeylaw29ChallengeOnceJ10 (q9 : Int → Option (Bool)) (v93 : Int) : Option (Bool) :=
  q9 (w64 (v93 + (1 : Int)))
def passkeylaw29ChallengeOnceL11 (q9 : Int → Option (Bool)) (v12 : List (List (BitVec 8))) (v93 : Int) : Nat → Int → Option (Bool)
  | 0, _ => none
  | k + 1, v105 =>
  (if (decide (v105 < v93)) then (asq (0 ≤ v93 ∧ v93 < (v12.length : Int)) (asq (0 ≤ v105 ∧ v105 < (v12.length : Int)) (if ((v12.getD (0 + v93.toNat) ([] : List (BitVec 8))) == (v12.getD (0 + v105.toNat) ([] : List (BitVec 8)))) then some false else (passkeylaw29ChallengeOnceL11 q9 v12 v93 k) (w64 (v105 + (1 : Int)))))) else passkeylaw29ChallengeOnceJ10 q9 v93)
def passkeylaw29ChallengeOnceL9 (a1 : List (BitVec 8)) (a2 : List (BitVec 8)) (a3 : BitVec 8) (v9 : BitVec 64) (v10 : Int) (v11 : List (TApiChallenge)) (v12 : List (List (BitVec 8))) : Nat → Int → Option (Bool)
  | 0, _ => none
  | k + 1, v93 =>
  (if (decide (v93 < (v12.length : Int))) then passkeylaw29ChallengeOnceL11 (passkeylaw29ChallengeOnceL9 a1 a2 a3 v9 v10 v11 v12 k) v12 v93 FUEL (0 : Int) else passkeylaw29ChallengeOnceJ2 a1 a2 a3 v9 v10 v11 v12)
def passkeylaw29ChallengeOnceJ1 (a1 : List (BitVec 8)) (a2 : List (BitVec 8)) (a3 : BitVec 8) (v9 : BitVec 64) (v10 : Int) (v11 : List (TApiChallenge)) (v12 : List (List (BitVec 8))) : Option (Bool) :=
  passkeylaw29ChallengeOnceL9 a1 a2 a3 v9 v10 v11 v12 FUEL (0 : Int)
def passkeylaw29ChallengeOnceJ13 (q12 : (BitVec 64) → Int → (List (TApiChallenge)) → (List (List (BitVec 8))) → Int → Option (Bool)) (a1 : List (BitVec 8)) (a2 : List (BitVec 8)) (a3 : BitVec 8) (v124 : BitVec 64) (v125 : Int) (v126 : List (TApiChallenge)) (v127 : List (List (BitVec 8))) (v128 : Int) (v131 : Bool) : Option (Bool) :=
  (if v131 then (asq (0 ≤ v128 ∧ v128 < (a1.length : Int)) (lett (w64 ((1 : Int) + (((a1.getD v128.toNat 0#8) &&& (1#8)).toNat : Int))) fun v139 => (asq (0 ≤ v128 ∧ v128 < (a1.length : Int)) ((passkeycastName (((a1.getD v128.toNat 0#8).toNat : Int).tmod (3 : Int))).bind fun y142 => (asq (0 ≤ v128 ∧ v128 < (a1.length : Int)) ((challengeIssue (TApiChallenges.mk v124 v125 v126) v139 y142 (((a1.getD v128.toNat 0#8) &&& (8#8)) == (8#8)) (100 : Int)).bind fun y145 => (if (y145.2.2 != (0 : Int)) then some false else (asq (((v127 ++ ([y145.2.1] : List (List (BitVec 8))))).length ≤ 5864062014805) (q12 y145.1.Secret y145.1.Count y145.1.Open (v127 ++ ([y145.2.1] : List (List (BitVec 8)))) (w64 (v128 + (1 : Int)))))))))))) else passkeylaw29ChallengeOnceJ1 a1 a2 a3 v124 v125 v126 v127)
def passkeylaw29ChallengeOnceL12 (a1 : List (BitVec 8)) (a2 : List (BitVec 8)) (a3 : BitVec 8) : Nat → (BitVec 64) → Int → (List (TApiChallenge)) → (List (List (BitVec 8))) → Int → Option (Bool)
  | 0, _, _, _, _, _ => none
  | k + 1, v124, v125, v126, v127, v128 =>
  (if (decide (v128 < (a1.length : Int))) then passkeylaw29ChallengeOnceJ13 (passkeylaw29ChallengeOnceL12 a1 a2 a3 k) a1 a2 a3 v124 v125 v126 v127 v128 (decide (v128 < (20 : Int))) else passkeylaw29ChallengeOnceJ13 (passkeylaw29ChallengeOnceL12 a1 a2 a3 k) a1 a2 a3 v124 v125 v126 v127 v128 false)
/-- passkey/passkeylaw29.ChallengeOnce -/
def passkeylaw29ChallengeOnce (a0 : BitVec 64) (a1 : List (BitVec 8)) (a2 : List (BitVec 8)) (a3 : BitVec 8) : Option (Bool) :=
  ((challengeNew a0).bind fun y5 => passkeylaw29ChallengeOnceL12 a1 a2 a3 FUEL y5.Secret y5.Count y5.Open ([] : List (List (BitVec 8))) (0 : Int))

def passkeylaw29ChallengeFullJ1  : Option (Bool) :=
  ((passkeylaw29awake ).bind fun y12 => some y12)
def passkeylaw29ChallengeFullJ3 (q2 : (BitVec 64) → Int → (List (TApiChallenge)) → Int → Option (Bool)) (v20 : Int) (v26 : BitVec 64) (v27 : Int) (v28 : List (TApiChallenge)) : Option (Bool) :=
  q2 v26 v27 v28 (w64 (v20 + (1 : Int)))
def passkeylaw29ChallengeFullJ5 (q2 : (BitVec 64) → Int → (List (TApiChallenge)) → Int → Option (Bool)) (v20 : Int) (y38 : TApiChallenges × (List (BitVec 8)) × Int) (v45 : Bool) : Option (Bool) :=
  (if v45 then some false else passkeylaw29ChallengeFullJ3 q2 v20 y38.1.Secret y38.1.Count y38.1.Open)
def passkeylaw29ChallengeFullJ4 (q2 : (BitVec 64) → Int → (List (TApiChallenge)) → Int → Option (Bool)) (v20 : Int) (y38 : TApiChallenges × (List (BitVec 8)) × Int) (v42 : Int) : Option (Bool) :=
  (if (!((y38.2.2 == (0 : Int)) == (decide (v42 < (32 : Int))))) then passkeylaw29ChallengeFullJ5 q2 v20 y38 true else (if (y38.2.2 != (0 : Int)) then (if (y38.2.2 != (12 : Int)) then passkeylaw29ChallengeFullJ5 q2 v20 y38 true else passkeylaw29ChallengeFullJ5 q2 v20 y38 (decide ((32 : Int) < (y38.1.Open.length : Int)))) else passkeylaw29ChallengeFullJ5 q2 v20 y38 (decide ((32 : Int) < (y38.1.Open.length : Int)))))
def passkeylaw29ChallengeFullJ7 (q6 : Int → Int → Option (Bool)) (v59 : Int) (v65 : Int) : Option (Bool) :=
  q6 v65 (w64 (v59 + (1 : Int)))
def passkeylaw29ChallengeFullL6 (q2 : (BitVec 64) → Int → (List (TApiChallenge)) → Int → Option (Bool)) (v19 : List (TApiChallenge)) (v20 : Int) (v34 : Int) (y38 : TApiChallenges × (List (BitVec 8)) × Int) : Nat → Int → Int → Option (Bool)
  | 0, _, _ => none
  | k + 1, v58, v59 =>
  (if (decide (v59 < (v19.length : Int))) then (asq (0 ≤ v59 ∧ v59 < (v19.length : Int)) (lett (w64 (v34 - ((v19.getD v59.toNat (TApiChallenge.mk (0 : Int) (0 : Int) ([] : List (BitVec 8)) false (0 : Int))).Since))) fun v72 => (if (decide (v72 ≤ (60 : Int))) then passkeylaw29ChallengeFullJ7 (passkeylaw29ChallengeFullL6 q2 v19 v20 v34 y38 k) v59 (w64 (v58 + (1 : Int))) else passkeylaw29ChallengeFullJ7 (passkeylaw29ChallengeFullL6 q2 v19 v20 v34 y38 k) v59 v58))) else passkeylaw29ChallengeFullJ4 q2 v20 y38 v58)
def passkeylaw29ChallengeFullL2 (a1 : BitVec 8) (a2 : BitVec 8) : Nat → (BitVec 64) → Int → (List (TApiChallenge)) → Int → Option (Bool)
  | 0, _, _, _, _ => none
  | k + 1, v17, v18, v19, v20 =>
  (if (decide (v20 < (w64 ((40 : Int) + ((a2 % (40#8)).toNat : Int))))) then (lett (w64 (v20 * (w64 ((1 : Int) + ((a1 % (5#8)).toNat : Int))))) fun v34 => ((challengeIssue (TApiChallenges.mk v17 v18 v19) (2 : Int) ([] : List (BitVec 8)) false v34).bind fun y38 => passkeylaw29ChallengeFullL6 (passkeylaw29ChallengeFullL2 a1 a2 k) v19 v20 v34 y38 FUEL (0 : Int) (0 : Int))) else passkeylaw29ChallengeFullJ1)
/-- passkey/passkeylaw29.ChallengeFull -/
def passkeylaw29ChallengeFull (a0 : BitVec 64) (a1 : BitVec 8) (a2 : BitVec 8) : Option (Bool) :=
  ((challengeNew a0).bind fun y5 => passkeylaw29ChallengeFullL2 a1 a2 FUEL y5.Secret y5.Count y5.Open (0 : Int))

end Go.Proofs.Ty
