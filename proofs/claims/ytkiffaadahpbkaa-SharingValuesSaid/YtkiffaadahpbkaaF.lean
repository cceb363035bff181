/- What the Go functions compute, as plain functions. PRINTED by a program of this session (ty.py). -/
import Derived.Test.YtkiffaadahpbkaaRc
set_option linter.unusedVariables false
set_option linter.unusedSimpArgs false
set_option maxHeartbeats 4000000
set_option maxRecDepth 10000
namespace Go.Proofs.Ty
open Go Go.RW
def FUEL : Nat := 18446744073709551616
structure TApiShare where
  X : Int
  Data : List (BitVec 8)
deriving DecidableEq, Inhabited
def okTApiShare (s : TApiShare) : Prop := okI s.X ∧ (okL okT) s.Data ∧ True
def eTApiShare (s : TApiShare) : D := .agg [eI s.X, (eL 1 eU8) s.Data]
structure TA4BitVec64 where
  c0 : BitVec 64
  c1 : BitVec 64
  c2 : BitVec 64
  c3 : BitVec 64
deriving DecidableEq, Inhabited
def eTA4BitVec64 (s : TA4BitVec64) : D := .agg [eU64 s.c0, eU64 s.c1, eU64 s.c2, eU64 s.c3]
structure TPasskeycastDeck where
  l : List (Int)
  atX : Int
deriving DecidableEq, Inhabited
def okTPasskeycastDeck (s : TPasskeycastDeck) : Prop := (okL okI) s.l ∧ okI s.atX ∧ True
def eTPasskeycastDeck (s : TPasskeycastDeck) : D := .agg [(eL 1 eI) s.l, eI s.atX]
def sharingMulJ1 (v5 : BitVec 8) : Option (BitVec 8) :=
  some v5
def sharingMulJ3 (q2 : (BitVec 8) → (BitVec 8) → (BitVec 8) → Option (BitVec 8)) (v11 : BitVec 8) (v18 : BitVec 8) (v19 : BitVec 8) : Option (BitVec 8) :=
  q2 v18 (v11 >>> 1) v19
def sharingMulJ4 (q2 : (BitVec 8) → (BitVec 8) → (BitVec 8) → Option (BitVec 8)) (v10 : BitVec 8) (v11 : BitVec 8) (v23 : BitVec 8) : Option (BitVec 8) :=
  (if (decide ((128#8).toNat ≤ v10.toNat)) then sharingMulJ3 q2 v11 ((v10 <<< 1) ^^^ (27#8)) v23 else sharingMulJ3 q2 v11 (v10 <<< 1) v23)
def sharingMulL2  : Nat → (BitVec 8) → (BitVec 8) → (BitVec 8) → Option (BitVec 8)
  | 0, _, _, _ => none
  | k + 1, v10, v11, v12 =>
  (if (decide ((0#8).toNat < v11.toNat)) then (if ((v11 &&& (1#8)) == (1#8)) then sharingMulJ4 (sharingMulL2 k) v10 v11 (v12 ^^^ v10) else sharingMulJ4 (sharingMulL2 k) v10 v11 v12) else sharingMulJ1 v12)
/-- passkey/sharing.Mul -/
def sharingMul (a0 : BitVec 8) (a1 : BitVec 8) : Option (BitVec 8) :=
  sharingMulL2 FUEL a0 a1 (0#8)

def passkeyref37MulJ1 (v7 : BitVec 8) : Option (BitVec 8) :=
  some v7
def passkeyref37MulJ3 (q2 : (BitVec 8) → (BitVec 64) → (BitVec 64) → Option (BitVec 8)) (v16 : BitVec 64) (v22 : BitVec 8) (v23 : BitVec 64) : Option (BitVec 8) :=
  q2 v22 v23 (v16 + (1#64))
def passkeyref37MulJ4 (q2 : (BitVec 8) → (BitVec 64) → (BitVec 64) → Option (BitVec 8)) (v15 : BitVec 64) (v16 : BitVec 64) (v27 : BitVec 8) : Option (BitVec 8) :=
  (if (((v15 <<< 1) &&& (256#64)) != (0#64)) then passkeyref37MulJ3 q2 v16 v27 ((v15 <<< 1) ^^^ (283#64)) else passkeyref37MulJ3 q2 v16 v27 (v15 <<< 1))
def passkeyref37MulL2 (a1 : BitVec 8) : Nat → (BitVec 8) → (BitVec 64) → (BitVec 64) → Option (BitVec 8)
  | 0, _, _, _ => none
  | k + 1, v14, v15, v16 =>
  (if (decide (v16.toNat < (8#64).toNat)) then (if (((a1 >>> v16.toNat) &&& (1#8)) == (1#8)) then passkeyref37MulJ4 (passkeyref37MulL2 a1 k) v15 v16 (v14 ^^^ (v15.setWidth 8)) else passkeyref37MulJ4 (passkeyref37MulL2 a1 k) v15 v16 v14) else passkeyref37MulJ1 v14)
/-- passkey/passkeyref37.Mul -/
def passkeyref37Mul (a0 : BitVec 8) (a1 : BitVec 8) : Option (BitVec 8) :=
  passkeyref37MulL2 a1 FUEL (0#8) (a0.setWidth 64) (0#64)

def sharingInverseJ1 (v5 : BitVec 8) : Option (BitVec 8) :=
  some v5
def sharingInverseL2  : Nat → (BitVec 8) → (BitVec 8) → Int → Option (BitVec 8)
  | 0, _, _, _ => none
  | k + 1, v12, v13, v14 =>
  (if (decide (v14 < (7 : Int))) then ((sharingMul v12 v12).bind fun y24 => ((sharingMul v13 y24).bind fun y27 => (sharingInverseL2 k) y24 y27 (w64 (v14 + (1 : Int))))) else sharingInverseJ1 v13)
/-- passkey/sharing.Inverse -/
def sharingInverse (a0 : BitVec 8) : Option (BitVec 8) :=
  sharingInverseL2 FUEL a0 (1#8) (0 : Int)

def passkeyref37InverseJ1 (v5 : BitVec 8) : Option (BitVec 8) :=
  some v5
def passkeyref37InverseL2 (a0 : BitVec 8) : Nat → (BitVec 8) → Int → Option (BitVec 8)
  | 0, _, _ => none
  | k + 1, v12, v13 =>
  (if (decide (v13 < (254 : Int))) then ((passkeyref37Mul v12 a0).bind fun y22 => (passkeyref37InverseL2 a0 k) y22 (w64 (v13 + (1 : Int)))) else passkeyref37InverseJ1 v12)
/-- passkey/passkeyref37.Inverse -/
def passkeyref37Inverse (a0 : BitVec 8) : Option (BitVec 8) :=
  passkeyref37InverseL2 a0 FUEL (1#8) (0 : Int)

def sharingSplitJ2 (v24 : List (TApiShare)) : Option ((List (TApiShare)) × Int) :=
  some (v24, (0 : Int))
def sharingSplitJ4 (q3 : (List (TApiShare)) → Int → Option ((List (TApiShare)) × Int)) (v32 : Int) (v38 : List (TApiShare)) : Option ((List (TApiShare)) × Int) :=
  q3 v38 (w64 (v32 + (1 : Int)))
def sharingSplitJ5 (q3 : (List (TApiShare)) → Int → Option ((List (TApiShare)) × Int)) (v31 : List (TApiShare)) (v32 : Int) (v49 : List (BitVec 8)) : Option ((List (TApiShare)) × Int) :=
  (asq (0 ≤ v32 ∧ v32 < (v31.length : Int)) (sharingSplitJ4 q3 v32 (v31.set (0 + v32.toNat) (TApiShare.mk (w64 (v32 + (1 : Int))) v49))))
def sharingSplitJ7 (q6 : (List (BitVec 8)) → Int → Option ((List (TApiShare)) × Int)) (v57 : Int) (v63 : List (BitVec 8)) : Option ((List (TApiShare)) × Int) :=
  q6 v63 (w64 (v57 + (1 : Int)))
def sharingSplitJ8 (q6 : (List (BitVec 8)) → Int → Option ((List (TApiShare)) × Int)) (a0 : List (BitVec 8)) (v56 : List (BitVec 8)) (v57 : Int) (v71 : BitVec 8) : Option ((List (TApiShare)) × Int) :=
  (asq (0 ≤ v57 ∧ v57 < (a0.length : Int)) (asq (0 ≤ v57 ∧ v57 < (v56.length : Int)) (sharingSplitJ7 q6 v57 (v56.set (0 + v57.toNat) (v71 ^^^ (a0.getD v57.toNat 0#8))))))
def sharingSplitL9 (q6 : (List (BitVec 8)) → Int → Option ((List (TApiShare)) × Int)) (a0 : List (BitVec 8)) (a1 : List (BitVec 8)) (v32 : Int) (v56 : List (BitVec 8)) (v57 : Int) : Nat → (BitVec 8) → Int → Option ((List (TApiShare)) × Int)
  | 0, _, _ => none
  | k + 1, v79, v80 =>
  (if (decide ((0 : Int) < v80)) then (lett (w64 ((w64 ((w64 (v80 - (1 : Int))) * (a0.length : Int))) + v57)) fun v89 => (asq (0 ≤ v89 ∧ v89 < (a1.length : Int)) ((sharingMul (v79 ^^^ (a1.getD v89.toNat 0#8)) (BitVec.ofInt 8 (w64 (v32 + (1 : Int))))).bind fun y92 => (sharingSplitL9 q6 a0 a1 v32 v56 v57 k) y92 (w64 (v80 - (1 : Int)))))) else sharingSplitJ8 q6 a0 v56 v57 v79)
def sharingSplitL6 (q3 : (List (TApiShare)) → Int → Option ((List (TApiShare)) × Int)) (a0 : List (BitVec 8)) (a1 : List (BitVec 8)) (a2 : Int) (v31 : List (TApiShare)) (v32 : Int) : Nat → (List (BitVec 8)) → Int → Option ((List (TApiShare)) × Int)
  | 0, _, _ => none
  | k + 1, v56, v57 =>
  (if (decide (v57 < (((List.replicate (a0.length : Int).toNat 0#8)).length : Int))) then sharingSplitL9 (sharingSplitL6 q3 a0 a1 a2 v31 v32 k) a0 a1 v32 v56 v57 FUEL (0#8) (w64 (a2 - (1 : Int))) else sharingSplitJ5 q3 v31 v32 v56)
def sharingSplitL3 (a0 : List (BitVec 8)) (a1 : List (BitVec 8)) (a2 : Int) (a3 : Int) : Nat → (List (TApiShare)) → Int → Option ((List (TApiShare)) × Int)
  | 0, _, _ => none
  | k + 1, v31, v32 =>
  (if (decide (v32 < (((List.replicate a3.toNat (TApiShare.mk (0 : Int) ([] : List (BitVec 8))))).length : Int))) then (asq (0 ≤ (a0.length : Int) ∧ (a0.length : Int) ≤ (a0.length : Int) ∧ (a0.length : Int) ≤ (281474976710656 : Int)) (sharingSplitL6 (sharingSplitL3 a0 a1 a2 a3 k) a0 a1 a2 v31 v32 FUEL (List.replicate (a0.length : Int).toNat 0#8) (0 : Int))) else sharingSplitJ2 v31)
def sharingSplitJ1 (a0 : List (BitVec 8)) (a1 : List (BitVec 8)) (a2 : Int) (a3 : Int) (v10 : Bool) : Option ((List (TApiShare)) × Int) :=
  (if v10 then some ([], (9 : Int)) else (if (decide ((a1.length : Int) < (w64 ((w64 (a2 - (1 : Int))) * (a0.length : Int))))) then some ([], (1 : Int)) else (asq (0 ≤ a3 ∧ a3 ≤ a3 ∧ a3 ≤ (8796093022208 : Int)) (sharingSplitL3 a0 a1 a2 a3 FUEL (List.replicate a3.toNat (TApiShare.mk (0 : Int) ([] : List (BitVec 8)))) (0 : Int)))))
/-- passkey/sharing.Split -/
def sharingSplit (a0 : List (BitVec 8)) (a1 : List (BitVec 8)) (a2 : Int) (a3 : Int) : Option ((List (TApiShare)) × Int) :=
  (if (decide ((64 : Int) < (a0.length : Int))) then some ([], (8 : Int)) else (if (decide (a2 < (1 : Int))) then sharingSplitJ1 a0 a1 a2 a3 true else (if (decide (a3 < a2)) then sharingSplitJ1 a0 a1 a2 a3 true else sharingSplitJ1 a0 a1 a2 a3 (decide ((255 : Int) < a3)))))

def sharingAtJ3 (v22 : List (BitVec 8)) : Option ((List (BitVec 8)) × Int) :=
  some (v22, (0 : Int))
def sharingAtJ5 (q4 : (List (BitVec 8)) → Int → Option ((List (BitVec 8)) × Int)) (v30 : Int) (v36 : List (BitVec 8)) : Option ((List (BitVec 8)) × Int) :=
  q4 v36 (w64 (v30 + (1 : Int)))
def sharingAtL7 (q4 : (List (BitVec 8)) → Int → Option ((List (BitVec 8)) × Int)) (a0 : List (TApiShare)) (v30 : Int) (v45 : BitVec 8) : Nat → (List (BitVec 8)) → Int → Option ((List (BitVec 8)) × Int)
  | 0, _, _ => none
  | k + 1, v50, v51 =>
  (if (decide (v51 < ((((a0.getD v30.toNat (TApiShare.mk (0 : Int) ([] : List (BitVec 8)))).Data)).length : Int))) then (asq (0 ≤ v51 ∧ v51 < ((((a0.getD v30.toNat (TApiShare.mk (0 : Int) ([] : List (BitVec 8)))).Data)).length : Int)) (asq (0 ≤ v51 ∧ v51 < (v50.length : Int)) ((sharingMul v45 (((a0.getD v30.toNat (TApiShare.mk (0 : Int) ([] : List (BitVec 8)))).Data).getD v51.toNat 0#8)).bind fun y64 => (asq (0 ≤ v51 ∧ v51 < (v50.length : Int)) ((sharingAtL7 q4 a0 v30 v45 k) (v50.set (0 + v51.toNat) ((v50.getD (0 + v51.toNat) 0#8) ^^^ y64)) (w64 (v51 + (1 : Int)))))))) else sharingAtJ5 q4 v30 v50)
def sharingAtJ6 (q4 : (List (BitVec 8)) → Int → Option ((List (BitVec 8)) × Int)) (a0 : List (TApiShare)) (v29 : List (BitVec 8)) (v30 : Int) (v45 : BitVec 8) : Option ((List (BitVec 8)) × Int) :=
  sharingAtL7 q4 a0 v30 v45 FUEL v29 (0 : Int)
def sharingAtJ9 (q8 : (BitVec 8) → Int → Option ((List (BitVec 8)) × Int)) (v72 : Int) (v78 : BitVec 8) : Option ((List (BitVec 8)) × Int) :=
  q8 v78 (w64 (v72 + (1 : Int)))
def sharingAtL8 (q4 : (List (BitVec 8)) → Int → Option ((List (BitVec 8)) × Int)) (a0 : List (TApiShare)) (a1 : Int) (v29 : List (BitVec 8)) (v30 : Int) : Nat → (BitVec 8) → Int → Option ((List (BitVec 8)) × Int)
  | 0, _, _ => none
  | k + 1, v71, v72 =>
  (if (decide (v72 < (a0.length : Int))) then (asq (0 ≤ v72 ∧ v72 < (a0.length : Int)) (if (v72 != v30) then (lett (BitVec.ofInt 8 ((a0.getD v72.toNat (TApiShare.mk (0 : Int) ([] : List (BitVec 8)))).X)) fun v89 => (lett (BitVec.ofInt 8 ((a0.getD v30.toNat (TApiShare.mk (0 : Int) ([] : List (BitVec 8)))).X)) fun v91 => (lett (BitVec.ofInt 8 ((a0.getD v72.toNat (TApiShare.mk (0 : Int) ([] : List (BitVec 8)))).X)) fun v93 => ((sharingInverse (v91 ^^^ v93)).bind fun y95 => ((sharingMul ((BitVec.ofInt 8 a1) ^^^ v89) y95).bind fun y97 => ((sharingMul v71 y97).bind fun y99 => sharingAtJ9 (sharingAtL8 q4 a0 a1 v29 v30 k) v72 y99)))))) else sharingAtJ9 (sharingAtL8 q4 a0 a1 v29 v30 k) v72 v71)) else sharingAtJ6 q4 a0 v29 v30 v71)
def sharingAtL4 (a0 : List (TApiShare)) (a1 : Int) : Nat → (List (BitVec 8)) → Int → Option ((List (BitVec 8)) × Int)
  | 0, _, _ => none
  | k + 1, v29, v30 =>
  (if (decide (v30 < (a0.length : Int))) then (asq (0 ≤ v30 ∧ v30 < (a0.length : Int)) (sharingAtL8 (sharingAtL4 a0 a1 k) a0 a1 v29 v30 FUEL (1#8) (0 : Int))) else sharingAtJ3 v29)
def sharingAtJ2 (a0 : List (TApiShare)) (a1 : Int) : Option ((List (BitVec 8)) × Int) :=
  (asq (0 ≤ (0 : Int) ∧ (0 : Int) < (a0.length : Int)) (asq (0 ≤ ((((a0.getD (0 : Int).toNat (TApiShare.mk (0 : Int) ([] : List (BitVec 8)))).Data)).length : Int) ∧ ((((a0.getD (0 : Int).toNat (TApiShare.mk (0 : Int) ([] : List (BitVec 8)))).Data)).length : Int) ≤ ((((a0.getD (0 : Int).toNat (TApiShare.mk (0 : Int) ([] : List (BitVec 8)))).Data)).length : Int) ∧ ((((a0.getD (0 : Int).toNat (TApiShare.mk (0 : Int) ([] : List (BitVec 8)))).Data)).length : Int) ≤ (281474976710656 : Int)) (sharingAtL4 a0 a1 FUEL (List.replicate ((((a0.getD (0 : Int).toNat (TApiShare.mk (0 : Int) ([] : List (BitVec 8)))).Data)).length : Int).toNat 0#8) (0 : Int))))
def sharingAtJ11 (q10 : (List (Bool)) → Int → Option ((List (BitVec 8)) × Int)) (a0 : List (TApiShare)) (v104 : List (Bool)) (v105 : Int) (v118 : Bool) : Option ((List (BitVec 8)) × Int) :=
  (if v118 then some ([], (9 : Int)) else (asq (0 ≤ ((a0.getD v105.toNat (TApiShare.mk (0 : Int) ([] : List (BitVec 8)))).X) ∧ ((a0.getD v105.toNat (TApiShare.mk (0 : Int) ([] : List (BitVec 8)))).X) < (256 : Int)) (asq (((a0.getD v105.toNat (TApiShare.mk (0 : Int) ([] : List (BitVec 8)))).X).toNat < v104.length) (if (v104.getD ((a0.getD v105.toNat (TApiShare.mk (0 : Int) ([] : List (BitVec 8)))).X).toNat false) then some ([], (10 : Int)) else (asq (0 ≤ (0 : Int) ∧ (0 : Int) < (a0.length : Int)) (if (((((a0.getD v105.toNat (TApiShare.mk (0 : Int) ([] : List (BitVec 8)))).Data)).length : Int) != ((((a0.getD (0 : Int).toNat (TApiShare.mk (0 : Int) ([] : List (BitVec 8)))).Data)).length : Int)) then some ([], (4 : Int)) else (if (decide ((64 : Int) < ((((a0.getD v105.toNat (TApiShare.mk (0 : Int) ([] : List (BitVec 8)))).Data)).length : Int))) then some ([], (8 : Int)) else (asq (0 ≤ ((a0.getD v105.toNat (TApiShare.mk (0 : Int) ([] : List (BitVec 8)))).X) ∧ ((a0.getD v105.toNat (TApiShare.mk (0 : Int) ([] : List (BitVec 8)))).X) < (256 : Int)) (asq (((a0.getD v105.toNat (TApiShare.mk (0 : Int) ([] : List (BitVec 8)))).X).toNat < v104.length) (q10 (v104.set (((a0.getD v105.toNat (TApiShare.mk (0 : Int) ([] : List (BitVec 8)))).X).toNat) true) (w64 (v105 + (1 : Int)))))))))))))
def sharingAtL10 (a0 : List (TApiShare)) (a1 : Int) : Nat → (List (Bool)) → Int → Option ((List (BitVec 8)) × Int)
  | 0, _, _ => none
  | k + 1, v104, v105 =>
  (if (decide (v105 < (a0.length : Int))) then (asq (0 ≤ v105 ∧ v105 < (a0.length : Int)) (if (decide (((a0.getD v105.toNat (TApiShare.mk (0 : Int) ([] : List (BitVec 8)))).X) < (1 : Int))) then sharingAtJ11 (sharingAtL10 a0 a1 k) a0 v104 v105 true else sharingAtJ11 (sharingAtL10 a0 a1 k) a0 v104 v105 (decide ((255 : Int) < ((a0.getD v105.toNat (TApiShare.mk (0 : Int) ([] : List (BitVec 8)))).X))))) else sharingAtJ2 a0 a1)
def sharingAtJ1 (a0 : List (TApiShare)) (a1 : Int) (v10 : Bool) : Option ((List (BitVec 8)) × Int) :=
  (if v10 then some ([], (9 : Int)) else sharingAtL10 a0 a1 FUEL (List.replicate 256 false) (0 : Int))
/-- passkey/sharing.At -/
def sharingAt (a0 : List (TApiShare)) (a1 : Int) : Option ((List (BitVec 8)) × Int) :=
  (if ((a0.length : Int) == (0 : Int)) then some ([], (1 : Int)) else (if (decide (a1 < (0 : Int))) then sharingAtJ1 a0 a1 true else sharingAtJ1 a0 a1 (decide ((255 : Int) < a1))))


/-- passkey/sharing.Join -/
def sharingJoin (a0 : List (TApiShare)) : Option ((List (BitVec 8)) × Int) :=
  ((sharingAt a0 (0 : Int)).bind fun y5 => some (y5.1, y5.2))

def passkeylaw37awakeJ1 (y5 : (List (TApiShare)) × Int) (v8 : Bool) : Option (Bool) :=
  (if v8 then some false else (asq (0 ≤ (0 : Int) ∧ (0 : Int) < (y5.1.length : Int)) (asq (0 ≤ (2 : Int) ∧ (2 : Int) < (y5.1.length : Int)) ((sharingJoin ([(y5.1.getD (0 + (0 : Int).toNat) (TApiShare.mk (0 : Int) ([] : List (BitVec 8)))), (y5.1.getD (0 + (2 : Int).toNat) (TApiShare.mk (0 : Int) ([] : List (BitVec 8))))] : List (TApiShare))).bind fun y17 => (if (y17.2 == (0 : Int)) then (if (y17.1 == ([5#8] : List (BitVec 8))) then ((sharingMul (83#8) (202#8)).bind fun y23 => (if (y23 == (1#8)) then ((sharingInverse (83#8)).bind fun y26 => (if (y26 == (202#8)) then ((sharingMul (2#8) (128#8)).bind fun y29 => (if (y29 == (27#8)) then (asq (0 ≤ (1 : Int) ∧ (1 : Int) < (y5.1.length : Int)) (if (((y5.1.getD (0 + (1 : Int).toNat) (TApiShare.mk (0 : Int) ([] : List (BitVec 8)))).X) == (2 : Int)) then (asq (0 ≤ (1 : Int) ∧ (1 : Int) < (y5.1.length : Int)) (some (((y5.1.getD (0 + (1 : Int).toNat) (TApiShare.mk (0 : Int) ([] : List (BitVec 8)))).Data) == ([3#8] : List (BitVec 8))))) else some false)) else some false)) else some false)) else some false)) else some false) else some false)))))
/-- passkey/passkeylaw37.awake -/
def passkeylaw37awake  : Option (Bool) :=
  ((sharingSplit ([(5#8)] : List (BitVec 8)) ([(3#8)] : List (BitVec 8)) (2 : Int) (3 : Int)).bind fun y5 => (if (y5.2 != (0 : Int)) then passkeylaw37awakeJ1 y5 true else passkeylaw37awakeJ1 y5 ((y5.1.length : Int) != (3 : Int))))


/-- passkey/passkeylaw37.SharingField -/
def passkeylaw37SharingField (a0 : BitVec 8) (a1 : BitVec 8) (a2 : BitVec 8) : Option (Bool) :=
  ((sharingMul a0 a1).bind fun y5 => ((passkeyref37Mul a0 a1).bind fun y9 => (if (y5 == y9) then ((sharingMul a1 a0).bind fun y12 => (if (y5 == y12) then ((sharingMul y5 a2).bind fun y15 => ((sharingMul a1 a2).bind fun y17 => ((sharingMul a0 y17).bind fun y19 => (if (y15 == y19) then ((sharingMul a0 (a1 ^^^ a2)).bind fun y22 => ((sharingMul a0 a2).bind fun y24 => (if (y22 == (y5 ^^^ y24)) then ((sharingMul a0 (1#8)).bind fun y27 => (if (y27 == a0) then ((sharingMul a0 (0#8)).bind fun y30 => (if (y30 == (0#8)) then ((sharingInverse a0).bind fun y33 => ((passkeyref37Inverse a0).bind fun y35 => (if (y33 == y35) then (if (a0 == (0#8)) then ((passkeylaw37awake ).bind fun y39 => some y39) else ((sharingInverse a0).bind fun y41 => ((sharingMul a0 y41).bind fun y43 => (if (y43 == (1#8)) then ((passkeylaw37awake ).bind fun y46 => some y46) else some false)))) else some false))) else some false)) else some false)) else some false))) else some false)))) else some false)) else some false)))


/-- passkey/passkeycast.Mod -/
def passkeycastMod (a0 : Int) (a1 : Int) : Option (Int) :=
  (asq ((BitVec.ofInt 64 a1) ≠ 0#64) (some (((BitVec.ofInt 64 a0) % (BitVec.ofInt 64 a1)).toInt)))

def passkeyref1WordsJ1 (v5 : List (BitVec 8)) : Option (List (BitVec 8)) :=
  some v5
def passkeyref1WordsJ3 (q2 : (List (BitVec 8)) → Int → Option (List (BitVec 8))) (v13 : Int) (v19 : List (BitVec 8)) : Option (List (BitVec 8)) :=
  q2 v19 (w64 (v13 + (1 : Int)))
def passkeyref1WordsL4 (q2 : (List (BitVec 8)) → Int → Option (List (BitVec 8))) (a0 : List (BitVec 64)) (v13 : Int) : Nat → (List (BitVec 8)) → Int → Option (List (BitVec 8))
  | 0, _, _ => none
  | k + 1, v26, v27 =>
  (if (decide ((0 : Int) ≤ v27)) then (asq (0 ≤ v13 ∧ v13 < (a0.length : Int)) (lett ((a0.getD v13.toNat 0#64) >>> (BitVec.ofInt 64 (w64 ((8 : Int) * v27))).toNat) fun v37 => (asq (((v26 ++ ([(v37.setWidth 8)] : List (BitVec 8)))).length ≤ 140737488355328) ((passkeyref1WordsL4 q2 a0 v13 k) (v26 ++ ([(v37.setWidth 8)] : List (BitVec 8))) (w64 (v27 - (1 : Int))))))) else passkeyref1WordsJ3 q2 v13 v26)
def passkeyref1WordsL2 (a0 : List (BitVec 64)) : Nat → (List (BitVec 8)) → Int → Option (List (BitVec 8))
  | 0, _, _ => none
  | k + 1, v12, v13 =>
  (if (decide (v13 < (a0.length : Int))) then passkeyref1WordsL4 (passkeyref1WordsL2 a0 k) a0 v13 FUEL v12 (7 : Int) else passkeyref1WordsJ1 v12)
/-- passkey/passkeyref1.Words -/
def passkeyref1Words (a0 : List (BitVec 64)) : Option (List (BitVec 8)) :=
  passkeyref1WordsL2 a0 FUEL ([] : List (BitVec 8)) (0 : Int)


/-- passkey/passkeyref1.rotl -/
def passkeyref1rotl (a0 : BitVec 64) (a1 : BitVec 64) : Option (BitVec 64) :=
  some ((a0 <<< a1.toNat) ||| (a0 >>> ((64#64) - a1).toNat))


/-- passkey/passkeyref1.round -/
def passkeyref1round (a0 : TA4BitVec64) : Option (TA4BitVec64) :=
  ((passkeyref1rotl a0.c1 (13#64)).bind fun y7 => ((passkeyref1rotl (a0.c0 + a0.c1) (32#64)).bind fun y11 => ((passkeyref1rotl a0.c3 (16#64)).bind fun y17 => ((passkeyref1rotl (y17 ^^^ (a0.c2 + a0.c3)) (21#64)).bind fun y23 => ((passkeyref1rotl (y7 ^^^ (a0.c0 + a0.c1)) (17#64)).bind fun y29 => ((passkeyref1rotl ((a0.c2 + a0.c3) + (y7 ^^^ (a0.c0 + a0.c1))) (32#64)).bind fun y33 => some (TA4BitVec64.mk (y11 + (y17 ^^^ (a0.c2 + a0.c3))) (y29 ^^^ ((a0.c2 + a0.c3) + (y7 ^^^ (a0.c0 + a0.c1)))) y33 (y23 ^^^ (y11 + (y17 ^^^ (a0.c2 + a0.c3)))))))))))

def passkeyref1SumJ1 (v5 : BitVec 64) (v6 : BitVec 64) (v7 : BitVec 64) (v8 : BitVec 64) : Option (BitVec 64) :=
  ((passkeyref1round (TA4BitVec64.mk v5 v6 (v7 ^^^ (255#64)) v8)).bind fun y14 => ((passkeyref1round y14).bind fun y16 => ((passkeyref1round y16).bind fun y18 => ((passkeyref1round y18).bind fun y20 => some (((y20.c0 ^^^ y20.c1) ^^^ y20.c2) ^^^ y20.c3)))))
def passkeyref1SumJ3 (q2 : (BitVec 64) → (BitVec 64) → (BitVec 64) → (BitVec 64) → Int → Option (BitVec 64)) (v31 : Int) (v37 : BitVec 64) (v38 : BitVec 64) (v39 : BitVec 64) (v40 : BitVec 64) : Option (BitVec 64) :=
  q2 v37 v38 v39 v40 (w64 (v31 + (8 : Int)))
def passkeyref1SumJ4 (q2 : (BitVec 64) → (BitVec 64) → (BitVec 64) → (BitVec 64) → Int → Option (BitVec 64)) (v27 : BitVec 64) (v28 : BitVec 64) (v29 : BitVec 64) (v30 : BitVec 64) (v31 : Int) (v46 : BitVec 64) : Option (BitVec 64) :=
  ((passkeyref1round (TA4BitVec64.mk v27 v28 v29 (v30 ^^^ v46))).bind fun y52 => ((passkeyref1round y52).bind fun y54 => passkeyref1SumJ3 q2 v31 (y54.c0 ^^^ v46) y54.c1 y54.c2 y54.c3))
def passkeyref1SumJ6 (q5 : (BitVec 64) → Int → Option (BitVec 64)) (v60 : BitVec 64) (v61 : Int) (v71 : BitVec 8) : Option (BitVec 64) :=
  q5 ((v60 <<< 8) ||| (v71.setWidth 64)) (w64 (v61 - (1 : Int)))
def passkeyref1SumL5 (q2 : (BitVec 64) → (BitVec 64) → (BitVec 64) → (BitVec 64) → Int → Option (BitVec 64)) (a2 : List (BitVec 8)) (v27 : BitVec 64) (v28 : BitVec 64) (v29 : BitVec 64) (v30 : BitVec 64) (v31 : Int) : Nat → (BitVec 64) → Int → Option (BitVec 64)
  | 0, _, _ => none
  | k + 1, v60, v61 =>
  (if (decide ((0 : Int) ≤ v61)) then (if (decide ((w64 (v31 + v61)) < (a2.length : Int))) then (asq (0 ≤ (w64 (v31 + v61)) ∧ (w64 (v31 + v61)) < (a2.length : Int)) (passkeyref1SumJ6 (passkeyref1SumL5 q2 a2 v27 v28 v29 v30 v31 k) v60 v61 (a2.getD (w64 (v31 + v61)).toNat 0#8))) else (if (v61 == (7 : Int)) then passkeyref1SumJ6 (passkeyref1SumL5 q2 a2 v27 v28 v29 v30 v31 k) v60 v61 (BitVec.ofInt 8 (a2.length : Int)) else passkeyref1SumJ6 (passkeyref1SumL5 q2 a2 v27 v28 v29 v30 v31 k) v60 v61 (0#8))) else passkeyref1SumJ4 q2 v27 v28 v29 v30 v31 v60)
def passkeyref1SumL2 (a2 : List (BitVec 8)) : Nat → (BitVec 64) → (BitVec 64) → (BitVec 64) → (BitVec 64) → Int → Option (BitVec 64)
  | 0, _, _, _, _, _ => none
  | k + 1, v27, v28, v29, v30, v31 =>
  (if (decide (v31 ≤ (a2.length : Int))) then passkeyref1SumL5 (passkeyref1SumL2 a2 k) a2 v27 v28 v29 v30 v31 FUEL (0#64) (7 : Int) else passkeyref1SumJ1 v27 v28 v29 v30)
/-- passkey/passkeyref1.Sum -/
def passkeyref1Sum (a0 : BitVec 64) (a1 : BitVec 64) (a2 : List (BitVec 8)) : Option (BitVec 64) :=
  passkeyref1SumL2 a2 FUEL (a0 ^^^ (8317987319222330741#64)) (a1 ^^^ (7237128888997146477#64)) (a0 ^^^ (7816392313619706465#64)) (a1 ^^^ (8387220255154660723#64)) (0 : Int)


/-- passkey/passkeyref1.Mac -/
def passkeyref1Mac (a0 : BitVec 64) (a1 : Int) (a2 : List (BitVec 8)) : Option (BitVec 64) :=
  ((passkeyref1Sum a0 ((1#64) + (BitVec.ofInt 64 a1)) a2).bind fun y5 => some y5)

def passkeyref3StreamJ1 (v5 : Int) (v9 : List (BitVec 8)) : Option (List (BitVec 8)) :=
  (asq (0 ≤ v5 ∧ v5 ≤ (v9.length : Int)) (some ((v9.drop (0 + 0)).take (v5.toNat - 0))))
def passkeyref3StreamL2 (a0 : BitVec 64) (a1 : BitVec 64) (v5 : Int) : Nat → (List (BitVec 8)) → Int → Option (List (BitVec 8))
  | 0, _, _ => none
  | k + 1, v17, v18 =>
  (if (decide ((v17.length : Int) < v5)) then ((passkeyref1Words ([a1, (BitVec.ofInt 64 v18)] : List (BitVec 64))).bind fun y27 => ((passkeyref1Mac a0 (5 : Int) y27).bind fun y29 => ((passkeyref1Words ([y29] : List (BitVec 64))).bind fun y31 => (asq (((v17 ++ y31)).length ≤ 140737488355328) ((passkeyref3StreamL2 a0 a1 v5 k) (v17 ++ y31) (w64 (v18 + (1 : Int)))))))) else passkeyref3StreamJ1 v5 v17)
/-- passkey/passkeyref3.Stream -/
def passkeyref3Stream (a0 : BitVec 64) (a1 : BitVec 64) (a2 : Int) : Option (List (BitVec 8)) :=
  (lett (if (1024 : Int) < (if (0 : Int) > a2 then (0 : Int) else a2) then (1024 : Int) else (if (0 : Int) > a2 then (0 : Int) else a2)) fun v5 => passkeyref3StreamL2 a0 a1 v5 FUEL ([] : List (BitVec 8)) (0 : Int))


/-- passkey/passkeycast.Bytes -/
def passkeycastBytes (a0 : Int) (a1 : Int) : Option (List (BitVec 8)) :=
  (lett (if (0 : Int) > (if (1024 : Int) < a1 then (1024 : Int) else a1) then (0 : Int) else (if (1024 : Int) < a1 then (1024 : Int) else a1)) fun v5 => ((passkeyref3Stream ((BitVec.ofInt 64 a0) + (1#64)) (7#64) v5).bind fun y7 => some y7))

def passkeyref37SplitJ2 (v22 : List (TApiShare)) : Option ((List (TApiShare)) × Int) :=
  some (v22, (0 : Int))
def passkeyref37SplitJ4 (q3 : (List (TApiShare)) → Int → Option ((List (TApiShare)) × Int)) (v30 : Int) (v36 : List (TApiShare)) : Option ((List (TApiShare)) × Int) :=
  q3 v36 (w64 (v30 + (1 : Int)))
def passkeyref37SplitJ5 (q3 : (List (TApiShare)) → Int → Option ((List (TApiShare)) × Int)) (v29 : List (TApiShare)) (v30 : Int) (v42 : List (BitVec 8)) : Option ((List (TApiShare)) × Int) :=
  (asq (((v29 ++ ([(TApiShare.mk v30 v42)] : List (TApiShare)))).length ≤ 4398046511104) (passkeyref37SplitJ4 q3 v30 (v29 ++ ([(TApiShare.mk v30 v42)] : List (TApiShare)))))
def passkeyref37SplitJ7 (q6 : (List (BitVec 8)) → Int → Option ((List (TApiShare)) × Int)) (v50 : Int) (v56 : List (BitVec 8)) : Option ((List (TApiShare)) × Int) :=
  q6 v56 (w64 (v50 + (1 : Int)))
def passkeyref37SplitJ8 (q6 : (List (BitVec 8)) → Int → Option ((List (TApiShare)) × Int)) (v49 : List (BitVec 8)) (v50 : Int) (v63 : BitVec 8) : Option ((List (TApiShare)) × Int) :=
  (asq (((v49 ++ ([v63] : List (BitVec 8)))).length ≤ 140737488355328) (passkeyref37SplitJ7 q6 v50 (v49 ++ ([v63] : List (BitVec 8)))))
def passkeyref37SplitL9 (q6 : (List (BitVec 8)) → Int → Option ((List (TApiShare)) × Int)) (a0 : List (BitVec 8)) (a1 : List (BitVec 8)) (a2 : Int) (v30 : Int) (v49 : List (BitVec 8)) (v50 : Int) : Nat → (BitVec 8) → (BitVec 8) → Int → Option ((List (TApiShare)) × Int)
  | 0, _, _, _ => none
  | k + 1, v70, v71, v72 =>
  (if (decide (v72 < a2)) then ((passkeyref37Mul v71 (BitVec.ofInt 8 v30)).bind fun y82 => (lett (w64 ((w64 ((w64 (v72 - (1 : Int))) * (a0.length : Int))) + v50)) fun v85 => (asq (0 ≤ v85 ∧ v85 < (a1.length : Int)) ((passkeyref37Mul (a1.getD v85.toNat 0#8) y82).bind fun y88 => (passkeyref37SplitL9 q6 a0 a1 a2 v30 v49 v50 k) (v70 ^^^ y88) y82 (w64 (v72 + (1 : Int))))))) else passkeyref37SplitJ8 q6 v49 v50 v70)
def passkeyref37SplitL6 (q3 : (List (TApiShare)) → Int → Option ((List (TApiShare)) × Int)) (a0 : List (BitVec 8)) (a1 : List (BitVec 8)) (a2 : Int) (v29 : List (TApiShare)) (v30 : Int) : Nat → (List (BitVec 8)) → Int → Option ((List (TApiShare)) × Int)
  | 0, _, _ => none
  | k + 1, v49, v50 =>
  (if (decide (v50 < (a0.length : Int))) then (asq (0 ≤ v50 ∧ v50 < (a0.length : Int)) (passkeyref37SplitL9 (passkeyref37SplitL6 q3 a0 a1 a2 v29 v30 k) a0 a1 a2 v30 v49 v50 FUEL (a0.getD v50.toNat 0#8) (1#8) (1 : Int))) else passkeyref37SplitJ5 q3 v29 v30 v49)
def passkeyref37SplitL3 (a0 : List (BitVec 8)) (a1 : List (BitVec 8)) (a2 : Int) (a3 : Int) : Nat → (List (TApiShare)) → Int → Option ((List (TApiShare)) × Int)
  | 0, _, _ => none
  | k + 1, v29, v30 =>
  (if (decide (v30 ≤ a3)) then passkeyref37SplitL6 (passkeyref37SplitL3 a0 a1 a2 a3 k) a0 a1 a2 v29 v30 FUEL ([] : List (BitVec 8)) (0 : Int) else passkeyref37SplitJ2 v29)
def passkeyref37SplitJ1 (a0 : List (BitVec 8)) (a1 : List (BitVec 8)) (a2 : Int) (a3 : Int) (v10 : Bool) : Option ((List (TApiShare)) × Int) :=
  (if v10 then some ([], (9 : Int)) else (if (decide ((a1.length : Int) < (w64 ((w64 (a2 - (1 : Int))) * (a0.length : Int))))) then some ([], (1 : Int)) else passkeyref37SplitL3 a0 a1 a2 a3 FUEL ([] : List (TApiShare)) (1 : Int)))
/-- passkey/passkeyref37.Split -/
def passkeyref37Split (a0 : List (BitVec 8)) (a1 : List (BitVec 8)) (a2 : Int) (a3 : Int) : Option ((List (TApiShare)) × Int) :=
  (if (decide ((64 : Int) < (a0.length : Int))) then some ([], (8 : Int)) else (if (decide (a2 < (1 : Int))) then passkeyref37SplitJ1 a0 a1 a2 a3 true else (if (decide (a3 < a2)) then passkeyref37SplitJ1 a0 a1 a2 a3 true else passkeyref37SplitJ1 a0 a1 a2 a3 (decide ((255 : Int) < a3)))))

def passkeyref37SameSharesJ1  : Option (Bool) :=
  some true
def passkeyref37SameSharesJ3 (q2 : Int → Option (Bool)) (v15 : Int) (v23 : Bool) : Option (Bool) :=
  (if v23 then some false else q2 (w64 (v15 + (1 : Int))))
def passkeyref37SameSharesL2 (a0 : List (TApiShare)) (a1 : List (TApiShare)) : Nat → Int → Option (Bool)
  | 0, _ => none
  | k + 1, v15 =>
  (if (decide (v15 < (a0.length : Int))) then (asq (0 ≤ v15 ∧ v15 < (a0.length : Int)) (asq (0 ≤ v15 ∧ v15 < (a1.length : Int)) (if (((a0.getD v15.toNat (TApiShare.mk (0 : Int) ([] : List (BitVec 8)))).X) != ((a1.getD v15.toNat (TApiShare.mk (0 : Int) ([] : List (BitVec 8)))).X)) then passkeyref37SameSharesJ3 (passkeyref37SameSharesL2 a0 a1 k) v15 true else (asq (0 ≤ v15 ∧ v15 < (a0.length : Int)) (asq (0 ≤ v15 ∧ v15 < (a1.length : Int)) (passkeyref37SameSharesJ3 (passkeyref37SameSharesL2 a0 a1 k) v15 (!(((a0.getD v15.toNat (TApiShare.mk (0 : Int) ([] : List (BitVec 8)))).Data) == ((a1.getD v15.toNat (TApiShare.mk (0 : Int) ([] : List (BitVec 8)))).Data))))))))) else passkeyref37SameSharesJ1)
/-- passkey/passkeyref37.SameShares -/
def passkeyref37SameShares (a0 : List (TApiShare)) (a1 : List (TApiShare)) : Option (Bool) :=
  (if ((a0.length : Int) != (a1.length : Int)) then some false else passkeyref37SameSharesL2 a0 a1 FUEL (0 : Int))

def passkeylaw37SharingSplitsJ1 (a0 : List (BitVec 8)) (a1 : List (BitVec 8)) (a2 : Int) (a3 : Int) (a4 : Int) (v4 : Bool) : Option (Bool) :=
  (if v4 then ((passkeylaw37awake ).bind fun y9 => some y9) else ((passkeycastMod a2 (7 : Int)).bind fun y13 => ((passkeycastMod a3 (9 : Int)).bind fun y15 => ((passkeycastMod a4 (50 : Int)).bind fun y19 => ((passkeycastBytes y19 (8 : Int)).bind fun y21 => ((passkeycastMod a4 (50 : Int)).bind fun y25 => ((passkeycastMod y13 (7 : Int)).bind fun y27 => ((passkeycastBytes (w64 (y25 + (9 : Int))) (w64 ((8 : Int) * y27))).bind fun y29 => ((sharingSplit a0 a1 a2 a3).bind fun y33 => ((passkeyref37Split a0 a1 a2 a3).bind fun y37 => ((sharingSplit y21 y29 y13 y15).bind fun y41 => ((passkeyref37Split y21 y29 y13 y15).bind fun y45 => ((sharingSplit a0 a1 y13 y15).bind fun y49 => ((passkeyref37Split a0 a1 y13 y15).bind fun y53 => ((passkeyref37SameShares y33.1 y37.1).bind fun y57 => (if y57 then (if (y33.2 == y37.2) then ((passkeyref37SameShares y41.1 y45.1).bind fun y61 => (if y61 then (if (y41.2 == y45.2) then ((passkeyref37SameShares y49.1 y53.1).bind fun y65 => (if y65 then (if (y49.2 == y53.2) then ((passkeylaw37awake ).bind fun y69 => some y69) else some false) else some false)) else some false) else some false)) else some false) else some false))))))))))))))))
/-- passkey/passkeylaw37.SharingSplits -/
def passkeylaw37SharingSplits (a0 : List (BitVec 8)) (a1 : List (BitVec 8)) (a2 : Int) (a3 : Int) (a4 : Int) : Option (Bool) :=
  (if (decide ((100 : Int) < (a0.length : Int))) then passkeylaw37SharingSplitsJ1 a0 a1 a2 a3 a4 true else passkeylaw37SharingSplitsJ1 a0 a1 a2 a3 a4 (decide ((2000 : Int) < (a1.length : Int))))


/-- passkey/passkeycast.New -/
def passkeycastNew (a0 : List (Int)) : Option (TPasskeycastDeck) :=
  some (TPasskeycastDeck.mk a0 (0 : Int))


/-- (*passkey/passkeycast.Deck).Next -/
def passkeycastDeckNext (a0 : TPasskeycastDeck) (a1 : Int) : Option (Int × TPasskeycastDeck) :=
  (if (decide ((a0.l.length : Int) ≤ a0.atX)) then some ((0 : Int), (TPasskeycastDeck.mk a0.l a0.atX)) else (asq (0 ≤ (w64 ((w64 (a0.atX + (1 : Int))) - (1 : Int))) ∧ (w64 ((w64 (a0.atX + (1 : Int))) - (1 : Int))) < (a0.l.length : Int)) ((passkeycastMod (a0.l.getD (w64 ((w64 (a0.atX + (1 : Int))) - (1 : Int))).toNat (0 : Int)) a1).bind fun y14 => some (y14, (TPasskeycastDeck.mk a0.l (w64 (a0.atX + (1 : Int))))))))

def passkeyref37shareJ2 (a0 : List (TApiShare)) (a1 : Int) : Option (Int) :=
  (asq (0 ≤ a1 ∧ a1 < (a0.length : Int)) (asq (0 ≤ (0 : Int) ∧ (0 : Int) < (a0.length : Int)) (if (((((a0.getD a1.toNat (TApiShare.mk (0 : Int) ([] : List (BitVec 8)))).Data)).length : Int) != ((((a0.getD (0 : Int).toNat (TApiShare.mk (0 : Int) ([] : List (BitVec 8)))).Data)).length : Int)) then some (4 : Int) else (asq (0 ≤ a1 ∧ a1 < (a0.length : Int)) (if (decide ((64 : Int) < ((((a0.getD a1.toNat (TApiShare.mk (0 : Int) ([] : List (BitVec 8)))).Data)).length : Int))) then some (8 : Int) else some (0 : Int))))))
def passkeyref37shareL3 (a0 : List (TApiShare)) (a1 : Int) : Nat → Int → Option (Int)
  | 0, _ => none
  | k + 1, v30 =>
  (if (decide (v30 < a1)) then (asq (0 ≤ v30 ∧ v30 < (a0.length : Int)) (asq (0 ≤ a1 ∧ a1 < (a0.length : Int)) (if (((a0.getD v30.toNat (TApiShare.mk (0 : Int) ([] : List (BitVec 8)))).X) == ((a0.getD a1.toNat (TApiShare.mk (0 : Int) ([] : List (BitVec 8)))).X)) then some (10 : Int) else (passkeyref37shareL3 a0 a1 k) (w64 (v30 + (1 : Int)))))) else passkeyref37shareJ2 a0 a1)
def passkeyref37shareJ1 (a0 : List (TApiShare)) (a1 : Int) (v4 : Bool) : Option (Int) :=
  (if v4 then some (9 : Int) else passkeyref37shareL3 a0 a1 FUEL (0 : Int))
/-- passkey/passkeyref37.share -/
def passkeyref37share (a0 : List (TApiShare)) (a1 : Int) : Option (Int) :=
  (asq (0 ≤ a1 ∧ a1 < (a0.length : Int)) (if (decide (((a0.getD a1.toNat (TApiShare.mk (0 : Int) ([] : List (BitVec 8)))).X) < (1 : Int))) then passkeyref37shareJ1 a0 a1 true else (asq (0 ≤ a1 ∧ a1 < (a0.length : Int)) (passkeyref37shareJ1 a0 a1 (decide ((255 : Int) < ((a0.getD a1.toNat (TApiShare.mk (0 : Int) ([] : List (BitVec 8)))).X)))))))

def passkeyref37AtJ3 (v20 : List (BitVec 8)) : Option ((List (BitVec 8)) × Int) :=
  some (v20, (0 : Int))
def passkeyref37AtJ5 (q4 : (List (BitVec 8)) → Int → Option ((List (BitVec 8)) × Int)) (v28 : Int) (v34 : List (BitVec 8)) : Option ((List (BitVec 8)) × Int) :=
  q4 v34 (w64 (v28 + (1 : Int)))
def passkeyref37AtL7 (q4 : (List (BitVec 8)) → Int → Option ((List (BitVec 8)) × Int)) (a0 : List (TApiShare)) (v28 : Int) (v40 : BitVec 8) : Nat → (List (BitVec 8)) → Int → Option ((List (BitVec 8)) × Int)
  | 0, _, _ => none
  | k + 1, v45, v46 =>
  (if (decide (v46 < (v45.length : Int))) then (asq (0 ≤ v46 ∧ v46 < (v45.length : Int)) (asq (0 ≤ v28 ∧ v28 < (a0.length : Int)) (asq (0 ≤ v46 ∧ v46 < ((((a0.getD v28.toNat (TApiShare.mk (0 : Int) ([] : List (BitVec 8)))).Data)).length : Int)) ((passkeyref37Mul v40 (((a0.getD v28.toNat (TApiShare.mk (0 : Int) ([] : List (BitVec 8)))).Data).getD v46.toNat 0#8)).bind fun y58 => (asq (0 ≤ v46 ∧ v46 < (v45.length : Int)) ((passkeyref37AtL7 q4 a0 v28 v40 k) (v45.set (0 + v46.toNat) ((v45.getD (0 + v46.toNat) 0#8) ^^^ y58)) (w64 (v46 + (1 : Int))))))))) else passkeyref37AtJ5 q4 v28 v45)
def passkeyref37AtJ6 (q4 : (List (BitVec 8)) → Int → Option ((List (BitVec 8)) × Int)) (a0 : List (TApiShare)) (v27 : List (BitVec 8)) (v28 : Int) (v40 : BitVec 8) : Option ((List (BitVec 8)) × Int) :=
  passkeyref37AtL7 q4 a0 v28 v40 FUEL v27 (0 : Int)
def passkeyref37AtJ9 (q8 : (BitVec 8) → Int → Option ((List (BitVec 8)) × Int)) (v66 : Int) (v72 : BitVec 8) : Option ((List (BitVec 8)) × Int) :=
  q8 v72 (w64 (v66 + (1 : Int)))
def passkeyref37AtL8 (q4 : (List (BitVec 8)) → Int → Option ((List (BitVec 8)) × Int)) (a0 : List (TApiShare)) (a1 : Int) (v27 : List (BitVec 8)) (v28 : Int) : Nat → (BitVec 8) → Int → Option ((List (BitVec 8)) × Int)
  | 0, _, _ => none
  | k + 1, v65, v66 =>
  (if (decide (v66 < (a0.length : Int))) then (if (v66 != v28) then (asq (0 ≤ v66 ∧ v66 < (a0.length : Int)) (lett (BitVec.ofInt 8 ((a0.getD v66.toNat (TApiShare.mk (0 : Int) ([] : List (BitVec 8)))).X)) fun v81 => (asq (0 ≤ v28 ∧ v28 < (a0.length : Int)) (lett (BitVec.ofInt 8 ((a0.getD v28.toNat (TApiShare.mk (0 : Int) ([] : List (BitVec 8)))).X)) fun v84 => (asq (0 ≤ v66 ∧ v66 < (a0.length : Int)) (lett (BitVec.ofInt 8 ((a0.getD v66.toNat (TApiShare.mk (0 : Int) ([] : List (BitVec 8)))).X)) fun v87 => ((passkeyref37Inverse (v84 ^^^ v87)).bind fun y89 => ((passkeyref37Mul ((BitVec.ofInt 8 a1) ^^^ v81) y89).bind fun y91 => ((passkeyref37Mul v65 y91).bind fun y93 => passkeyref37AtJ9 (passkeyref37AtL8 q4 a0 a1 v27 v28 k) v66 y93))))))))) else passkeyref37AtJ9 (passkeyref37AtL8 q4 a0 a1 v27 v28 k) v66 v65) else passkeyref37AtJ6 q4 a0 v27 v28 v65)
def passkeyref37AtL4 (a0 : List (TApiShare)) (a1 : Int) : Nat → (List (BitVec 8)) → Int → Option ((List (BitVec 8)) × Int)
  | 0, _, _ => none
  | k + 1, v27, v28 =>
  (if (decide (v28 < (a0.length : Int))) then passkeyref37AtL8 (passkeyref37AtL4 a0 a1 k) a0 a1 v27 v28 FUEL (1#8) (0 : Int) else passkeyref37AtJ3 v27)
def passkeyref37AtJ2 (a0 : List (TApiShare)) (a1 : Int) : Option ((List (BitVec 8)) × Int) :=
  (asq (0 ≤ (0 : Int) ∧ (0 : Int) < (a0.length : Int)) (asq (0 ≤ ((((a0.getD (0 : Int).toNat (TApiShare.mk (0 : Int) ([] : List (BitVec 8)))).Data)).length : Int) ∧ ((((a0.getD (0 : Int).toNat (TApiShare.mk (0 : Int) ([] : List (BitVec 8)))).Data)).length : Int) ≤ ((((a0.getD (0 : Int).toNat (TApiShare.mk (0 : Int) ([] : List (BitVec 8)))).Data)).length : Int) ∧ ((((a0.getD (0 : Int).toNat (TApiShare.mk (0 : Int) ([] : List (BitVec 8)))).Data)).length : Int) ≤ (281474976710656 : Int)) (passkeyref37AtL4 a0 a1 FUEL (List.replicate ((((a0.getD (0 : Int).toNat (TApiShare.mk (0 : Int) ([] : List (BitVec 8)))).Data)).length : Int).toNat 0#8) (0 : Int))))
def passkeyref37AtL10 (a0 : List (TApiShare)) (a1 : Int) : Nat → Int → Option ((List (BitVec 8)) × Int)
  | 0, _ => none
  | k + 1, v98 =>
  (if (decide (v98 < (a0.length : Int))) then ((passkeyref37share a0 v98).bind fun y108 => (if (y108 != (0 : Int)) then some ([], y108) else (passkeyref37AtL10 a0 a1 k) (w64 (v98 + (1 : Int))))) else passkeyref37AtJ2 a0 a1)
def passkeyref37AtJ1 (a0 : List (TApiShare)) (a1 : Int) (v10 : Bool) : Option ((List (BitVec 8)) × Int) :=
  (if v10 then some ([], (9 : Int)) else passkeyref37AtL10 a0 a1 FUEL (0 : Int))
/-- passkey/passkeyref37.At -/
def passkeyref37At (a0 : List (TApiShare)) (a1 : Int) : Option ((List (BitVec 8)) × Int) :=
  (if ((a0.length : Int) == (0 : Int)) then some ([], (1 : Int)) else (if (decide (a1 < (0 : Int))) then passkeyref37AtJ1 a0 a1 true else passkeyref37AtJ1 a0 a1 (decide ((255 : Int) < a1))))


/-- passkey/passkeyref37.Join -/
def passkeyref37Join (a0 : List (TApiShare)) : Option ((List (BitVec 8)) × Int) :=
  ((passkeyref37At a0 (0 : Int)).bind fun y5 => some (y5.1, y5.2))


/-- passkey/passkeylaw37.at -/
def passkeylaw37at (a0 : List (TApiShare)) (a1 : Int) : Option (Bool) :=
  ((sharingAt a0 a1).bind fun y5 => ((passkeyref37At a0 a1).bind fun y9 => ((sharingJoin a0).bind fun y13 => ((passkeyref37Join a0).bind fun y17 => (if (y5.1 == y9.1) then (if (y5.2 == y9.2) then (if (y13.1 == y17.1) then some (y13.2 == y17.2) else some false) else some false) else some false)))))

def passkeylaw37SharingValuesJ3 (a0 : List (TApiShare)) (a1 : Int) (v22 : List (TApiShare)) : Option (Bool) :=
  ((passkeylaw37at a0 a1).bind fun y26 => (if y26 then ((passkeycastMod a1 (258 : Int)).bind fun y29 => ((passkeylaw37at v22 (w64 (y29 - (1 : Int)))).bind fun y31 => (if y31 then ((passkeylaw37at v22 a1).bind fun y34 => (if y34 then ((passkeylaw37awake ).bind fun y37 => some y37) else some false)) else some false))) else some false))
def passkeylaw37SharingValuesJ2 (a0 : List (TApiShare)) (a1 : Int) (v18 : List (Int)) (v19 : Int) (v20 : List (TApiShare)) : Option (Bool) :=
  ((passkeycastDeckNext (TPasskeycastDeck.mk v18 v19) (6 : Int)).bind fun y41 => (if (y41.1 == (0 : Int)) then ((passkeycastDeckNext (TPasskeycastDeck.mk y41.2.l y41.2.atX) (v20.length : Int)).bind fun y48 => ((passkeycastDeckNext (TPasskeycastDeck.mk y48.2.l y48.2.atX) (3 : Int)).bind fun y50 => (asq (0 ≤ y50.1 ∧ y50.1 < ((([(0 : Int), (256 : Int), (-1 : Int)] : List (Int))).length : Int)) (asq (0 ≤ y48.1 ∧ y48.1 < (v20.length : Int)) (passkeylaw37SharingValuesJ3 a0 a1 (v20.set (0 + y48.1.toNat) ({ (v20.getD (0 + y48.1.toNat) (TApiShare.mk (0 : Int) ([] : List (BitVec 8)))) with X := (([(0 : Int), (256 : Int), (-1 : Int)] : List (Int)).getD (0 + y50.1.toNat) (0 : Int)) }))))))) else (if (y41.1 == (1 : Int)) then ((passkeycastDeckNext (TPasskeycastDeck.mk y41.2.l y41.2.atX) (v20.length : Int)).bind fun y59 => (asq (0 ≤ y59.1 ∧ y59.1 < (v20.length : Int)) ((passkeycastDeckNext (TPasskeycastDeck.mk y59.2.l y59.2.atX) (4 : Int)).bind fun y63 => (asq (0 ≤ y63.1 ∧ y63.1 ≤ ((((v20.getD (0 + y59.1.toNat) (TApiShare.mk (0 : Int) ([] : List (BitVec 8)))).Data)).length : Int)) (lett (dropTake 0 y63.1.toNat ((v20.getD (0 + y59.1.toNat) (TApiShare.mk (0 : Int) ([] : List (BitVec 8)))).Data)) fun v66 => (asq (0 ≤ y59.1 ∧ y59.1 < (v20.length : Int)) (passkeylaw37SharingValuesJ3 a0 a1 (v20.set (0 + y59.1.toNat) ({ (v20.getD (0 + y59.1.toNat) (TApiShare.mk (0 : Int) ([] : List (BitVec 8)))) with Data := v66 }))))))))) else (if (y41.1 == (2 : Int)) then ((passkeycastBytes (1 : Int) (65 : Int)).bind fun y73 => (asq (0 ≤ (0 : Int) ∧ (0 : Int) < (v20.length : Int)) (passkeylaw37SharingValuesJ3 a0 a1 (v20.set (0 + (0 : Int).toNat) ({ (v20.getD (0 + (0 : Int).toNat) (TApiShare.mk (0 : Int) ([] : List (BitVec 8)))) with Data := y73 }))))) else passkeylaw37SharingValuesJ3 a0 a1 v20))))
def passkeylaw37SharingValuesL4 (a0 : List (TApiShare)) (a1 : Int) : Nat → (List (Int)) → Int → (List (TApiShare)) → Int → Option (Bool)
  | 0, _, _, _, _ => none
  | k + 1, v81, v82, v83, v84 =>
  (if (decide ((0 : Int) < v84)) then ((passkeycastDeckNext (TPasskeycastDeck.mk v81 v82) (255 : Int)).bind fun y93 => ((passkeycastDeckNext (TPasskeycastDeck.mk y93.2.l y93.2.atX) (6 : Int)).bind fun y95 => ((passkeycastDeckNext (TPasskeycastDeck.mk y95.2.l y95.2.atX) (4 : Int)).bind fun y97 => (asq (0 ≤ y97.1 ∧ y97.1 < ((([(w64 ((1 : Int) + y93.1)), (w64 ((1 : Int) + y95.1)), (w64 ((v83.length : Int) + (1 : Int))), (w64 ((v83.length : Int) + (1 : Int)))] : List (Int))).length : Int)) ((passkeycastDeckNext (TPasskeycastDeck.mk y97.2.l y97.2.atX) (9 : Int)).bind fun y100 => ((passkeycastBytes y100.1 (3 : Int)).bind fun y102 => (asq (((v83 ++ ([(TApiShare.mk (([(w64 ((1 : Int) + y93.1)), (w64 ((1 : Int) + y95.1)), (w64 ((v83.length : Int) + (1 : Int))), (w64 ((v83.length : Int) + (1 : Int)))] : List (Int)).getD (0 + y97.1.toNat) (0 : Int)) y102)] : List (TApiShare)))).length ≤ 4398046511104) ((passkeylaw37SharingValuesL4 a0 a1 k) y100.2.l y100.2.atX (v83 ++ ([(TApiShare.mk (([(w64 ((1 : Int) + y93.1)), (w64 ((1 : Int) + y95.1)), (w64 ((v83.length : Int) + (1 : Int))), (w64 ((v83.length : Int) + (1 : Int)))] : List (Int)).getD (0 + y97.1.toNat) (0 : Int)) y102)] : List (TApiShare))) (w64 (v84 - (1 : Int))))))))))) else passkeylaw37SharingValuesJ2 a0 a1 v81 v82 v83)
def passkeylaw37SharingValuesJ1 (a0 : List (TApiShare)) (a1 : Int) (a2 : List (Int)) : Option (Bool) :=
  ((passkeycastNew a2).bind fun y14 => ((passkeycastDeckNext (TPasskeycastDeck.mk y14.l y14.atX) (6 : Int)).bind fun y78 => passkeylaw37SharingValuesL4 a0 a1 FUEL y78.2.l y78.2.atX ([] : List (TApiShare)) (w64 ((1 : Int) + y78.1))))
def passkeylaw37SharingValuesL5 (a0 : List (TApiShare)) (a1 : Int) (a2 : List (Int)) : Nat → Int → Option (Bool)
  | 0, _ => none
  | k + 1, v109 =>
  (if (decide (v109 < (a0.length : Int))) then (asq (0 ≤ v109 ∧ v109 < (a0.length : Int)) (if (decide ((100 : Int) < ((((a0.getD v109.toNat (TApiShare.mk (0 : Int) ([] : List (BitVec 8)))).Data)).length : Int))) then ((passkeylaw37awake ).bind fun y123 => some y123) else (passkeylaw37SharingValuesL5 a0 a1 a2 k) (w64 (v109 + (1 : Int))))) else passkeylaw37SharingValuesJ1 a0 a1 a2)
/-- passkey/passkeylaw37.SharingValues -/
def passkeylaw37SharingValues (a0 : List (TApiShare)) (a1 : Int) (a2 : List (Int)) : Option (Bool) :=
  (if (decide ((12 : Int) < (a0.length : Int))) then ((passkeylaw37awake ).bind fun y9 => some y9) else passkeylaw37SharingValuesL5 a0 a1 a2 FUEL (0 : Int))

def passkeylaw37SharingRestoresJ5 (a0 : List (BitVec 8)) (y39 : (List (BitVec 8)) × Int) : Option (Bool) :=
  (if (y39.2 == (0 : Int)) then (if (y39.1 == a0) then ((passkeylaw37awake ).bind fun y46 => some y46) else some false) else some false)
def passkeylaw37SharingRestoresJ7 (q6 : Int → Option (Bool)) (v51 : Int) (v64 : Bool) : Option (Bool) :=
  (if v64 then some false else q6 (w64 (v51 + (1 : Int))))
def passkeylaw37SharingRestoresL6 (a0 : List (BitVec 8)) (a3 : BitVec 8) (y20 : (List (TApiShare)) × Int) (v35 : List (TApiShare)) (y39 : (List (BitVec 8)) × Int) : Nat → Int → Option (Bool)
  | 0, _ => none
  | k + 1, v51 =>
  (if (decide (v51 < (w64 ((1 : Int) + ((a3 % (10#8)).toNat : Int))))) then (asq (0 ≤ v51 ∧ v51 < (y20.1.length : Int)) ((sharingAt v35 ((y20.1.getD (0 + v51.toNat) (TApiShare.mk (0 : Int) ([] : List (BitVec 8)))).X)).bind fun y62 => (if (y62.2 != (0 : Int)) then passkeylaw37SharingRestoresJ7 (passkeylaw37SharingRestoresL6 a0 a3 y20 v35 y39 k) v51 true else (asq (0 ≤ v51 ∧ v51 < (y20.1.length : Int)) (passkeylaw37SharingRestoresJ7 (passkeylaw37SharingRestoresL6 a0 a3 y20 v35 y39 k) v51 (!(y62.1 == ((y20.1.getD (0 + v51.toNat) (TApiShare.mk (0 : Int) ([] : List (BitVec 8)))).Data)))))))) else passkeylaw37SharingRestoresJ5 a0 y39)
def passkeylaw37SharingRestoresJ4 (a0 : List (BitVec 8)) (a3 : BitVec 8) (y20 : (List (TApiShare)) × Int) (v35 : List (TApiShare)) : Option (Bool) :=
  ((sharingJoin v35).bind fun y39 => passkeylaw37SharingRestoresL6 a0 a3 y20 v35 y39 FUEL (0 : Int))
def passkeylaw37SharingRestoresJ10 (q8 : (List (TApiShare)) → Int → Option (Bool)) (v77 : Int) (v83 : List (TApiShare)) : Option (Bool) :=
  q8 v83 (w64 (v77 + (1 : Int)))
def passkeylaw37SharingRestoresJ9 (q8 : (List (TApiShare)) → Int → Option (Bool)) (a0 : List (BitVec 8)) (a3 : BitVec 8) (y20 : (List (TApiShare)) × Int) (v33 : List (Bool)) (v76 : List (TApiShare)) (v77 : Int) (v80 : Bool) : Option (Bool) :=
  (if v80 then (asq (0 ≤ v77 ∧ v77 < (10 : Int)) (asq (v77.toNat < v33.length) (if (!(v33.getD v77.toNat false)) then (asq (0 ≤ v77 ∧ v77 < (y20.1.length : Int)) (asq (((v76 ++ ([(y20.1.getD (0 + v77.toNat) (TApiShare.mk (0 : Int) ([] : List (BitVec 8))))] : List (TApiShare)))).length ≤ 4398046511104) (passkeylaw37SharingRestoresJ10 q8 v77 (v76 ++ ([(y20.1.getD (0 + v77.toNat) (TApiShare.mk (0 : Int) ([] : List (BitVec 8))))] : List (TApiShare)))))) else passkeylaw37SharingRestoresJ10 q8 v77 v76))) else passkeylaw37SharingRestoresJ4 a0 a3 y20 v76)
def passkeylaw37SharingRestoresL8 (a0 : List (BitVec 8)) (a3 : BitVec 8) (v8 : Int) (y20 : (List (TApiShare)) × Int) (v33 : List (Bool)) : Nat → (List (TApiShare)) → Int → Option (Bool)
  | 0, _, _ => none
  | k + 1, v76, v77 =>
  (if (decide (v77 < (w64 ((1 : Int) + ((a3 % (10#8)).toNat : Int))))) then passkeylaw37SharingRestoresJ9 (passkeylaw37SharingRestoresL8 a0 a3 v8 y20 v33 k) a0 a3 y20 v33 v76 v77 (decide ((v76.length : Int) < (w64 ((1 : Int) + v8)))) else passkeylaw37SharingRestoresJ9 (passkeylaw37SharingRestoresL8 a0 a3 v8 y20 v33 k) a0 a3 y20 v33 v76 v77 false)
def passkeylaw37SharingRestoresJ3 (a0 : List (BitVec 8)) (a3 : BitVec 8) (v8 : Int) (y20 : (List (TApiShare)) × Int) (v32 : List (TApiShare)) (v33 : List (Bool)) : Option (Bool) :=
  passkeylaw37SharingRestoresL8 a0 a3 v8 y20 v33 FUEL v32 (0 : Int)
def passkeylaw37SharingRestoresJ13 (q11 : (List (TApiShare)) → (List (Bool)) → Int → Option (Bool)) (v102 : Int) (v108 : List (TApiShare)) (v109 : List (Bool)) : Option (Bool) :=
  q11 v108 v109 (w64 (v102 + (1 : Int)))
def passkeylaw37SharingRestoresJ12 (q11 : (List (TApiShare)) → (List (Bool)) → Int → Option (Bool)) (a0 : List (BitVec 8)) (a3 : BitVec 8) (a4 : List (BitVec 8)) (v8 : Int) (y20 : (List (TApiShare)) × Int) (v100 : List (TApiShare)) (v101 : List (Bool)) (v102 : Int) (v105 : Bool) : Option (Bool) :=
  (if v105 then (asq (0 ≤ v102 ∧ v102 < (a4.length : Int)) (asq ((w64 ((1 : Int) + ((a3 % (10#8)).toNat : Int))) ≠ 0) (lett (((a4.getD v102.toNat 0#8).toNat : Int).tmod (w64 ((1 : Int) + ((a3 % (10#8)).toNat : Int)))) fun v117 => (asq (0 ≤ v117 ∧ v117 < (10 : Int)) (asq (v117.toNat < v101.length) (if (!(v101.getD v117.toNat false)) then (asq (0 ≤ v117 ∧ v117 < (10 : Int)) (asq (v117.toNat < v101.length) (asq (0 ≤ v117 ∧ v117 < (y20.1.length : Int)) (asq (((v100 ++ ([(y20.1.getD (0 + v117.toNat) (TApiShare.mk (0 : Int) ([] : List (BitVec 8))))] : List (TApiShare)))).length ≤ 4398046511104) (passkeylaw37SharingRestoresJ13 q11 v102 (v100 ++ ([(y20.1.getD (0 + v117.toNat) (TApiShare.mk (0 : Int) ([] : List (BitVec 8))))] : List (TApiShare))) (v101.set v117.toNat true)))))) else passkeylaw37SharingRestoresJ13 q11 v102 v100 v101)))))) else passkeylaw37SharingRestoresJ3 a0 a3 v8 y20 v100 v101)
def passkeylaw37SharingRestoresL11 (a0 : List (BitVec 8)) (a3 : BitVec 8) (a4 : List (BitVec 8)) (v8 : Int) (y20 : (List (TApiShare)) × Int) : Nat → (List (TApiShare)) → (List (Bool)) → Int → Option (Bool)
  | 0, _, _, _ => none
  | k + 1, v100, v101, v102 =>
  (if (decide (v102 < (a4.length : Int))) then passkeylaw37SharingRestoresJ12 (passkeylaw37SharingRestoresL11 a0 a3 a4 v8 y20 k) a0 a3 a4 v8 y20 v100 v101 v102 (decide (v102 < (30 : Int))) else passkeylaw37SharingRestoresJ12 (passkeylaw37SharingRestoresL11 a0 a3 a4 v8 y20 k) a0 a3 a4 v8 y20 v100 v101 v102 false)
def passkeylaw37SharingRestoresJ2 (a0 : List (BitVec 8)) (a3 : BitVec 8) (a4 : List (BitVec 8)) (v8 : Int) (y20 : (List (TApiShare)) × Int) (v23 : Bool) : Option (Bool) :=
  (if v23 then some false else passkeylaw37SharingRestoresL11 a0 a3 a4 v8 y20 FUEL ([] : List (TApiShare)) [false, false, false, false, false, false, false, false, false, false] (0 : Int))
def passkeylaw37SharingRestoresJ1 (a0 : List (BitVec 8)) (a1 : List (BitVec 8)) (a3 : BitVec 8) (a4 : List (BitVec 8)) (v8 : Int) (v11 : Bool) : Option (Bool) :=
  (if v11 then ((passkeylaw37awake ).bind fun y16 => some y16) else ((sharingSplit a0 a1 (w64 ((1 : Int) + v8)) (w64 ((1 : Int) + ((a3 % (10#8)).toNat : Int)))).bind fun y20 => (if (y20.2 != (0 : Int)) then passkeylaw37SharingRestoresJ2 a0 a3 a4 v8 y20 true else passkeylaw37SharingRestoresJ2 a0 a3 a4 v8 y20 ((y20.1.length : Int) != (w64 ((1 : Int) + ((a3 % (10#8)).toNat : Int)))))))
/-- passkey/passkeylaw37.SharingRestores -/
def passkeylaw37SharingRestores (a0 : List (BitVec 8)) (a1 : List (BitVec 8)) (a2 : BitVec 8) (a3 : BitVec 8) (a4 : List (BitVec 8)) : Option (Bool) :=
  (asq ((w64 ((1 : Int) + ((a3 % (10#8)).toNat : Int))) ≠ 0) (lett ((a2.toNat : Int).tmod (w64 ((1 : Int) + ((a3 % (10#8)).toNat : Int)))) fun v8 => (if (decide ((20 : Int) < (a0.length : Int))) then passkeylaw37SharingRestoresJ1 a0 a1 a3 a4 v8 true else (lett (w64 ((w64 ((w64 ((1 : Int) + v8)) - (1 : Int))) * (a0.length : Int))) fun v137 => (if (decide ((a1.length : Int) < v137)) then passkeylaw37SharingRestoresJ1 a0 a1 a3 a4 v8 true else passkeylaw37SharingRestoresJ1 a0 a1 a3 a4 v8 (decide ((400 : Int) < (a1.length : Int))))))))

def passkeylaw37sumJ1 (v6 : List (BitVec 8)) : Option (List (BitVec 8)) :=
  some v6
def passkeylaw37sumL2 (a0 : List (BitVec 8)) (a1 : List (BitVec 8)) : Nat → (List (BitVec 8)) → Int → Option (List (BitVec 8))
  | 0, _, _ => none
  | k + 1, v13, v14 =>
  (if (decide (v14 < (a0.length : Int))) then (asq (0 ≤ v14 ∧ v14 < (a0.length : Int)) (asq (0 ≤ v14 ∧ v14 < (a1.length : Int)) (asq (0 ≤ v14 ∧ v14 < (v13.length : Int)) ((passkeylaw37sumL2 a0 a1 k) (v13.set (0 + v14.toNat) ((a0.getD v14.toNat 0#8) ^^^ (a1.getD v14.toNat 0#8))) (w64 (v14 + (1 : Int))))))) else passkeylaw37sumJ1 v13)
/-- passkey/passkeylaw37.sum -/
def passkeylaw37sum (a0 : List (BitVec 8)) (a1 : List (BitVec 8)) : Option (List (BitVec 8)) :=
  (asq (0 ≤ (a0.length : Int) ∧ (a0.length : Int) ≤ (a0.length : Int) ∧ (a0.length : Int) ≤ (281474976710656 : Int)) (passkeylaw37sumL2 a0 a1 FUEL (List.replicate (a0.length : Int).toNat 0#8) (0 : Int)))

def passkeylaw37SharingAddsJ3  : Option (Bool) :=
  ((passkeylaw37awake ).bind fun y38 => some y38)
def passkeylaw37SharingAddsJ5 (q4 : Int → Option (Bool)) (v43 : Int) (v51 : Bool) : Option (Bool) :=
  (if v51 then some false else q4 (w64 (v43 + (1 : Int))))
def passkeylaw37SharingAddsL4 (a0 : List (BitVec 8)) (y15 : (List (TApiShare)) × Int) (y19 : (List (TApiShare)) × Int) (y27 : (List (TApiShare)) × Int) : Nat → Int → Option (Bool)
  | 0, _ => none
  | k + 1, v43 =>
  (if (decide (v43 < (6 : Int))) then (asq (0 ≤ v43 ∧ v43 < (y15.1.length : Int)) (if (((((y15.1.getD (0 + v43.toNat) (TApiShare.mk (0 : Int) ([] : List (BitVec 8)))).Data)).length : Int) != (a0.length : Int)) then passkeylaw37SharingAddsJ5 (passkeylaw37SharingAddsL4 a0 y15 y19 y27 k) v43 true else (asq (0 ≤ v43 ∧ v43 < (y19.1.length : Int)) (if (((((y19.1.getD (0 + v43.toNat) (TApiShare.mk (0 : Int) ([] : List (BitVec 8)))).Data)).length : Int) != (a0.length : Int)) then passkeylaw37SharingAddsJ5 (passkeylaw37SharingAddsL4 a0 y15 y19 y27 k) v43 true else (asq (0 ≤ v43 ∧ v43 < (y15.1.length : Int)) (asq (0 ≤ v43 ∧ v43 < (y19.1.length : Int)) ((passkeylaw37sum ((y15.1.getD (0 + v43.toNat) (TApiShare.mk (0 : Int) ([] : List (BitVec 8)))).Data) ((y19.1.getD (0 + v43.toNat) (TApiShare.mk (0 : Int) ([] : List (BitVec 8)))).Data)).bind fun y64 => (asq (0 ≤ v43 ∧ v43 < (y27.1.length : Int)) (passkeylaw37SharingAddsJ5 (passkeylaw37SharingAddsL4 a0 y15 y19 y27 k) v43 (!(y64 == ((y27.1.getD (0 + v43.toNat) (TApiShare.mk (0 : Int) ([] : List (BitVec 8)))).Data)))))))))))) else passkeylaw37SharingAddsJ3)
def passkeylaw37SharingAddsJ2 (a0 : List (BitVec 8)) (y15 : (List (TApiShare)) × Int) (y19 : (List (TApiShare)) × Int) (y27 : (List (TApiShare)) × Int) (v30 : Bool) : Option (Bool) :=
  (if v30 then some false else passkeylaw37SharingAddsL4 a0 y15 y19 y27 FUEL (0 : Int))
def passkeylaw37SharingAddsJ1 (a0 : List (BitVec 8)) (a1 : List (BitVec 8)) (a2 : List (BitVec 8)) (a3 : List (BitVec 8)) (a4 : BitVec 8) (v6 : Bool) : Option (Bool) :=
  (if v6 then ((passkeylaw37awake ).bind fun y11 => some y11) else ((sharingSplit a0 a2 (w64 ((1 : Int) + ((a4 % (5#8)).toNat : Int))) (6 : Int)).bind fun y15 => ((sharingSplit a1 a3 (w64 ((1 : Int) + ((a4 % (5#8)).toNat : Int))) (6 : Int)).bind fun y19 => ((passkeylaw37sum a0 a1).bind fun y23 => ((passkeylaw37sum a2 a3).bind fun y25 => ((sharingSplit y23 y25 (w64 ((1 : Int) + ((a4 % (5#8)).toNat : Int))) (6 : Int)).bind fun y27 => (if (y15.2 != (0 : Int)) then passkeylaw37SharingAddsJ2 a0 y15 y19 y27 true else (if (y19.2 != (0 : Int)) then passkeylaw37SharingAddsJ2 a0 y15 y19 y27 true else (if (y27.2 != (0 : Int)) then passkeylaw37SharingAddsJ2 a0 y15 y19 y27 true else (if ((y15.1.length : Int) != (6 : Int)) then passkeylaw37SharingAddsJ2 a0 y15 y19 y27 true else (if ((y19.1.length : Int) != (6 : Int)) then passkeylaw37SharingAddsJ2 a0 y15 y19 y27 true else passkeylaw37SharingAddsJ2 a0 y15 y19 y27 ((y27.1.length : Int) != (6 : Int)))))))))))))
/-- passkey/passkeylaw37.SharingAdds -/
def passkeylaw37SharingAdds (a0 : List (BitVec 8)) (a1 : List (BitVec 8)) (a2 : List (BitVec 8)) (a3 : List (BitVec 8)) (a4 : BitVec 8) : Option (Bool) :=
  (if ((a0.length : Int) != (a1.length : Int)) then passkeylaw37SharingAddsJ1 a0 a1 a2 a3 a4 true else (if ((a2.length : Int) != (a3.length : Int)) then passkeylaw37SharingAddsJ1 a0 a1 a2 a3 a4 true else (if (decide ((12 : Int) < (a0.length : Int))) then passkeylaw37SharingAddsJ1 a0 a1 a2 a3 a4 true else (lett (w64 ((w64 ((1 : Int) + ((a4 % (5#8)).toNat : Int))) - (1 : Int))) fun v77 => (if (decide ((a2.length : Int) < (w64 (v77 * (a0.length : Int))))) then passkeylaw37SharingAddsJ1 a0 a1 a2 a3 a4 true else passkeylaw37SharingAddsJ1 a0 a1 a2 a3 a4 (decide ((200 : Int) < (a2.length : Int))))))))

end Go.Proofs.Ty
