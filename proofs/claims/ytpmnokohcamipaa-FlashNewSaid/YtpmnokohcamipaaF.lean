/- What the Go functions compute, as plain functions. PRINTED by a program of this session (ty.py). -/
import Derived.Test.YtpmnokohcamipaaRc
set_option linter.unusedVariables false
set_option linter.unusedSimpArgs false
set_option maxHeartbeats 4000000
set_option maxRecDepth 10000
namespace Go.Proofs.Ty
open Go Go.RW
def FUEL : Nat := 18446744073709551616
structure TApiFlash where
  PageSize : Int
  Bytes : List (BitVec 8)
deriving DecidableEq, Inhabited
def okTApiFlash (s : TApiFlash) : Prop := okI s.PageSize ∧ (okL okT) s.Bytes ∧ True
def eTApiFlash (s : TApiFlash) : D := .agg [eI s.PageSize, (eL 1 eU8) s.Bytes]

/-- passkey/flash.sized -/
def flashsized (a0 : Int) : Option (Bool) :=
  (if (decide ((512 : Int) ≤ a0)) then some (decide (a0 ≤ (8192 : Int))) else some false)

def flashNewJ2 (a0 : Int) (v12 : List (BitVec 8)) : Option (TApiFlash × Int) :=
  some ((TApiFlash.mk a0 v12), (0 : Int))
def flashNewL3 (a0 : Int) (a1 : Int) : Nat → (List (BitVec 8)) → Int → Option (TApiFlash × Int)
  | 0, _, _ => none
  | k + 1, v19, v20 =>
  (if (decide (v20 < (((List.replicate (w64 (a0 * a1)).toNat 0#8)).length : Int))) then (asq (0 ≤ v20 ∧ v20 < (v19.length : Int)) ((flashNewL3 a0 a1 k) (v19.set (0 + v20.toNat) (255#8)) (w64 (v20 + (1 : Int))))) else flashNewJ2 a0 v19)
def flashNewJ1 (a0 : Int) (a1 : Int) (v4 : Bool) : Option (TApiFlash × Int) :=
  (if v4 then some ((TApiFlash.mk (0 : Int) ([] : List (BitVec 8))), (9 : Int)) else (asq (0 ≤ (w64 (a0 * a1)) ∧ (w64 (a0 * a1)) ≤ (w64 (a0 * a1)) ∧ (w64 (a0 * a1)) ≤ (281474976710656 : Int)) (flashNewL3 a0 a1 FUEL (List.replicate (w64 (a0 * a1)).toNat 0#8) (0 : Int))))
/-- passkey/flash.New -/
def flashNew (a0 : Int) (a1 : Int) : Option (TApiFlash × Int) :=
  ((flashsized a0).bind fun y34 => (if (!y34) then flashNewJ1 a0 a1 true else (if (decide (a1 < (1 : Int))) then flashNewJ1 a0 a1 true else flashNewJ1 a0 a1 (decide ((8 : Int) < a1)))))

def flashValidateJ1 (v14 : Bool) : Option (Int) :=
  (if v14 then some (4 : Int) else some (0 : Int))
/-- passkey/flash.Validate -/
def flashValidate (a0 : TApiFlash) : Option (Int) :=
  ((flashsized a0.PageSize).bind fun y6 => (if (!y6) then some (9 : Int) else (asq (a0.PageSize ≠ 0) (if (((a0.Bytes.length : Int).tmod a0.PageSize) != (0 : Int)) then flashValidateJ1 true else (if (decide ((a0.Bytes.length : Int) < a0.PageSize)) then flashValidateJ1 true else flashValidateJ1 (decide ((w64 ((8 : Int) * a0.PageSize)) < (a0.Bytes.length : Int))))))))

def flashplaceJ1 (a0 : TApiFlash) (a1 : Int) (a2 : Int) (v14 : Bool) : Option (Int × Int) :=
  (if v14 then some ((0 : Int), (9 : Int)) else some ((w64 ((w64 (a1 * a0.PageSize)) + a2)), (0 : Int)))
/-- passkey/flash.place -/
def flashplace (a0 : TApiFlash) (a1 : Int) (a2 : Int) (a3 : Int) : Option (Int × Int) :=
  ((flashValidate (TApiFlash.mk a0.PageSize a0.Bytes)).bind fun y6 => (if (y6 != (0 : Int)) then some ((0 : Int), y6) else (if (decide (a1 < (0 : Int))) then flashplaceJ1 a0 a1 a2 true else (asq (a0.PageSize ≠ 0) (if (decide ((w64 ((a0.Bytes.length : Int).tdiv a0.PageSize)) ≤ a1)) then flashplaceJ1 a0 a1 a2 true else (if (decide (a2 < (0 : Int))) then flashplaceJ1 a0 a1 a2 true else (if (decide (a0.PageSize < a2)) then flashplaceJ1 a0 a1 a2 true else (if (decide (a3 < (0 : Int))) then flashplaceJ1 a0 a1 a2 true else flashplaceJ1 a0 a1 a2 (decide ((w64 (a0.PageSize - a2)) < a3))))))))))

def slicesClonebytebyteOwnJ1 (a0 : List (BitVec 8)) (v4 : Bool) : Option (List (BitVec 8)) :=
  (if v4 then some [] else (if a0.isEmpty then none else (asq (((([] : List (BitVec 8)) ++ a0)).length ≤ 140737488355328) (some (([] : List (BitVec 8)) ++ a0)))))
/-- slices.Clone[[]byte,byte] -/
def slicesClonebytebyteOwn (a0 : List (BitVec 8)) : Option (List (BitVec 8)) :=
  (if a0.isEmpty then (both (slicesClonebytebyteOwnJ1 a0 true) (slicesClonebytebyteOwnJ1 a0 false)) else slicesClonebytebyteOwnJ1 a0 false)


/-- passkey/flash.Program$1 -/
def flashProgram1I2 (a0 : Int) (a1 : BitVec 8) (a2 : List (BitVec 8)) : Option (BitVec 8) :=
  (asq (0 ≤ a0 ∧ a0 < (a2.length : Int)) (some (a1 &&& (a2.getD a0.toNat 0#8))))

def flashchangeFflashProgram1J3 (a0 : TApiFlash) (v9 : Int) (v12 : Int) (v14 : List (BitVec 8)) : Option (TApiFlash × Int × Int) :=
  some ((TApiFlash.mk a0.PageSize v14), v9, v12)
def flashchangeFflashProgram1L4 (a0 : TApiFlash) (a1 : Int) (a4q0q0 : List (BitVec 8)) (v9 : Int) (v10 : Int) (v12 : Int) : Nat → (List (BitVec 8)) → Int → Option (TApiFlash × Int × Int)
  | 0, _, _ => none
  | k + 1, v21, v22 =>
  (if (decide (v22 < v10)) then (asq (0 ≤ (w64 (a1 + v22)) ∧ (w64 (a1 + v22)) < (v21.length : Int)) ((flashProgram1I2 v22 (v21.getD (0 + (w64 (a1 + v22)).toNat) 0#8) a4q0q0).bind fun y34 => (asq (0 ≤ (w64 (a1 + v22)) ∧ (w64 (a1 + v22)) < (v21.length : Int)) ((flashchangeFflashProgram1L4 a0 a1 a4q0q0 v9 v10 v12 k) (v21.set (0 + (w64 (a1 + v22)).toNat) y34) (w64 (v22 + (1 : Int))))))) else flashchangeFflashProgram1J3 a0 v9 v12 v21)
def flashchangeFflashProgram1J2 (a0 : TApiFlash) (a1 : Int) (a4q0q0 : List (BitVec 8)) (y5 : List (BitVec 8)) (v9 : Int) (v10 : Int) (v12 : Int) : Option (TApiFlash × Int × Int) :=
  flashchangeFflashProgram1L4 a0 a1 a4q0q0 v9 v10 v12 FUEL y5 (0 : Int)
def flashchangeFflashProgram1J1 (a0 : TApiFlash) (a1 : Int) (a2 : Int) (a4q0q0 : List (BitVec 8)) (y5 : List (BitVec 8)) (v9 : Int) (v10 : Int) : Option (TApiFlash × Int × Int) :=
  (if (decide (v10 < a2)) then flashchangeFflashProgram1J2 a0 a1 a4q0q0 y5 v9 v10 (16 : Int) else flashchangeFflashProgram1J2 a0 a1 a4q0q0 y5 v9 v10 (0 : Int))
/-- passkey/flash.change -/
def flashchangeFflashProgram1 (a0 : TApiFlash) (a1 : Int) (a2 : Int) (a3 : Int) (a4q0q0 : List (BitVec 8)) : Option (TApiFlash × Int × Int) :=
  ((slicesClonebytebyteOwn a0.Bytes).bind fun y5 => (if (decide ((0 : Int) ≤ a3)) then flashchangeFflashProgram1J1 a0 a1 a2 a4q0q0 y5 (w64 (a3 - (if a3 < a2 then a3 else a2))) (if a3 < a2 then a3 else a2) else flashchangeFflashProgram1J1 a0 a1 a2 a4q0q0 y5 a3 a2))


/-- passkey/flash.Program -/
def flashProgram (a0 : TApiFlash) (a1 : Int) (a2 : Int) (a3 : List (BitVec 8)) (a4 : Int) : Option (TApiFlash × Int × Int) :=
  ((flashplace (TApiFlash.mk a0.PageSize a0.Bytes) a1 a2 (a3.length : Int)).bind fun y5 => (if (y5.2 != (0 : Int)) then some ((TApiFlash.mk (0 : Int) ([] : List (BitVec 8))), (0 : Int), y5.2) else ((flashchangeFflashProgram1 (TApiFlash.mk a0.PageSize a0.Bytes) y5.1 (a3.length : Int) a4 a3).bind fun y15 => some ((TApiFlash.mk y15.1.PageSize y15.1.Bytes), y15.2.1, y15.2.2))))

def slicesClonebytebyteJ1 (a0 : List (BitVec 8)) (v4 : Bool) : Option (List (BitVec 8)) :=
  (if v4 then some ([] : List (BitVec 8)) else (if a0.isEmpty then some ([] : List (BitVec 8)) else (asq (((([] : List (BitVec 8)) ++ a0)).length ≤ 140737488355328) (some (([] : List (BitVec 8)) ++ a0)))))
/-- slices.Clone[[]byte,byte] -/
def slicesClonebytebyte (a0 : List (BitVec 8)) : Option (List (BitVec 8)) :=
  (if a0.isEmpty then (both (slicesClonebytebyteJ1 a0 true) (slicesClonebytebyteJ1 a0 false)) else slicesClonebytebyteJ1 a0 false)


/-- passkey/flash.Read -/
def flashRead (a0 : TApiFlash) (a1 : Int) (a2 : Int) (a3 : Int) : Option ((List (BitVec 8)) × Int) :=
  ((flashplace (TApiFlash.mk a0.PageSize a0.Bytes) a1 a2 a3).bind fun y5 => (if (y5.2 != (0 : Int)) then some (([] : List (BitVec 8)), y5.2) else (asq (0 ≤ y5.1 ∧ y5.1 ≤ (w64 (y5.1 + a3)) ∧ (w64 (y5.1 + a3)) ≤ (a0.Bytes.length : Int)) ((slicesClonebytebyte (dropTake y5.1.toNat (w64 (y5.1 + a3)).toNat a0.Bytes)).bind fun y16 => some (y16, (0 : Int))))))


/-- passkey/passkeylaw7.awake -/
def passkeylaw7awake  : Option (Bool) :=
  ((flashNew (512 : Int) (2 : Int)).bind fun y5 => ((flashProgram (TApiFlash.mk y5.1.PageSize y5.1.Bytes) (1 : Int) (3 : Int) ([(15#8)] : List (BitVec 8)) (-1 : Int)).bind fun y9 => ((flashProgram (TApiFlash.mk y9.1.PageSize y9.1.Bytes) (1 : Int) (3 : Int) ([(240#8)] : List (BitVec 8)) (-1 : Int)).bind fun y13 => ((flashRead (TApiFlash.mk y13.1.PageSize y13.1.Bytes) (1 : Int) (3 : Int) (1 : Int)).bind fun y17 => (if (y5.2 == (0 : Int)) then (if (y9.2.2 == (0 : Int)) then (if (y13.2.2 == (0 : Int)) then (if (y17.2 == (0 : Int)) then (if ((y5.1.Bytes.length : Int) == (1024 : Int)) then (if (y9.2.1 == (-1 : Int)) then some (y17.1 == ([0#8] : List (BitVec 8))) else some false) else some false) else some false) else some false) else some false) else some false)))))

def passkeyref7NewFlashJ2 (a0 : Int) (v11 : List (BitVec 8)) : Option (TApiFlash × Int) :=
  some ((TApiFlash.mk a0 v11), (0 : Int))
def passkeyref7NewFlashL3 (a0 : Int) (a1 : Int) : Nat → (List (BitVec 8)) → Int → Option (TApiFlash × Int)
  | 0, _, _ => none
  | k + 1, v18, v19 =>
  (if (decide (v19 < (w64 (a0 * a1)))) then (asq (((v18 ++ ([(255#8)] : List (BitVec 8)))).length ≤ 140737488355328) ((passkeyref7NewFlashL3 a0 a1 k) (v18 ++ ([(255#8)] : List (BitVec 8))) (w64 (v19 + (1 : Int))))) else passkeyref7NewFlashJ2 a0 v18)
def passkeyref7NewFlashJ1 (a0 : Int) (a1 : Int) (v4 : Bool) : Option (TApiFlash × Int) :=
  (if v4 then some ((TApiFlash.mk (0 : Int) ([] : List (BitVec 8))), (9 : Int)) else passkeyref7NewFlashL3 a0 a1 FUEL ([] : List (BitVec 8)) (0 : Int))
/-- passkey/passkeyref7.NewFlash -/
def passkeyref7NewFlash (a0 : Int) (a1 : Int) : Option (TApiFlash × Int) :=
  (if (decide (a0 < (512 : Int))) then passkeyref7NewFlashJ1 a0 a1 true else (if (decide ((8192 : Int) < a0)) then passkeyref7NewFlashJ1 a0 a1 true else (if (decide (a1 < (1 : Int))) then passkeyref7NewFlashJ1 a0 a1 true else passkeyref7NewFlashJ1 a0 a1 (decide ((8 : Int) < a1)))))


/-- passkey/passkeyref7.SameFlash -/
def passkeyref7SameFlash (a0 : TApiFlash) (a1 : TApiFlash) : Option (Bool) :=
  (if (a0.PageSize == a1.PageSize) then some (a0.Bytes == a1.Bytes) else some false)

def passkeyref7ValidateFlashJ2 (v10 : Bool) : Option (Int) :=
  (if v10 then some (4 : Int) else some (0 : Int))
def passkeyref7ValidateFlashJ1 (a0 : TApiFlash) (v4 : Bool) : Option (Int) :=
  (if v4 then some (9 : Int) else (if ((a0.Bytes.length : Int) == (0 : Int)) then passkeyref7ValidateFlashJ2 true else (asq (a0.PageSize ≠ 0) (if (((a0.Bytes.length : Int).tmod a0.PageSize) != (0 : Int)) then passkeyref7ValidateFlashJ2 true else (asq (a0.PageSize ≠ 0) (passkeyref7ValidateFlashJ2 (decide ((8 : Int) < (w64 ((a0.Bytes.length : Int).tdiv a0.PageSize))))))))))
/-- passkey/passkeyref7.ValidateFlash -/
def passkeyref7ValidateFlash (a0 : TApiFlash) : Option (Int) :=
  (if (decide (a0.PageSize < (512 : Int))) then passkeyref7ValidateFlashJ1 a0 true else passkeyref7ValidateFlashJ1 a0 (decide ((8192 : Int) < a0.PageSize)))

def passkeylaw7FlashNewJ1 (a0 : Int) (a1 : Int) (a3 : TApiFlash) (y18 : TApiFlash × Int) (y24 : TApiFlash × Int) (v28 : Int) : Option (Bool) :=
  ((flashNew a0 a1).bind fun y32 => (if (y18.2 == y24.2) then ((passkeyref7SameFlash (TApiFlash.mk y18.1.PageSize y18.1.Bytes) (TApiFlash.mk y24.1.PageSize y24.1.Bytes)).bind fun y37 => (if y37 then (if (y32.2 == v28) then (if (v28 == (0 : Int)) then ((flashValidate (TApiFlash.mk a3.PageSize a3.Bytes)).bind fun y42 => ((passkeyref7ValidateFlash (TApiFlash.mk a3.PageSize a3.Bytes)).bind fun y44 => (if (y42 == y44) then ((passkeylaw7awake ).bind fun y47 => some y47) else some false))) else (if ((y32.1.Bytes.length : Int) == (0 : Int)) then ((flashValidate (TApiFlash.mk a3.PageSize a3.Bytes)).bind fun y50 => ((passkeyref7ValidateFlash (TApiFlash.mk a3.PageSize a3.Bytes)).bind fun y52 => (if (y50 == y52) then ((passkeylaw7awake ).bind fun y55 => some y55) else some false))) else some false)) else some false) else some false)) else some false))
def passkeylaw7FlashNewJ2 (a0 : Int) (a1 : Int) (a3 : TApiFlash) (y18 : TApiFlash × Int) (y24 : TApiFlash × Int) (v57 : Bool) : Option (Bool) :=
  (if v57 then passkeylaw7FlashNewJ1 a0 a1 a3 y18 y24 (9 : Int) else passkeylaw7FlashNewJ1 a0 a1 a3 y18 y24 (0 : Int))
/-- passkey/passkeylaw7.FlashNew -/
def passkeylaw7FlashNew (a0 : Int) (a1 : Int) (a2 : Int) (a3 : TApiFlash) : Option (Bool) :=
  (if (decide ((5000 : Int) < (a3.Bytes.length : Int))) then ((passkeylaw7awake ).bind fun y9 => some y9) else (asq (0 ≤ ((ibits .and .i64 a2 (7 : Int)).tmod (5 : Int)) ∧ ((ibits .and .i64 a2 (7 : Int)).tmod (5 : Int)) < ((([(511 : Int), (512 : Int), (513 : Int), (700 : Int), (0 : Int)] : List (Int))).length : Int)) (lett (w64 ((ibits .and .i64 (ishr .i64 a2 (3 : Int)) (15 : Int)) - (2 : Int))) fun v16 => ((flashNew (([(511 : Int), (512 : Int), (513 : Int), (700 : Int), (0 : Int)] : List (Int)).getD (0 + ((ibits .and .i64 a2 (7 : Int)).tmod (5 : Int)).toNat) (0 : Int)) v16).bind fun y18 => (lett (w64 ((ibits .and .i64 (ishr .i64 a2 (3 : Int)) (15 : Int)) - (2 : Int))) fun v22 => ((passkeyref7NewFlash (([(511 : Int), (512 : Int), (513 : Int), (700 : Int), (0 : Int)] : List (Int)).getD (0 + ((ibits .and .i64 a2 (7 : Int)).tmod (5 : Int)).toNat) (0 : Int)) v22).bind fun y24 => (if (decide (a0 < (512 : Int))) then passkeylaw7FlashNewJ2 a0 a1 a3 y18 y24 true else (if (decide ((8192 : Int) < a0)) then passkeylaw7FlashNewJ2 a0 a1 a3 y18 y24 true else (if (decide (a1 < (1 : Int))) then passkeylaw7FlashNewJ2 a0 a1 a3 y18 y24 true else passkeylaw7FlashNewJ2 a0 a1 a3 y18 y24 (decide ((8 : Int) < a1)))))))))))

def passkeyref7NewFlashOwnJ2 (a0 : Int) (v11 : List (BitVec 8)) : Option (TApiFlash × Int) :=
  some ((TApiFlash.mk a0 v11), (0 : Int))
def passkeyref7NewFlashOwnL3 (a0 : Int) (a1 : Int) : Nat → (List (BitVec 8)) → Int → Option (TApiFlash × Int)
  | 0, _, _ => none
  | k + 1, v18, v19 =>
  (if (decide (v19 < (w64 (a0 * a1)))) then (asq (((v18 ++ ([(255#8)] : List (BitVec 8)))).length ≤ 140737488355328) ((passkeyref7NewFlashOwnL3 a0 a1 k) (v18 ++ ([(255#8)] : List (BitVec 8))) (w64 (v19 + (1 : Int))))) else passkeyref7NewFlashOwnJ2 a0 v18)
def passkeyref7NewFlashOwnJ1 (a0 : Int) (a1 : Int) (v4 : Bool) : Option (TApiFlash × Int) :=
  (if v4 then none else passkeyref7NewFlashOwnL3 a0 a1 FUEL ([] : List (BitVec 8)) (0 : Int))
/-- passkey/passkeyref7.NewFlash -/
def passkeyref7NewFlashOwn (a0 : Int) (a1 : Int) : Option (TApiFlash × Int) :=
  (if (decide (a0 < (512 : Int))) then passkeyref7NewFlashOwnJ1 a0 a1 true else (if (decide ((8192 : Int) < a0)) then passkeyref7NewFlashOwnJ1 a0 a1 true else (if (decide (a1 < (1 : Int))) then passkeyref7NewFlashOwnJ1 a0 a1 true else passkeyref7NewFlashOwnJ1 a0 a1 (decide ((8 : Int) < a1)))))

def passkeylaw7madeJ1 (y8 : TApiFlash × Int) (v10 : List (BitVec 8)) : Option (TApiFlash) :=
  some (TApiFlash.mk y8.1.PageSize v10)
def passkeylaw7madeJ3 (q2 : (List (BitVec 8)) → Int → Option (TApiFlash)) (a1 : List (Int)) (y8 : TApiFlash × Int) (v17 : List (BitVec 8)) (v18 : Int) (v21 : Bool) : Option (TApiFlash) :=
  (if v21 then (asq (0 ≤ v18 ∧ v18 < (a1.length : Int)) (lett (ibits .and .i64 (a1.getD v18.toNat (0 : Int)) (65535 : Int)) fun v28 => (asq ((v17.length : Int) ≠ 0) (asq (0 ≤ (v28.tmod (v17.length : Int)) ∧ (v28.tmod (v17.length : Int)) < (v17.length : Int)) (asq (0 ≤ v18 ∧ v18 < (a1.length : Int)) (lett (BitVec.ofInt 8 (ishr .i64 (a1.getD v18.toNat (0 : Int)) (8 : Int))) fun v33 => (lett ((v17.getD (0 + (v28.tmod (v17.length : Int)).toNat) 0#8) &&& v33) fun v35 => (asq (0 ≤ (v28.tmod (v17.length : Int)) ∧ (v28.tmod (v17.length : Int)) < (v17.length : Int)) (q2 (v17.set (0 + (v28.tmod (v17.length : Int)).toNat) v35) (w64 (v18 + (1 : Int)))))))))))) else passkeylaw7madeJ1 y8 v17)
def passkeylaw7madeL2 (a1 : List (Int)) (y8 : TApiFlash × Int) : Nat → (List (BitVec 8)) → Int → Option (TApiFlash)
  | 0, _, _ => none
  | k + 1, v17, v18 =>
  (if (decide (v18 < (a1.length : Int))) then passkeylaw7madeJ3 (passkeylaw7madeL2 a1 y8 k) a1 y8 v17 v18 (decide (v18 < (12 : Int))) else passkeylaw7madeJ3 (passkeylaw7madeL2 a1 y8 k) a1 y8 v17 v18 false)
/-- passkey/passkeylaw7.made -/
def passkeylaw7made (a0 : Int) (a1 : List (Int)) : Option (TApiFlash) :=
  (asq (0 ≤ ((ibits .and .i64 a0 (65535 : Int)).tmod (3 : Int)) ∧ ((ibits .and .i64 a0 (65535 : Int)).tmod (3 : Int)) < ((([(512 : Int), (513 : Int), (600 : Int)] : List (Int))).length : Int)) (lett (w64 ((1 : Int) + (ibits .and .i64 (ishr .i64 a0 (2 : Int)) (3 : Int)))) fun v6 => ((passkeyref7NewFlashOwn (([(512 : Int), (513 : Int), (600 : Int)] : List (Int)).getD (0 + ((ibits .and .i64 a0 (65535 : Int)).tmod (3 : Int)).toNat) (0 : Int)) v6).bind fun y8 => passkeylaw7madeL2 a1 y8 FUEL y8.1.Bytes (0 : Int))))

def passkeylaw7spoilJ1 (v3 : Int) (v4 : List (BitVec 8)) : Option (TApiFlash) :=
  some (TApiFlash.mk v3 v4)
/-- passkey/passkeylaw7.spoil -/
def passkeylaw7spoil (a0 : TApiFlash) (a1 : Int) : Option (TApiFlash) :=
  (if ((ibits .and .i64 a1 (15 : Int)) == (0 : Int)) then (lett ((ibits .and .i64 (ishr .i64 a1 (4 : Int)) (255 : Int)).tmod (5 : Int)) fun v15 => (asq (0 ≤ v15 ∧ v15 < ((([(0 : Int), (511 : Int), (512 : Int), (8193 : Int), (-1 : Int)] : List (Int))).length : Int)) (passkeylaw7spoilJ1 (([(0 : Int), (511 : Int), (512 : Int), (8193 : Int), (-1 : Int)] : List (Int)).getD (0 + v15.toNat) (0 : Int)) a0.Bytes))) else (if ((ibits .and .i64 a1 (15 : Int)) == (1 : Int)) then (asq (0 ≤ (w64 ((a0.Bytes.length : Int) - (1 : Int))) ∧ (w64 ((a0.Bytes.length : Int) - (1 : Int))) ≤ (a0.Bytes.length : Int)) (lett (dropTake 0 (w64 ((a0.Bytes.length : Int) - (1 : Int))).toNat a0.Bytes) fun v23 => passkeylaw7spoilJ1 a0.PageSize v23)) else (if ((ibits .and .i64 a1 (15 : Int)) == (2 : Int)) then passkeylaw7spoilJ1 a0.PageSize ([] : List (BitVec 8)) else passkeylaw7spoilJ1 a0.PageSize a0.Bytes)))

def passkeyref7areaJ1 (v14 : Bool) : Option (Int) :=
  (if v14 then some (9 : Int) else some (0 : Int))
/-- passkey/passkeyref7.area -/
def passkeyref7area (a0 : TApiFlash) (a1 : Int) (a2 : Int) (a3 : Int) : Option (Int) :=
  ((passkeyref7ValidateFlash (TApiFlash.mk a0.PageSize a0.Bytes)).bind fun y6 => (if (y6 != (0 : Int)) then some y6 else (if (decide (a1 < (0 : Int))) then passkeyref7areaJ1 true else (asq (a0.PageSize ≠ 0) (if (decide ((w64 ((a0.Bytes.length : Int).tdiv a0.PageSize)) ≤ a1)) then passkeyref7areaJ1 true else (if (decide (a2 < (0 : Int))) then passkeyref7areaJ1 true else (if (decide (a3 < (0 : Int))) then passkeyref7areaJ1 true else (if (decide (a0.PageSize < a2)) then passkeyref7areaJ1 true else passkeyref7areaJ1 (decide ((w64 (a0.PageSize - a2)) < a3))))))))))


/-- passkey/passkeyref7.Read -/
def passkeyref7Read (a0 : TApiFlash) (a1 : Int) (a2 : Int) (a3 : Int) : Option ((List (BitVec 8)) × Int) :=
  ((passkeyref7area (TApiFlash.mk a0.PageSize a0.Bytes) a1 a2 a3).bind fun y6 => (if (y6 != (0 : Int)) then some ([], y6) else (asq (0 ≤ (w64 ((w64 (a1 * a0.PageSize)) + a2)) ∧ (w64 ((w64 (a1 * a0.PageSize)) + a2)) ≤ (w64 ((w64 ((w64 (a1 * a0.PageSize)) + a2)) + a3)) ∧ (w64 ((w64 ((w64 (a1 * a0.PageSize)) + a2)) + a3)) ≤ (a0.Bytes.length : Int)) (lett (dropTake (w64 ((w64 (a1 * a0.PageSize)) + a2)).toNat (w64 ((w64 ((w64 (a1 * a0.PageSize)) + a2)) + a3)).toNat a0.Bytes) fun v18 => (asq (v18.length ≤ 140737488355328) (some (v18, (0 : Int))))))))


/-- passkey/passkeylaw7.FlashReads -/
def passkeylaw7FlashReads (a0 : Int) (a1 : List (Int)) (a2 : Int) (a3 : Int) (a4 : Int) (a5 : Int) : Option (Bool) :=
  ((passkeylaw7made a0 a1).bind fun y5 => ((passkeylaw7spoil y5 a5).bind fun y7 => ((flashRead (TApiFlash.mk y7.PageSize y7.Bytes) (w64 ((ibits .and .i64 a2 (7 : Int)) - (1 : Int))) (w64 ((ibits .and .i64 a3 (1023 : Int)) - (5 : Int))) (w64 ((ibits .and .i64 a4 (1023 : Int)) - (5 : Int)))).bind fun y11 => ((passkeyref7Read (TApiFlash.mk y7.PageSize y7.Bytes) (w64 ((ibits .and .i64 a2 (7 : Int)) - (1 : Int))) (w64 ((ibits .and .i64 a3 (1023 : Int)) - (5 : Int))) (w64 ((ibits .and .i64 a4 (1023 : Int)) - (5 : Int)))).bind fun y15 => ((flashRead (TApiFlash.mk y7.PageSize y7.Bytes) a2 a3 a4).bind fun y19 => ((passkeyref7Read (TApiFlash.mk y7.PageSize y7.Bytes) a2 a3 a4).bind fun y23 => (if (y11.2 == y15.2) then (if (y11.1 == y15.1) then (if (y19.2 == y23.2) then ((passkeylaw7awake ).bind fun y30 => some y30) else some false) else some false) else some false)))))))

def passkeyref7changeJ1 (a0 : TApiFlash) (v6 : Int) (v7 : List (BitVec 8)) : Option (TApiFlash × Int × Int) :=
  some ((TApiFlash.mk a0.PageSize v7), v6, (0 : Int))
def passkeyref7changeJ3 (q2 : Int → (List (BitVec 8)) → Int → Option (TApiFlash × Int × Int)) (v16 : Int) (v22 : Int) (v23 : List (BitVec 8)) : Option (TApiFlash × Int × Int) :=
  q2 v22 v23 (w64 (v16 + (1 : Int)))
def passkeyref7changeJ4 (q2 : Int → (List (BitVec 8)) → Int → Option (TApiFlash × Int × Int)) (v14 : Int) (v16 : Int) (v33 : List (BitVec 8)) : Option (TApiFlash × Int × Int) :=
  (if (decide ((0 : Int) < v14)) then passkeyref7changeJ3 q2 v16 (w64 (v14 - (1 : Int))) v33 else passkeyref7changeJ3 q2 v16 v14 v33)
def passkeyref7changeL2 (a0 : TApiFlash) (a1 : Int) (a2 : Int) (a3 : List (BitVec 8)) : Nat → Int → (List (BitVec 8)) → Int → Option (TApiFlash × Int × Int)
  | 0, _, _, _ => none
  | k + 1, v14, v15, v16 =>
  (if (decide (v16 < a2)) then (if (v14 == (0 : Int)) then some ((TApiFlash.mk a0.PageSize v15), (0 : Int), (16 : Int)) else (if ((a3.length : Int) == (0 : Int)) then (asq (0 ≤ (w64 (a1 + v16)) ∧ (w64 (a1 + v16)) < (v15.length : Int)) (passkeyref7changeJ4 (passkeyref7changeL2 a0 a1 a2 a3 k) v14 v16 (v15.set (0 + (w64 (a1 + v16)).toNat) (255#8)))) else (asq (0 ≤ (w64 (a1 + v16)) ∧ (w64 (a1 + v16)) < (v15.length : Int)) (asq (0 ≤ v16 ∧ v16 < (a3.length : Int)) (lett ((v15.getD (0 + (w64 (a1 + v16)).toNat) 0#8) &&& (a3.getD v16.toNat 0#8)) fun v47 => (asq (0 ≤ (w64 (a1 + v16)) ∧ (w64 (a1 + v16)) < (v15.length : Int)) (passkeyref7changeJ4 (passkeyref7changeL2 a0 a1 a2 a3 k) v14 v16 (v15.set (0 + (w64 (a1 + v16)).toNat) v47)))))))) else passkeyref7changeJ1 a0 v14 v15)
/-- passkey/passkeyref7.change -/
def passkeyref7change (a0 : TApiFlash) (a1 : Int) (a2 : Int) (a3 : List (BitVec 8)) (a4 : Int) : Option (TApiFlash × Int × Int) :=
  (asq (a0.Bytes.length ≤ 140737488355328) (passkeyref7changeL2 a0 a1 a2 a3 FUEL a4 a0.Bytes (0 : Int)))


/-- passkey/passkeyref7.Program -/
def passkeyref7Program (a0 : TApiFlash) (a1 : Int) (a2 : Int) (a3 : List (BitVec 8)) (a4 : Int) : Option (TApiFlash × Int × Int) :=
  ((passkeyref7area (TApiFlash.mk a0.PageSize a0.Bytes) a1 a2 (a3.length : Int)).bind fun y6 => (if (y6 != (0 : Int)) then some ((TApiFlash.mk (0 : Int) ([] : List (BitVec 8))), (0 : Int), y6) else ((passkeyref7change (TApiFlash.mk a0.PageSize a0.Bytes) (w64 ((w64 (a1 * a0.PageSize)) + a2)) (a3.length : Int) a3 a4).bind fun y15 => some ((TApiFlash.mk y15.1.PageSize y15.1.Bytes), y15.2.1, y15.2.2))))


/-- passkey/passkeylaw7.programs -/
def passkeylaw7programs (a0 : TApiFlash) (a1 : Int) (a2 : Int) (a3 : List (BitVec 8)) (a4 : Int) : Option (Bool) :=
  ((flashProgram (TApiFlash.mk a0.PageSize a0.Bytes) a1 a2 a3 a4).bind fun y5 => ((passkeyref7Program (TApiFlash.mk a0.PageSize a0.Bytes) a1 a2 a3 a4).bind fun y9 => ((passkeyref7SameFlash (TApiFlash.mk y5.1.PageSize y5.1.Bytes) (TApiFlash.mk y9.1.PageSize y9.1.Bytes)).bind fun y13 => (if y13 then (if (y5.2.1 == y9.2.1) then some (y5.2.2 == y9.2.2) else some false) else some false))))


/-- passkey/passkeylaw7.FlashPrograms -/
def passkeylaw7FlashPrograms (a0 : Int) (a1 : List (Int)) (a2 : Int) (a3 : Int) (a4 : List (BitVec 8)) (a5 : Int) (a6 : Int) : Option (Bool) :=
  (if (decide ((700 : Int) < (a4.length : Int))) then ((passkeylaw7awake ).bind fun y9 => some y9) else ((passkeylaw7made a0 a1).bind fun y13 => ((passkeylaw7spoil y13 a6).bind fun y15 => ((passkeylaw7programs (TApiFlash.mk y15.PageSize y15.Bytes) (ibits .and .i64 a2 (3 : Int)) (ibits .and .i64 a3 (511 : Int)) a4 (w64 ((ibits .and .i64 a5 (255 : Int)) - (20 : Int)))).bind fun y19 => (if y19 then ((passkeylaw7programs (TApiFlash.mk y15.PageSize y15.Bytes) a2 a3 a4 a5).bind fun y22 => (if y22 then ((passkeylaw7awake ).bind fun y25 => some y25) else some false)) else some false)))))

def passkeylaw7FlashPartsJ1 (y21 : TApiFlash × Int × Int) (y25 : TApiFlash × Int × Int) (y30 : TApiFlash × Int × Int) (v34 : Int) : Option (Bool) :=
  (if (y21.2.2 == (0 : Int)) then (if (y21.2.1 == (-1 : Int)) then (if (y25.2.1 == (0 : Int)) then (if (y25.2.2 == v34) then (if (y30.2.2 == (0 : Int)) then ((passkeyref7SameFlash (TApiFlash.mk y21.1.PageSize y21.1.Bytes) (TApiFlash.mk y30.1.PageSize y30.1.Bytes)).bind fun y43 => (if y43 then ((passkeylaw7awake ).bind fun y46 => some y46) else some false)) else some false) else some false) else some false) else some false) else some false)
/-- passkey/passkeylaw7.FlashParts -/
def passkeylaw7FlashParts (a0 : Int) (a1 : List (Int)) (a2 : BitVec 8) (a3 : List (BitVec 8)) (a4 : BitVec 8) : Option (Bool) :=
  (if (decide ((200 : Int) < (a3.length : Int))) then ((passkeylaw7awake ).bind fun y9 => some y9) else ((passkeylaw7made a0 a1).bind fun y13 => (lett (if (a3.length : Int) < (a4.toNat : Int) then (a3.length : Int) else (a4.toNat : Int)) fun v17 => ((flashProgram (TApiFlash.mk y13.PageSize y13.Bytes) (0 : Int) (a2.toNat : Int) a3 (-1 : Int)).bind fun y21 => ((flashProgram (TApiFlash.mk y13.PageSize y13.Bytes) (0 : Int) (a2.toNat : Int) a3 v17).bind fun y25 => (asq (0 ≤ v17 ∧ v17 ≤ (a3.length : Int)) ((flashProgram (TApiFlash.mk y25.1.PageSize y25.1.Bytes) (0 : Int) (w64 ((a2.toNat : Int) + v17)) (dropTake v17.toNat a3.length a3) (-1 : Int)).bind fun y30 => (if (v17 == (a3.length : Int)) then passkeylaw7FlashPartsJ1 y21 y25 y30 (0 : Int) else passkeylaw7FlashPartsJ1 y21 y25 y30 (16 : Int)))))))))

def passkeylaw7FlashBitsJ2  : Option (Bool) :=
  ((passkeylaw7awake ).bind fun y28 => some y28)
def passkeylaw7FlashBitsJ5 (q3 : Int → Option (Bool)) (v33 : Int) (v43 : Bool) : Option (Bool) :=
  (if v43 then some false else q3 (w64 (v33 + (1 : Int))))
def passkeylaw7FlashBitsJ4 (q3 : Int → Option (Bool)) (y13 : TApiFlash) (y17 : TApiFlash × Int × Int) (v33 : Int) (v41 : Bool) : Option (Bool) :=
  (asq (0 ≤ v33 ∧ v33 < (y17.1.Bytes.length : Int)) (asq (0 ≤ v33 ∧ v33 < (y13.Bytes.length : Int)) (lett ((y17.1.Bytes.getD v33.toNat 0#8) &&& ~~~(y13.Bytes.getD v33.toNat 0#8)) fun v52 => (if (v52 != (0#8)) then passkeylaw7FlashBitsJ5 q3 v33 true else (if (!v41) then (asq (0 ≤ v33 ∧ v33 < (y17.1.Bytes.length : Int)) (asq (0 ≤ v33 ∧ v33 < (y13.Bytes.length : Int)) (passkeylaw7FlashBitsJ5 q3 v33 ((y17.1.Bytes.getD v33.toNat 0#8) != (y13.Bytes.getD v33.toNat 0#8))))) else passkeylaw7FlashBitsJ5 q3 v33 false)))))
def passkeylaw7FlashBitsL3 (a2 : BitVec 8) (a3 : List (BitVec 8)) (y13 : TApiFlash) (y17 : TApiFlash × Int × Int) : Nat → Int → Option (Bool)
  | 0, _ => none
  | k + 1, v33 =>
  (if (decide (v33 < (y17.1.Bytes.length : Int))) then (if (decide ((a2.toNat : Int) ≤ v33)) then passkeylaw7FlashBitsJ4 (passkeylaw7FlashBitsL3 a2 a3 y13 y17 k) y13 y17 v33 (decide (v33 < (w64 ((a2.toNat : Int) + (a3.length : Int))))) else passkeylaw7FlashBitsJ4 (passkeylaw7FlashBitsL3 a2 a3 y13 y17 k) y13 y17 v33 false) else passkeylaw7FlashBitsJ2)
def passkeylaw7FlashBitsJ1 (a2 : BitVec 8) (a3 : List (BitVec 8)) (y13 : TApiFlash) (y17 : TApiFlash × Int × Int) (v20 : Bool) : Option (Bool) :=
  (if v20 then some false else passkeylaw7FlashBitsL3 a2 a3 y13 y17 FUEL (0 : Int))
/-- passkey/passkeylaw7.FlashBits -/
def passkeylaw7FlashBits (a0 : Int) (a1 : List (Int)) (a2 : BitVec 8) (a3 : List (BitVec 8)) (a4 : Int) : Option (Bool) :=
  (if (decide ((200 : Int) < (a3.length : Int))) then ((passkeylaw7awake ).bind fun y9 => some y9) else ((passkeylaw7made a0 a1).bind fun y13 => ((flashProgram (TApiFlash.mk y13.PageSize y13.Bytes) (0 : Int) (a2.toNat : Int) a3 a4).bind fun y17 => (if (y17.2.2 != (0 : Int)) then (if (y17.2.2 != (16 : Int)) then passkeylaw7FlashBitsJ1 a2 a3 y13 y17 true else passkeylaw7FlashBitsJ1 a2 a3 y13 y17 ((y17.1.Bytes.length : Int) != (y13.Bytes.length : Int))) else passkeylaw7FlashBitsJ1 a2 a3 y13 y17 ((y17.1.Bytes.length : Int) != (y13.Bytes.length : Int))))))


/-- passkey/flash.Erase$1 -/
def flashErase1 (a0 : Int) (a1 : BitVec 8) : Option (BitVec 8) :=
  some (255#8)

def flashchangeFflashErase1J3 (a0 : TApiFlash) (v9 : Int) (v12 : Int) (v14 : List (BitVec 8)) : Option (TApiFlash × Int × Int) :=
  some ((TApiFlash.mk a0.PageSize v14), v9, v12)
def flashchangeFflashErase1L4 (a0 : TApiFlash) (a1 : Int) (v9 : Int) (v10 : Int) (v12 : Int) : Nat → (List (BitVec 8)) → Int → Option (TApiFlash × Int × Int)
  | 0, _, _ => none
  | k + 1, v21, v22 =>
  (if (decide (v22 < v10)) then (asq (0 ≤ (w64 (a1 + v22)) ∧ (w64 (a1 + v22)) < (v21.length : Int)) ((flashErase1 v22 (v21.getD (0 + (w64 (a1 + v22)).toNat) 0#8)).bind fun y34 => (asq (0 ≤ (w64 (a1 + v22)) ∧ (w64 (a1 + v22)) < (v21.length : Int)) ((flashchangeFflashErase1L4 a0 a1 v9 v10 v12 k) (v21.set (0 + (w64 (a1 + v22)).toNat) y34) (w64 (v22 + (1 : Int))))))) else flashchangeFflashErase1J3 a0 v9 v12 v21)
def flashchangeFflashErase1J2 (a0 : TApiFlash) (a1 : Int) (y5 : List (BitVec 8)) (v9 : Int) (v10 : Int) (v12 : Int) : Option (TApiFlash × Int × Int) :=
  flashchangeFflashErase1L4 a0 a1 v9 v10 v12 FUEL y5 (0 : Int)
def flashchangeFflashErase1J1 (a0 : TApiFlash) (a1 : Int) (a2 : Int) (y5 : List (BitVec 8)) (v9 : Int) (v10 : Int) : Option (TApiFlash × Int × Int) :=
  (if (decide (v10 < a2)) then flashchangeFflashErase1J2 a0 a1 y5 v9 v10 (16 : Int) else flashchangeFflashErase1J2 a0 a1 y5 v9 v10 (0 : Int))
/-- passkey/flash.change -/
def flashchangeFflashErase1 (a0 : TApiFlash) (a1 : Int) (a2 : Int) (a3 : Int) : Option (TApiFlash × Int × Int) :=
  ((slicesClonebytebyteOwn a0.Bytes).bind fun y5 => (if (decide ((0 : Int) ≤ a3)) then flashchangeFflashErase1J1 a0 a1 a2 y5 (w64 (a3 - (if a3 < a2 then a3 else a2))) (if a3 < a2 then a3 else a2) else flashchangeFflashErase1J1 a0 a1 a2 y5 a3 a2))


/-- passkey/flash.Erase -/
def flashErase (a0 : TApiFlash) (a1 : Int) (a2 : Int) : Option (TApiFlash × Int × Int) :=
  ((flashplace (TApiFlash.mk a0.PageSize a0.Bytes) a1 (0 : Int) (0 : Int)).bind fun y5 => (if (y5.2 != (0 : Int)) then some ((TApiFlash.mk (0 : Int) ([] : List (BitVec 8))), (0 : Int), y5.2) else ((flashchangeFflashErase1 (TApiFlash.mk a0.PageSize a0.Bytes) y5.1 a0.PageSize a2).bind fun y15 => some ((TApiFlash.mk y15.1.PageSize y15.1.Bytes), y15.2.1, y15.2.2))))


/-- passkey/passkeyref7.Erase -/
def passkeyref7Erase (a0 : TApiFlash) (a1 : Int) (a2 : Int) : Option (TApiFlash × Int × Int) :=
  ((passkeyref7area (TApiFlash.mk a0.PageSize a0.Bytes) a1 (0 : Int) (0 : Int)).bind fun y6 => (if (y6 != (0 : Int)) then some ((TApiFlash.mk (0 : Int) ([] : List (BitVec 8))), (0 : Int), y6) else ((passkeyref7change (TApiFlash.mk a0.PageSize a0.Bytes) (w64 (a1 * a0.PageSize)) a0.PageSize ([] : List (BitVec 8)) a2).bind fun y15 => some ((TApiFlash.mk y15.1.PageSize y15.1.Bytes), y15.2.1, y15.2.2))))


/-- passkey/passkeylaw7.erases -/
def passkeylaw7erases (a0 : TApiFlash) (a1 : Int) (a2 : Int) : Option (Bool) :=
  ((flashErase (TApiFlash.mk a0.PageSize a0.Bytes) a1 a2).bind fun y5 => ((passkeyref7Erase (TApiFlash.mk a0.PageSize a0.Bytes) a1 a2).bind fun y9 => ((passkeyref7SameFlash (TApiFlash.mk y5.1.PageSize y5.1.Bytes) (TApiFlash.mk y9.1.PageSize y9.1.Bytes)).bind fun y13 => (if y13 then (if (y5.2.1 == y9.2.1) then some (y5.2.2 == y9.2.2) else some false) else some false))))


/-- passkey/passkeylaw7.FlashErases -/
def passkeylaw7FlashErases (a0 : Int) (a1 : List (Int)) (a2 : Int) (a3 : Int) (a4 : Int) : Option (Bool) :=
  ((passkeylaw7made a0 a1).bind fun y5 => ((passkeylaw7spoil y5 a4).bind fun y7 => ((passkeylaw7erases (TApiFlash.mk y7.PageSize y7.Bytes) (ibits .and .i64 a2 (3 : Int)) (w64 ((ibits .and .i64 a3 (1023 : Int)) - (20 : Int)))).bind fun y11 => (if y11 then ((passkeylaw7erases (TApiFlash.mk y7.PageSize y7.Bytes) a2 a3).bind fun y14 => (if y14 then ((passkeylaw7awake ).bind fun y17 => some y17) else some false)) else some false))))

end Go.Proofs.Ty
