/-
  No cell of these rows narrows 'for every input' (looked for: loops, veiled, ifaces, maps, wideKeys, modest, calm, conditions, laid).
  DERIVED. THE GIVEN ROWS OF THIS SEAT. 6 by the template 'for every input the law returns true; each argument reads behind the call as it read before'; 0 by the template 'total and deterministic' (their statements: YtjojcickhpgaaaaTotals.lean).
  GIVEN WITH THE SEED: the statements are not yours to turn. If you find one false, say at which input.
  Laid BY PROGRAM, IN A SANDBOX (cutbox-rows.mjs): the forced cells as the released guide's own fill.sh prints them over the translation 1e96a3547920d2de… (all of the seat's roots in one cut). By AI agents, Wed Nov 11 2026. No macro, syntax, notation, axiom, sorry.
-/
import Derived.Test.YtjojcickhpgaaaaChecked
import GoSem.Claim
import GoSem.ClaimJoined
import GoSem.ClaimMapViews
import Derived.JoinedTies
import Derived.KernelRfl
namespace Go.Proofs.Ytjojcickhpgaaaa
/- THE CELL 'sum', in the pinned program and in every row, IS THE sha256 OF THE DUMP (.gsa) THAT YtjojcickhpgaaaaProg.lean LOADS. Nothing in Lean hashes anything: it is a label: what it is worth is what the hold of that sum in a sandbox is worth. -/
noncomputable def Try.pinned : Pinned := { name := "ytjojcickhpgaaaa", sum := "1e96a3547920d2de04d99089e65985aeea4ee1dfc4e8d066ac35b82d1b8aa9c1", checked := Try.checked }
namespace Rows
def none {H : Type} : Left H := { results := [], args := [] }

/-- 'passkeylaw5.ExchangeMul': WHATEVER THE INPUT: true; the input reads as it did. -/
def exchangeMulSpec : ChangeSpec := { name := "exchangeMul", fn := fun _ => fun
  | [d1, d2, d3] => { results := [.lit (.bool true)], args := [d1, d2, d3] }
  | _ => none }
def exchangeMulRow : OpenClaim := { program := "ytjojcickhpgaaaa", sum := "1e96a3547920d2de04d99089e65985aeea4ee1dfc4e8d066ac35b82d1b8aa9c1", func := "passkey/passkeylaw5.ExchangeMul", spec := "exchangeMul", named := ["math/bits.divideError", "math/bits.overflowError"], apart := false }
def ExchangeMulSaid : Prop := exchangeMulRow.holds Try.pinned (OpenSpec.ofChange exchangeMulSpec)

/-- ITS FALSE NEIGHBOUR: 'it returns false'. Refute it at one input. -/
def exchangeMulWrong : ChangeSpec := { name := "exchangeMul", fn := fun _ => fun
  | [d1, d2, d3] => { results := [.lit (.bool false)], args := [d1, d2, d3] }
  | _ => none }
def ExchangeMulWrongFalsely : Prop := exchangeMulRow.holds Try.pinned (OpenSpec.ofChange exchangeMulWrong)

/-- 'passkeylaw5.ExchangePower': WHATEVER THE INPUT: true; the input reads as it did. -/
def exchangePowerSpec : ChangeSpec := { name := "exchangePower", fn := fun _ => fun
  | [d1, d2, d3] => { results := [.lit (.bool true)], args := [d1, d2, d3] }
  | _ => none }
def exchangePowerRow : OpenClaim := { program := "ytjojcickhpgaaaa", sum := "1e96a3547920d2de04d99089e65985aeea4ee1dfc4e8d066ac35b82d1b8aa9c1", func := "passkey/passkeylaw5.ExchangePower", spec := "exchangePower", named := ["math/bits.divideError", "math/bits.overflowError"], apart := false }
def ExchangePowerSaid : Prop := exchangePowerRow.holds Try.pinned (OpenSpec.ofChange exchangePowerSpec)

/-- ITS FALSE NEIGHBOUR: 'it returns false'. Refute it at one input. -/
def exchangePowerWrong : ChangeSpec := { name := "exchangePower", fn := fun _ => fun
  | [d1, d2, d3] => { results := [.lit (.bool false)], args := [d1, d2, d3] }
  | _ => none }
def ExchangePowerWrongFalsely : Prop := exchangePowerRow.holds Try.pinned (OpenSpec.ofChange exchangePowerWrong)

/-- 'passkeylaw5.ExchangeField': WHATEVER THE INPUT: true; the input reads as it did. -/
def exchangeFieldSpec : ChangeSpec := { name := "exchangeField", fn := fun _ => fun
  | [d1, d2, d3] => { results := [.lit (.bool true)], args := [d1, d2, d3] }
  | _ => none }
def exchangeFieldRow : OpenClaim := { program := "ytjojcickhpgaaaa", sum := "1e96a3547920d2de04d99089e65985aeea4ee1dfc4e8d066ac35b82d1b8aa9c1", func := "passkey/passkeylaw5.ExchangeField", spec := "exchangeField", named := ["math/bits.divideError", "math/bits.overflowError"], apart := false }
def ExchangeFieldSaid : Prop := exchangeFieldRow.holds Try.pinned (OpenSpec.ofChange exchangeFieldSpec)

/-- ITS FALSE NEIGHBOUR: 'it returns false'. Refute it at one input. -/
def exchangeFieldWrong : ChangeSpec := { name := "exchangeField", fn := fun _ => fun
  | [d1, d2, d3] => { results := [.lit (.bool false)], args := [d1, d2, d3] }
  | _ => none }
def ExchangeFieldWrongFalsely : Prop := exchangeFieldRow.holds Try.pinned (OpenSpec.ofChange exchangeFieldWrong)

/-- 'passkeylaw5.ExchangeSums': WHATEVER THE INPUT: true; the input reads as it did. -/
def exchangeSumsSpec : ChangeSpec := { name := "exchangeSums", fn := fun _ => fun
  | [d1, d2, d3] => { results := [.lit (.bool true)], args := [d1, d2, d3] }
  | _ => none }
def exchangeSumsRow : OpenClaim := { program := "ytjojcickhpgaaaa", sum := "1e96a3547920d2de04d99089e65985aeea4ee1dfc4e8d066ac35b82d1b8aa9c1", func := "passkey/passkeylaw5.ExchangeSums", spec := "exchangeSums", named := ["math/bits.divideError", "math/bits.overflowError"], apart := false }
def ExchangeSumsSaid : Prop := exchangeSumsRow.holds Try.pinned (OpenSpec.ofChange exchangeSumsSpec)

/-- ITS FALSE NEIGHBOUR: 'it returns false'. Refute it at one input. -/
def exchangeSumsWrong : ChangeSpec := { name := "exchangeSums", fn := fun _ => fun
  | [d1, d2, d3] => { results := [.lit (.bool false)], args := [d1, d2, d3] }
  | _ => none }
def ExchangeSumsWrongFalsely : Prop := exchangeSumsRow.holds Try.pinned (OpenSpec.ofChange exchangeSumsWrong)

/-- 'passkeylaw5.ExchangeShared': WHATEVER THE INPUT: true; the input reads as it did. -/
def exchangeSharedSpec : ChangeSpec := { name := "exchangeShared", fn := fun _ => fun
  | [d1, d2, d3] => { results := [.lit (.bool true)], args := [d1, d2, d3] }
  | _ => none }
def exchangeSharedRow : OpenClaim := { program := "ytjojcickhpgaaaa", sum := "1e96a3547920d2de04d99089e65985aeea4ee1dfc4e8d066ac35b82d1b8aa9c1", func := "passkey/passkeylaw5.ExchangeShared", spec := "exchangeShared", named := ["math/bits.divideError", "math/bits.overflowError"], apart := false }
def ExchangeSharedSaid : Prop := exchangeSharedRow.holds Try.pinned (OpenSpec.ofChange exchangeSharedSpec)

/-- ITS FALSE NEIGHBOUR: 'it returns false'. Refute it at one input. -/
def exchangeSharedWrong : ChangeSpec := { name := "exchangeShared", fn := fun _ => fun
  | [d1, d2, d3] => { results := [.lit (.bool false)], args := [d1, d2, d3] }
  | _ => none }
def ExchangeSharedWrongFalsely : Prop := exchangeSharedRow.holds Try.pinned (OpenSpec.ofChange exchangeSharedWrong)

/-- 'passkeylaw5.ExchangeAgrees': WHATEVER THE INPUT: true; the input reads as it did. -/
def exchangeAgreesSpec : ChangeSpec := { name := "exchangeAgrees", fn := fun _ => fun
  | [d1, d2] => { results := [.lit (.bool true)], args := [d1, d2] }
  | _ => none }
def exchangeAgreesRow : OpenClaim := { program := "ytjojcickhpgaaaa", sum := "1e96a3547920d2de04d99089e65985aeea4ee1dfc4e8d066ac35b82d1b8aa9c1", func := "passkey/passkeylaw5.ExchangeAgrees", spec := "exchangeAgrees", named := ["math/bits.divideError", "math/bits.overflowError"], apart := false }
def ExchangeAgreesSaid : Prop := exchangeAgreesRow.holds Try.pinned (OpenSpec.ofChange exchangeAgreesSpec)

/-- ITS FALSE NEIGHBOUR: 'it returns false'. Refute it at one input. -/
def exchangeAgreesWrong : ChangeSpec := { name := "exchangeAgrees", fn := fun _ => fun
  | [d1, d2] => { results := [.lit (.bool false)], args := [d1, d2] }
  | _ => none }
def ExchangeAgreesWrongFalsely : Prop := exchangeAgreesRow.holds Try.pinned (OpenSpec.ofChange exchangeAgreesWrong)

/- THE SECOND FORM. 'bulk': how many values and letters a reading holds, each counted each time it is reached (what is shared counts as often as it is met; a slice's spare places count too). A statement '..UptoSaid' is the law's where the arguments, and the package variables that the reading takes, are together of bulk at most 1048576: NARROWER than '..Said'. Prove '..Said' where nothing that the law and all that it calls make is longer than what came in: it says more and counts as full. Else prove '..UptoSaid'. A law counts once. -/
mutual
def uptoBulk {H : Type} : DataW H → Nat
  | .lit (.string bytes) => bytes.length + 1
  | .lit _ => 1
  | .nil => 1
  | .ptr d => uptoBulk d + 1
  | .slice elems spare => uptoBulkAll elems + uptoBulkAll spare + 1
  | .agg parts => uptoBulkAll parts + 1
  | .iface _ d => uptoBulk d + 1
  | .map entries => uptoBulkEntries entries + 1
  | .held _ => 1
def uptoBulkAll {H : Type} : List (DataW H) → Nat
  | [] => 0
  | d :: r => uptoBulk d + uptoBulkAll r
def uptoBulkEntries {H : Type} : List (Lit × DataW H) → Nat
  | [] => 0
  | x :: r => uptoBulkEntry x + uptoBulkEntries r
def uptoBulkEntry {H : Type} : Lit × DataW H → Nat
  | (.string bytes, d) => bytes.length + uptoBulk d + 1
  | (_, d) => uptoBulk d + 1
 end
def uptoSmall : (H : Type) → List (DataW H) → Bool := fun _ ds => decide (uptoBulkAll ds ≤ 1048576)
def OpenSpec.upto (s : _root_.Go.ChangeSpec) : _root_.Go.OpenSpec := { _root_.Go.OpenSpec.ofChange s with cond := some uptoSmall }

/-- 'passkeylaw5.ExchangeMul', WHERE WHAT IT READS IS OF BULK AT MOST 1048576: true; the input reads as it did. -/
def exchangeMulUptoRow : OpenClaim := { program := "ytjojcickhpgaaaa", sum := "1e96a3547920d2de04d99089e65985aeea4ee1dfc4e8d066ac35b82d1b8aa9c1", func := "passkey/passkeylaw5.ExchangeMul", spec := "exchangeMul", named := ["math/bits.divideError", "math/bits.overflowError"], apart := false, narrowed := true }
def ExchangeMulUptoSaid : Prop := exchangeMulUptoRow.holds Try.pinned (OpenSpec.upto exchangeMulSpec)

/-- 'passkeylaw5.ExchangePower', WHERE WHAT IT READS IS OF BULK AT MOST 1048576: true; the input reads as it did. -/
def exchangePowerUptoRow : OpenClaim := { program := "ytjojcickhpgaaaa", sum := "1e96a3547920d2de04d99089e65985aeea4ee1dfc4e8d066ac35b82d1b8aa9c1", func := "passkey/passkeylaw5.ExchangePower", spec := "exchangePower", named := ["math/bits.divideError", "math/bits.overflowError"], apart := false, narrowed := true }
def ExchangePowerUptoSaid : Prop := exchangePowerUptoRow.holds Try.pinned (OpenSpec.upto exchangePowerSpec)

/-- 'passkeylaw5.ExchangeField', WHERE WHAT IT READS IS OF BULK AT MOST 1048576: true; the input reads as it did. -/
def exchangeFieldUptoRow : OpenClaim := { program := "ytjojcickhpgaaaa", sum := "1e96a3547920d2de04d99089e65985aeea4ee1dfc4e8d066ac35b82d1b8aa9c1", func := "passkey/passkeylaw5.ExchangeField", spec := "exchangeField", named := ["math/bits.divideError", "math/bits.overflowError"], apart := false, narrowed := true }
def ExchangeFieldUptoSaid : Prop := exchangeFieldUptoRow.holds Try.pinned (OpenSpec.upto exchangeFieldSpec)

/-- 'passkeylaw5.ExchangeSums', WHERE WHAT IT READS IS OF BULK AT MOST 1048576: true; the input reads as it did. -/
def exchangeSumsUptoRow : OpenClaim := { program := "ytjojcickhpgaaaa", sum := "1e96a3547920d2de04d99089e65985aeea4ee1dfc4e8d066ac35b82d1b8aa9c1", func := "passkey/passkeylaw5.ExchangeSums", spec := "exchangeSums", named := ["math/bits.divideError", "math/bits.overflowError"], apart := false, narrowed := true }
def ExchangeSumsUptoSaid : Prop := exchangeSumsUptoRow.holds Try.pinned (OpenSpec.upto exchangeSumsSpec)

/-- 'passkeylaw5.ExchangeShared', WHERE WHAT IT READS IS OF BULK AT MOST 1048576: true; the input reads as it did. -/
def exchangeSharedUptoRow : OpenClaim := { program := "ytjojcickhpgaaaa", sum := "1e96a3547920d2de04d99089e65985aeea4ee1dfc4e8d066ac35b82d1b8aa9c1", func := "passkey/passkeylaw5.ExchangeShared", spec := "exchangeShared", named := ["math/bits.divideError", "math/bits.overflowError"], apart := false, narrowed := true }
def ExchangeSharedUptoSaid : Prop := exchangeSharedUptoRow.holds Try.pinned (OpenSpec.upto exchangeSharedSpec)

/-- 'passkeylaw5.ExchangeAgrees', WHERE WHAT IT READS IS OF BULK AT MOST 1048576: true; the input reads as it did. -/
def exchangeAgreesUptoRow : OpenClaim := { program := "ytjojcickhpgaaaa", sum := "1e96a3547920d2de04d99089e65985aeea4ee1dfc4e8d066ac35b82d1b8aa9c1", func := "passkey/passkeylaw5.ExchangeAgrees", spec := "exchangeAgrees", named := ["math/bits.divideError", "math/bits.overflowError"], apart := false, narrowed := true }
def ExchangeAgreesUptoSaid : Prop := exchangeAgreesUptoRow.holds Try.pinned (OpenSpec.upto exchangeAgreesSpec)

end Rows
end Go.Proofs.Ytjojcickhpgaaaa
