/-
  No cell of these rows narrows 'for every input' (looked for: loops, veiled, ifaces, maps, wideKeys, modest, calm, conditions, laid).
  DERIVED. THE GIVEN ROWS OF THIS SEAT. 6 by the template 'for every input the law returns true; each argument reads behind the call as it read before'; 0 by the template 'total and deterministic' (their statements: YtkcbojjoellloaaTotals.lean).
  GIVEN WITH THE SEED: the statements are not yours to turn. If you find one false, say at which input.
  Laid BY PROGRAM, IN A SANDBOX (cutbox-rows.mjs): the forced cells as the released guide's own fill.sh prints them over the translation 59e53cac6451c3f9… (all of the seat's roots in one cut). By AI agents, Wed Nov 11 2026. No macro, syntax, notation, axiom, sorry.
-/
import Derived.Test.YtkcbojjoellloaaChecked
import GoSem.Claim
import GoSem.ClaimJoined
import GoSem.ClaimMapViews
import Derived.JoinedTies
import Derived.KernelRfl
namespace Go.Proofs.Ytkcbojjoellloaa
/- THE CELL 'sum', in the pinned program and in every row, IS THE sha256 OF THE DUMP (.gsa) THAT YtkcbojjoellloaaProg.lean LOADS. Nothing in Lean hashes anything: it is a label: what it is worth is what the hold of that sum in a sandbox is worth. -/
noncomputable def Try.pinned : Pinned := { name := "ytkcbojjoellloaa", sum := "59e53cac6451c3f9d5a85a4635f06596e8a3973c2671d9a53e87cc40ee28f6f4", checked := Try.checked }
namespace Rows
def none {H : Type} : Left H := { results := [], args := [] }

/-- 'passkeylaw6.SealStreams': WHATEVER THE INPUT: true; the input reads as it did. -/
def sealStreamsSpec : ChangeSpec := { name := "sealStreams", fn := fun _ => fun
  | [d1, d2, d3, d4] => { results := [.lit (.bool true)], args := [d1, d2, d3, d4] }
  | _ => none }
def sealStreamsRow : OpenClaim := { program := "ytkcbojjoellloaa", sum := "59e53cac6451c3f9d5a85a4635f06596e8a3973c2671d9a53e87cc40ee28f6f4", func := "passkey/passkeylaw6.SealStreams", spec := "sealStreams", apart := false }
def SealStreamsSaid : Prop := sealStreamsRow.holds Try.pinned (OpenSpec.ofChange sealStreamsSpec)

/-- ITS FALSE NEIGHBOUR: 'it returns false'. Refute it at one input. -/
def sealStreamsWrong : ChangeSpec := { name := "sealStreams", fn := fun _ => fun
  | [d1, d2, d3, d4] => { results := [.lit (.bool false)], args := [d1, d2, d3, d4] }
  | _ => none }
def SealStreamsWrongFalsely : Prop := sealStreamsRow.holds Try.pinned (OpenSpec.ofChange sealStreamsWrong)

/-- 'passkeylaw6.SealCloses': WHATEVER THE INPUT: true; the input reads as it did. -/
def sealClosesSpec : ChangeSpec := { name := "sealCloses", fn := fun _ => fun
  | [d1, d2, d3, d4] => { results := [.lit (.bool true)], args := [d1, d2, d3, d4] }
  | _ => none }
def sealClosesRow : OpenClaim := { program := "ytkcbojjoellloaa", sum := "59e53cac6451c3f9d5a85a4635f06596e8a3973c2671d9a53e87cc40ee28f6f4", func := "passkey/passkeylaw6.SealCloses", spec := "sealCloses", apart := false }
def SealClosesSaid : Prop := sealClosesRow.holds Try.pinned (OpenSpec.ofChange sealClosesSpec)

/-- ITS FALSE NEIGHBOUR: 'it returns false'. Refute it at one input. -/
def sealClosesWrong : ChangeSpec := { name := "sealCloses", fn := fun _ => fun
  | [d1, d2, d3, d4] => { results := [.lit (.bool false)], args := [d1, d2, d3, d4] }
  | _ => none }
def SealClosesWrongFalsely : Prop := sealClosesRow.holds Try.pinned (OpenSpec.ofChange sealClosesWrong)

/-- 'passkeylaw6.SealOpens': WHATEVER THE INPUT: true; the input reads as it did. -/
def sealOpensSpec : ChangeSpec := { name := "sealOpens", fn := fun _ => fun
  | [d1, d2, d3, d4, d5, d6, d7] => { results := [.lit (.bool true)], args := [d1, d2, d3, d4, d5, d6, d7] }
  | _ => none }
def sealOpensRow : OpenClaim := { program := "ytkcbojjoellloaa", sum := "59e53cac6451c3f9d5a85a4635f06596e8a3973c2671d9a53e87cc40ee28f6f4", func := "passkey/passkeylaw6.SealOpens", spec := "sealOpens", apart := false }
def SealOpensSaid : Prop := sealOpensRow.holds Try.pinned (OpenSpec.ofChange sealOpensSpec)

/-- ITS FALSE NEIGHBOUR: 'it returns false'. Refute it at one input. -/
def sealOpensWrong : ChangeSpec := { name := "sealOpens", fn := fun _ => fun
  | [d1, d2, d3, d4, d5, d6, d7] => { results := [.lit (.bool false)], args := [d1, d2, d3, d4, d5, d6, d7] }
  | _ => none }
def SealOpensWrongFalsely : Prop := sealOpensRow.holds Try.pinned (OpenSpec.ofChange sealOpensWrong)

/-- 'passkeylaw6.SealBack': WHATEVER THE INPUT: true; the input reads as it did. -/
def sealBackSpec : ChangeSpec := { name := "sealBack", fn := fun _ => fun
  | [d1, d2, d3, d4] => { results := [.lit (.bool true)], args := [d1, d2, d3, d4] }
  | _ => none }
def sealBackRow : OpenClaim := { program := "ytkcbojjoellloaa", sum := "59e53cac6451c3f9d5a85a4635f06596e8a3973c2671d9a53e87cc40ee28f6f4", func := "passkey/passkeylaw6.SealBack", spec := "sealBack", apart := false }
def SealBackSaid : Prop := sealBackRow.holds Try.pinned (OpenSpec.ofChange sealBackSpec)

/-- ITS FALSE NEIGHBOUR: 'it returns false'. Refute it at one input. -/
def sealBackWrong : ChangeSpec := { name := "sealBack", fn := fun _ => fun
  | [d1, d2, d3, d4] => { results := [.lit (.bool false)], args := [d1, d2, d3, d4] }
  | _ => none }
def SealBackWrongFalsely : Prop := sealBackRow.holds Try.pinned (OpenSpec.ofChange sealBackWrong)

/-- 'passkeylaw6.SealOnly': WHATEVER THE INPUT: true; the input reads as it did. -/
def sealOnlySpec : ChangeSpec := { name := "sealOnly", fn := fun _ => fun
  | [d1, d2, d3, d4, d5] => { results := [.lit (.bool true)], args := [d1, d2, d3, d4, d5] }
  | _ => none }
def sealOnlyRow : OpenClaim := { program := "ytkcbojjoellloaa", sum := "59e53cac6451c3f9d5a85a4635f06596e8a3973c2671d9a53e87cc40ee28f6f4", func := "passkey/passkeylaw6.SealOnly", spec := "sealOnly", apart := false }
def SealOnlySaid : Prop := sealOnlyRow.holds Try.pinned (OpenSpec.ofChange sealOnlySpec)

/-- ITS FALSE NEIGHBOUR: 'it returns false'. Refute it at one input. -/
def sealOnlyWrong : ChangeSpec := { name := "sealOnly", fn := fun _ => fun
  | [d1, d2, d3, d4, d5] => { results := [.lit (.bool false)], args := [d1, d2, d3, d4, d5] }
  | _ => none }
def SealOnlyWrongFalsely : Prop := sealOnlyRow.holds Try.pinned (OpenSpec.ofChange sealOnlyWrong)

/-- 'passkeylaw6.SealLimits': WHATEVER THE INPUT: true; the input reads as it did. -/
def sealLimitsSpec : ChangeSpec := { name := "sealLimits", fn := fun _ => fun
  | [d] => { results := [.lit (.bool true)], args := [d] }
  | _ => none }
def sealLimitsRow : OpenClaim := { program := "ytkcbojjoellloaa", sum := "59e53cac6451c3f9d5a85a4635f06596e8a3973c2671d9a53e87cc40ee28f6f4", func := "passkey/passkeylaw6.SealLimits", spec := "sealLimits", apart := false }
def SealLimitsSaid : Prop := sealLimitsRow.holds Try.pinned (OpenSpec.ofChange sealLimitsSpec)

/-- ITS FALSE NEIGHBOUR: 'it returns false'. Refute it at one input. -/
def sealLimitsWrong : ChangeSpec := { name := "sealLimits", fn := fun _ => fun
  | [d] => { results := [.lit (.bool false)], args := [d] }
  | _ => none }
def SealLimitsWrongFalsely : Prop := sealLimitsRow.holds Try.pinned (OpenSpec.ofChange sealLimitsWrong)

/- THE SECOND FORM. 'bulk': how many values and letters a reading holds, each counted each time it is reached (what is shared counts as often as it is met; a slice's spare places count too). A statement '..UptoSaid' is the law's where the arguments, and the package variables that the reading takes, are together of bulk at most 1048576: NARROWER than '..Said'. Prove '..Said' where nothing that the law and all that it calls make is longer than what came in: it says more and counts as full. Else prove '..UptoSaid'. A law counts once. -/
mutual
def uptoBulk {H : Type} : DataW H → Nat
  | .lit (.string bytes) => bytes.length + 1
  | .lit _ => 1
  | .nil => 1
  | .ptr d => uptoBulk d + 1
  | .slice elems spare => uptoBulkAll elems + uptoBulkAll spare + 1
  | .agg parts => uptoBulkAll parts + 1
  | .iface _ d => uptoBulk d + 1
  | .map entries => uptoBulkEntries entries + 1
  | .held _ => 1
def uptoBulkAll {H : Type} : List (DataW H) → Nat
  | [] => 0
  | d :: r => uptoBulk d + uptoBulkAll r
def uptoBulkEntries {H : Type} : List (Lit × DataW H) → Nat
  | [] => 0
  | x :: r => uptoBulkEntry x + uptoBulkEntries r
def uptoBulkEntry {H : Type} : Lit × DataW H → Nat
  | (.string bytes, d) => bytes.length + uptoBulk d + 1
  | (_, d) => uptoBulk d + 1
 end
def uptoSmall : (H : Type) → List (DataW H) → Bool := fun _ ds => decide (uptoBulkAll ds ≤ 1048576)
def OpenSpec.upto (s : _root_.Go.ChangeSpec) : _root_.Go.OpenSpec := { _root_.Go.OpenSpec.ofChange s with cond := some uptoSmall }

/-- 'passkeylaw6.SealStreams', WHERE WHAT IT READS IS OF BULK AT MOST 1048576: true; the input reads as it did. -/
def sealStreamsUptoRow : OpenClaim := { program := "ytkcbojjoellloaa", sum := "59e53cac6451c3f9d5a85a4635f06596e8a3973c2671d9a53e87cc40ee28f6f4", func := "passkey/passkeylaw6.SealStreams", spec := "sealStreams", apart := false, narrowed := true }
def SealStreamsUptoSaid : Prop := sealStreamsUptoRow.holds Try.pinned (OpenSpec.upto sealStreamsSpec)

/-- 'passkeylaw6.SealCloses', WHERE WHAT IT READS IS OF BULK AT MOST 1048576: true; the input reads as it did. -/
def sealClosesUptoRow : OpenClaim := { program := "ytkcbojjoellloaa", sum := "59e53cac6451c3f9d5a85a4635f06596e8a3973c2671d9a53e87cc40ee28f6f4", func := "passkey/passkeylaw6.SealCloses", spec := "sealCloses", apart := false, narrowed := true }
def SealClosesUptoSaid : Prop := sealClosesUptoRow.holds Try.pinned (OpenSpec.upto sealClosesSpec)

/-- 'passkeylaw6.SealOpens', WHERE WHAT IT READS IS OF BULK AT MOST 1048576: true; the input reads as it did. -/
def sealOpensUptoRow : OpenClaim := { program := "ytkcbojjoellloaa", sum := "59e53cac6451c3f9d5a85a4635f06596e8a3973c2671d9a53e87cc40ee28f6f4", func := "passkey/passkeylaw6.SealOpens", spec := "sealOpens", apart := false, narrowed := true }
def SealOpensUptoSaid : Prop := sealOpensUptoRow.holds Try.pinned (OpenSpec.upto sealOpensSpec)

/-- 'passkeylaw6.SealBack', WHERE WHAT IT READS IS OF BULK AT MOST 1048576: true; the input reads as it did. -/
def sealBackUptoRow : OpenClaim := { program := "ytkcbojjoellloaa", sum := "59e53cac6451c3f9d5a85a4635f06596e8a3973c2671d9a53e87cc40ee28f6f4", func := "passkey/passkeylaw6.SealBack", spec := "sealBack", apart := false, narrowed := true }
def SealBackUptoSaid : Prop := sealBackUptoRow.holds Try.pinned (OpenSpec.upto sealBackSpec)

/-- 'passkeylaw6.SealOnly', WHERE WHAT IT READS IS OF BULK AT MOST 1048576: true; the input reads as it did. -/
def sealOnlyUptoRow : OpenClaim := { program := "ytkcbojjoellloaa", sum := "59e53cac6451c3f9d5a85a4635f06596e8a3973c2671d9a53e87cc40ee28f6f4", func := "passkey/passkeylaw6.SealOnly", spec := "sealOnly", apart := false, narrowed := true }
def SealOnlyUptoSaid : Prop := sealOnlyUptoRow.holds Try.pinned (OpenSpec.upto sealOnlySpec)

/-- 'passkeylaw6.SealLimits', WHERE WHAT IT READS IS OF BULK AT MOST 1048576: true; the input reads as it did. -/
def sealLimitsUptoRow : OpenClaim := { program := "ytkcbojjoellloaa", sum := "59e53cac6451c3f9d5a85a4635f06596e8a3973c2671d9a53e87cc40ee28f6f4", func := "passkey/passkeylaw6.SealLimits", spec := "sealLimits", apart := false, narrowed := true }
def SealLimitsUptoSaid : Prop := sealLimitsUptoRow.holds Try.pinned (OpenSpec.upto sealLimitsSpec)

end Rows
end Go.Proofs.Ytkcbojjoellloaa
