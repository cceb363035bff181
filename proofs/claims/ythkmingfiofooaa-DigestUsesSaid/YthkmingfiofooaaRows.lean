/-
  No cell of these rows narrows 'for every input' (looked for: loops, veiled, ifaces, maps, wideKeys, modest, calm, conditions, laid).
  DERIVED. THE GIVEN ROWS OF THIS SEAT. 4 by the template 'for every input the law returns true; each argument reads behind the call as it read before'; 0 by the template 'total and deterministic' (their statements: YthkmingfiofooaaTotals.lean).
  GIVEN WITH THE SEED: the statements are not yours to turn. If you find one false, say at which input.
  Laid BY PROGRAM, IN A SANDBOX (cutbox-rows.mjs): the forced cells as the released guide's own fill.sh prints them over the translation 64c053eff7d2b11d… (all of the seat's roots in one cut). By AI agents, Wed Nov 11 2026. No macro, syntax, notation, axiom, sorry.
-/
import Derived.Test.YthkmingfiofooaaChecked
import GoSem.Claim
import GoSem.ClaimJoined
import GoSem.ClaimMapViews
import Derived.JoinedTies
import Derived.KernelRfl
namespace Go.Proofs.Ythkmingfiofooaa
/- THE CELL 'sum', in the pinned program and in every row, IS THE sha256 OF THE DUMP (.gsa) THAT YthkmingfiofooaaProg.lean LOADS. Nothing in Lean hashes anything: it is a label: what it is worth is what the hold of that sum in a sandbox is worth. -/
noncomputable def Try.pinned : Pinned := { name := "ythkmingfiofooaa", sum := "64c053eff7d2b11d6f1b7cd1ac3ac9eff9d905fbbbe3fa6f8b009212e9ac4b85", checked := Try.checked }
namespace Rows
def none {H : Type} : Left H := { results := [], args := [] }

/-- 'passkeylaw2.DigestSums': WHATEVER THE INPUT: true; the input reads as it did. -/
def digestSumsSpec : ChangeSpec := { name := "digestSums", fn := fun _ => fun
  | [d1, d2, d3] => { results := [.lit (.bool true)], args := [d1, d2, d3] }
  | _ => none }
def digestSumsRow : OpenClaim := { program := "ythkmingfiofooaa", sum := "64c053eff7d2b11d6f1b7cd1ac3ac9eff9d905fbbbe3fa6f8b009212e9ac4b85", func := "passkey/passkeylaw2.DigestSums", spec := "digestSums", apart := false }
def DigestSumsSaid : Prop := digestSumsRow.holds Try.pinned (OpenSpec.ofChange digestSumsSpec)

/-- ITS FALSE NEIGHBOUR: 'it returns false'. Refute it at one input. -/
def digestSumsWrong : ChangeSpec := { name := "digestSums", fn := fun _ => fun
  | [d1, d2, d3] => { results := [.lit (.bool false)], args := [d1, d2, d3] }
  | _ => none }
def DigestSumsWrongFalsely : Prop := digestSumsRow.holds Try.pinned (OpenSpec.ofChange digestSumsWrong)

/-- 'passkeylaw2.DigestWords': WHATEVER THE INPUT: true; the input reads as it did. -/
def digestWordsSpec : ChangeSpec := { name := "digestWords", fn := fun _ => fun
  | [d1, d2] => { results := [.lit (.bool true)], args := [d1, d2] }
  | _ => none }
def digestWordsRow : OpenClaim := { program := "ythkmingfiofooaa", sum := "64c053eff7d2b11d6f1b7cd1ac3ac9eff9d905fbbbe3fa6f8b009212e9ac4b85", func := "passkey/passkeylaw2.DigestWords", spec := "digestWords", apart := false }
def DigestWordsSaid : Prop := digestWordsRow.holds Try.pinned (OpenSpec.ofChange digestWordsSpec)

/-- ITS FALSE NEIGHBOUR: 'it returns false'. Refute it at one input. -/
def digestWordsWrong : ChangeSpec := { name := "digestWords", fn := fun _ => fun
  | [d1, d2] => { results := [.lit (.bool false)], args := [d1, d2] }
  | _ => none }
def DigestWordsWrongFalsely : Prop := digestWordsRow.holds Try.pinned (OpenSpec.ofChange digestWordsWrong)

/-- 'passkeylaw2.DigestTail': WHATEVER THE INPUT: true; the input reads as it did. -/
def digestTailSpec : ChangeSpec := { name := "digestTail", fn := fun _ => fun
  | [d1, d2, d3] => { results := [.lit (.bool true)], args := [d1, d2, d3] }
  | _ => none }
def digestTailRow : OpenClaim := { program := "ythkmingfiofooaa", sum := "64c053eff7d2b11d6f1b7cd1ac3ac9eff9d905fbbbe3fa6f8b009212e9ac4b85", func := "passkey/passkeylaw2.DigestTail", spec := "digestTail", apart := false }
def DigestTailSaid : Prop := digestTailRow.holds Try.pinned (OpenSpec.ofChange digestTailSpec)

/-- ITS FALSE NEIGHBOUR: 'it returns false'. Refute it at one input. -/
def digestTailWrong : ChangeSpec := { name := "digestTail", fn := fun _ => fun
  | [d1, d2, d3] => { results := [.lit (.bool false)], args := [d1, d2, d3] }
  | _ => none }
def DigestTailWrongFalsely : Prop := digestTailRow.holds Try.pinned (OpenSpec.ofChange digestTailWrong)

/-- 'passkeylaw2.DigestUses': WHATEVER THE INPUT: true; the input reads as it did. -/
def digestUsesSpec : ChangeSpec := { name := "digestUses", fn := fun _ => fun
  | [d1, d2, d3, d4, d5] => { results := [.lit (.bool true)], args := [d1, d2, d3, d4, d5] }
  | _ => none }
def digestUsesRow : OpenClaim := { program := "ythkmingfiofooaa", sum := "64c053eff7d2b11d6f1b7cd1ac3ac9eff9d905fbbbe3fa6f8b009212e9ac4b85", func := "passkey/passkeylaw2.DigestUses", spec := "digestUses", apart := false }
def DigestUsesSaid : Prop := digestUsesRow.holds Try.pinned (OpenSpec.ofChange digestUsesSpec)

/-- ITS FALSE NEIGHBOUR: 'it returns false'. Refute it at one input. -/
def digestUsesWrong : ChangeSpec := { name := "digestUses", fn := fun _ => fun
  | [d1, d2, d3, d4, d5] => { results := [.lit (.bool false)], args := [d1, d2, d3, d4, d5] }
  | _ => none }
def DigestUsesWrongFalsely : Prop := digestUsesRow.holds Try.pinned (OpenSpec.ofChange digestUsesWrong)

/- THE SECOND FORM. 'bulk': how many values and letters a reading holds, each counted each time it is reached (what is shared counts as often as it is met; a slice's spare places count too). A statement '..UptoSaid' is the law's where the arguments, and the package variables that the reading takes, are together of bulk at most 1048576: NARROWER than '..Said'. Prove '..Said' where nothing that the law and all that it calls make is longer than what came in: it says more and counts as full. Else prove '..UptoSaid'. A law counts once. -/
mutual
def uptoBulk {H : Type} : DataW H → Nat
  | .lit (.string bytes) => bytes.length + 1
  | .lit _ => 1
  | .nil => 1
  | .ptr d => uptoBulk d + 1
  | .slice elems spare => uptoBulkAll elems + uptoBulkAll spare + 1
  | .agg parts => uptoBulkAll parts + 1
  | .iface _ d => uptoBulk d + 1
  | .map entries => uptoBulkEntries entries + 1
  | .held _ => 1
def uptoBulkAll {H : Type} : List (DataW H) → Nat
  | [] => 0
  | d :: r => uptoBulk d + uptoBulkAll r
def uptoBulkEntries {H : Type} : List (Lit × DataW H) → Nat
  | [] => 0
  | x :: r => uptoBulkEntry x + uptoBulkEntries r
def uptoBulkEntry {H : Type} : Lit × DataW H → Nat
  | (.string bytes, d) => bytes.length + uptoBulk d + 1
  | (_, d) => uptoBulk d + 1
 end
def uptoSmall : (H : Type) → List (DataW H) → Bool := fun _ ds => decide (uptoBulkAll ds ≤ 1048576)
def OpenSpec.upto (s : _root_.Go.ChangeSpec) : _root_.Go.OpenSpec := { _root_.Go.OpenSpec.ofChange s with cond := some uptoSmall }

/-- 'passkeylaw2.DigestSums', WHERE WHAT IT READS IS OF BULK AT MOST 1048576: true; the input reads as it did. -/
def digestSumsUptoRow : OpenClaim := { program := "ythkmingfiofooaa", sum := "64c053eff7d2b11d6f1b7cd1ac3ac9eff9d905fbbbe3fa6f8b009212e9ac4b85", func := "passkey/passkeylaw2.DigestSums", spec := "digestSums", apart := false, narrowed := true }
def DigestSumsUptoSaid : Prop := digestSumsUptoRow.holds Try.pinned (OpenSpec.upto digestSumsSpec)

/-- 'passkeylaw2.DigestWords', WHERE WHAT IT READS IS OF BULK AT MOST 1048576: true; the input reads as it did. -/
def digestWordsUptoRow : OpenClaim := { program := "ythkmingfiofooaa", sum := "64c053eff7d2b11d6f1b7cd1ac3ac9eff9d905fbbbe3fa6f8b009212e9ac4b85", func := "passkey/passkeylaw2.DigestWords", spec := "digestWords", apart := false, narrowed := true }
def DigestWordsUptoSaid : Prop := digestWordsUptoRow.holds Try.pinned (OpenSpec.upto digestWordsSpec)

/-- 'passkeylaw2.DigestTail', WHERE WHAT IT READS IS OF BULK AT MOST 1048576: true; the input reads as it did. -/
def digestTailUptoRow : OpenClaim := { program := "ythkmingfiofooaa", sum := "64c053eff7d2b11d6f1b7cd1ac3ac9eff9d905fbbbe3fa6f8b009212e9ac4b85", func := "passkey/passkeylaw2.DigestTail", spec := "digestTail", apart := false, narrowed := true }
def DigestTailUptoSaid : Prop := digestTailUptoRow.holds Try.pinned (OpenSpec.upto digestTailSpec)

/-- 'passkeylaw2.DigestUses', WHERE WHAT IT READS IS OF BULK AT MOST 1048576: true; the input reads as it did. -/
def digestUsesUptoRow : OpenClaim := { program := "ythkmingfiofooaa", sum := "64c053eff7d2b11d6f1b7cd1ac3ac9eff9d905fbbbe3fa6f8b009212e9ac4b85", func := "passkey/passkeylaw2.DigestUses", spec := "digestUses", apart := false, narrowed := true }
def DigestUsesUptoSaid : Prop := digestUsesUptoRow.holds Try.pinned (OpenSpec.upto digestUsesSpec)

end Rows
end Go.Proofs.Ythkmingfiofooaa
