/-
  No cell of these rows narrows 'for every input' (looked for: loops, veiled, ifaces, maps, wideKeys, modest, calm, conditions, laid).
  DERIVED. THE GIVEN ROWS OF THIS SEAT. 6 by the template 'for every input the law returns true; each argument reads behind the call as it read before'; 0 by the template 'total and deterministic' (their statements: YtkiffaadahpbkaaTotals.lean).
  GIVEN WITH THE SEED: the statements are not yours to turn. If you find one false, say at which input.
  Laid BY PROGRAM, IN A SANDBOX (cutbox-rows.mjs): the forced cells as the released guide's own fill.sh prints them over the translation ebc6c7d0cdaee23b… (all of the seat's roots in one cut). By AI agents, Wed Nov 11 2026. No macro, syntax, notation, axiom, sorry.
-/
import Derived.Test.YtkiffaadahpbkaaChecked
import GoSem.Claim
import GoSem.ClaimJoined
import GoSem.ClaimMapViews
import Derived.JoinedTies
import Derived.KernelRfl
namespace Go.Proofs.Ytkiffaadahpbkaa
/- THE CELL 'sum', in the pinned program and in every row, IS THE sha256 OF THE DUMP (.gsa) THAT YtkiffaadahpbkaaProg.lean LOADS. Nothing in Lean hashes anything: it is a label: what it is worth is what the hold of that sum in a sandbox is worth. -/
noncomputable def Try.pinned : Pinned := { name := "ytkiffaadahpbkaa", sum := "ebc6c7d0cdaee23bbb5c3fa4112141a92ba0f73137f8ff96febe3bab1524cce9", checked := Try.checked }
namespace Rows
def none {H : Type} : Left H := { results := [], args := [] }

/-- 'passkeylaw37.SharingField': WHATEVER THE INPUT: true; the input reads as it did. -/
def sharingFieldSpec : ChangeSpec := { name := "sharingField", fn := fun _ => fun
  | [d1, d2, d3] => { results := [.lit (.bool true)], args := [d1, d2, d3] }
  | _ => none }
def sharingFieldRow : OpenClaim := { program := "ytkiffaadahpbkaa", sum := "ebc6c7d0cdaee23bbb5c3fa4112141a92ba0f73137f8ff96febe3bab1524cce9", func := "passkey/passkeylaw37.SharingField", spec := "sharingField", apart := false }
def SharingFieldSaid : Prop := sharingFieldRow.holds Try.pinned (OpenSpec.ofChange sharingFieldSpec)

/-- ITS FALSE NEIGHBOUR: 'it returns false'. Refute it at one input. -/
def sharingFieldWrong : ChangeSpec := { name := "sharingField", fn := fun _ => fun
  | [d1, d2, d3] => { results := [.lit (.bool false)], args := [d1, d2, d3] }
  | _ => none }
def SharingFieldWrongFalsely : Prop := sharingFieldRow.holds Try.pinned (OpenSpec.ofChange sharingFieldWrong)

/-- 'passkeylaw37.SharingSplits': WHATEVER THE INPUT: true; the input reads as it did. -/
def sharingSplitsSpec : ChangeSpec := { name := "sharingSplits", fn := fun _ => fun
  | [d1, d2, d3, d4, d5] => { results := [.lit (.bool true)], args := [d1, d2, d3, d4, d5] }
  | _ => none }
def sharingSplitsRow : OpenClaim := { program := "ytkiffaadahpbkaa", sum := "ebc6c7d0cdaee23bbb5c3fa4112141a92ba0f73137f8ff96febe3bab1524cce9", func := "passkey/passkeylaw37.SharingSplits", spec := "sharingSplits", apart := false }
def SharingSplitsSaid : Prop := sharingSplitsRow.holds Try.pinned (OpenSpec.ofChange sharingSplitsSpec)

/-- ITS FALSE NEIGHBOUR: 'it returns false'. Refute it at one input. -/
def sharingSplitsWrong : ChangeSpec := { name := "sharingSplits", fn := fun _ => fun
  | [d1, d2, d3, d4, d5] => { results := [.lit (.bool false)], args := [d1, d2, d3, d4, d5] }
  | _ => none }
def SharingSplitsWrongFalsely : Prop := sharingSplitsRow.holds Try.pinned (OpenSpec.ofChange sharingSplitsWrong)

/-- 'passkeylaw37.SharingValues': WHATEVER THE INPUT: true; the input reads as it did. -/
def sharingValuesSpec : ChangeSpec := { name := "sharingValues", fn := fun _ => fun
  | [d1, d2, d3] => { results := [.lit (.bool true)], args := [d1, d2, d3] }
  | _ => none }
def sharingValuesRow : OpenClaim := { program := "ytkiffaadahpbkaa", sum := "ebc6c7d0cdaee23bbb5c3fa4112141a92ba0f73137f8ff96febe3bab1524cce9", func := "passkey/passkeylaw37.SharingValues", spec := "sharingValues", apart := false }
def SharingValuesSaid : Prop := sharingValuesRow.holds Try.pinned (OpenSpec.ofChange sharingValuesSpec)

/-- ITS FALSE NEIGHBOUR: 'it returns false'. Refute it at one input. -/
def sharingValuesWrong : ChangeSpec := { name := "sharingValues", fn := fun _ => fun
  | [d1, d2, d3] => { results := [.lit (.bool false)], args := [d1, d2, d3] }
  | _ => none }
def SharingValuesWrongFalsely : Prop := sharingValuesRow.holds Try.pinned (OpenSpec.ofChange sharingValuesWrong)

/-- 'passkeylaw37.SharingRestores': WHATEVER THE INPUT: true; the input reads as it did. -/
def sharingRestoresSpec : ChangeSpec := { name := "sharingRestores", fn := fun _ => fun
  | [d1, d2, d3, d4, d5] => { results := [.lit (.bool true)], args := [d1, d2, d3, d4, d5] }
  | _ => none }
def sharingRestoresRow : OpenClaim := { program := "ytkiffaadahpbkaa", sum := "ebc6c7d0cdaee23bbb5c3fa4112141a92ba0f73137f8ff96febe3bab1524cce9", func := "passkey/passkeylaw37.SharingRestores", spec := "sharingRestores", apart := false }
def SharingRestoresSaid : Prop := sharingRestoresRow.holds Try.pinned (OpenSpec.ofChange sharingRestoresSpec)

/-- ITS FALSE NEIGHBOUR: 'it returns false'. Refute it at one input. -/
def sharingRestoresWrong : ChangeSpec := { name := "sharingRestores", fn := fun _ => fun
  | [d1, d2, d3, d4, d5] => { results := [.lit (.bool false)], args := [d1, d2, d3, d4, d5] }
  | _ => none }
def SharingRestoresWrongFalsely : Prop := sharingRestoresRow.holds Try.pinned (OpenSpec.ofChange sharingRestoresWrong)

/-- 'passkeylaw37.SharingHides': WHATEVER THE INPUT: true; the input reads as it did. -/
def sharingHidesSpec : ChangeSpec := { name := "sharingHides", fn := fun _ => fun
  | [d1, d2, d3, d4, d5, d6] => { results := [.lit (.bool true)], args := [d1, d2, d3, d4, d5, d6] }
  | _ => none }
def sharingHidesRow : OpenClaim := { program := "ytkiffaadahpbkaa", sum := "ebc6c7d0cdaee23bbb5c3fa4112141a92ba0f73137f8ff96febe3bab1524cce9", func := "passkey/passkeylaw37.SharingHides", spec := "sharingHides", apart := false }
def SharingHidesSaid : Prop := sharingHidesRow.holds Try.pinned (OpenSpec.ofChange sharingHidesSpec)

/-- ITS FALSE NEIGHBOUR: 'it returns false'. Refute it at one input. -/
def sharingHidesWrong : ChangeSpec := { name := "sharingHides", fn := fun _ => fun
  | [d1, d2, d3, d4, d5, d6] => { results := [.lit (.bool false)], args := [d1, d2, d3, d4, d5, d6] }
  | _ => none }
def SharingHidesWrongFalsely : Prop := sharingHidesRow.holds Try.pinned (OpenSpec.ofChange sharingHidesWrong)

/-- 'passkeylaw37.SharingAdds': WHATEVER THE INPUT: true; the input reads as it did. -/
def sharingAddsSpec : ChangeSpec := { name := "sharingAdds", fn := fun _ => fun
  | [d1, d2, d3, d4, d5] => { results := [.lit (.bool true)], args := [d1, d2, d3, d4, d5] }
  | _ => none }
def sharingAddsRow : OpenClaim := { program := "ytkiffaadahpbkaa", sum := "ebc6c7d0cdaee23bbb5c3fa4112141a92ba0f73137f8ff96febe3bab1524cce9", func := "passkey/passkeylaw37.SharingAdds", spec := "sharingAdds", apart := false }
def SharingAddsSaid : Prop := sharingAddsRow.holds Try.pinned (OpenSpec.ofChange sharingAddsSpec)

/-- ITS FALSE NEIGHBOUR: 'it returns false'. Refute it at one input. -/
def sharingAddsWrong : ChangeSpec := { name := "sharingAdds", fn := fun _ => fun
  | [d1, d2, d3, d4, d5] => { results := [.lit (.bool false)], args := [d1, d2, d3, d4, d5] }
  | _ => none }
def SharingAddsWrongFalsely : Prop := sharingAddsRow.holds Try.pinned (OpenSpec.ofChange sharingAddsWrong)

/- THE SECOND FORM. 'bulk': how many values and letters a reading holds, each counted each time it is reached (what is shared counts as often as it is met; a slice's spare places count too). A statement '..UptoSaid' is the law's where the arguments, and the package variables that the reading takes, are together of bulk at most 1048576: NARROWER than '..Said'. Prove '..Said' where nothing that the law and all that it calls make is longer than what came in: it says more and counts as full. Else prove '..UptoSaid'. A law counts once. -/
mutual
def uptoBulk {H : Type} : DataW H → Nat
  | .lit (.string bytes) => bytes.length + 1
  | .lit _ => 1
  | .nil => 1
  | .ptr d => uptoBulk d + 1
  | .slice elems spare => uptoBulkAll elems + uptoBulkAll spare + 1
  | .agg parts => uptoBulkAll parts + 1
  | .iface _ d => uptoBulk d + 1
  | .map entries => uptoBulkEntries entries + 1
  | .held _ => 1
def uptoBulkAll {H : Type} : List (DataW H) → Nat
  | [] => 0
  | d :: r => uptoBulk d + uptoBulkAll r
def uptoBulkEntries {H : Type} : List (Lit × DataW H) → Nat
  | [] => 0
  | x :: r => uptoBulkEntry x + uptoBulkEntries r
def uptoBulkEntry {H : Type} : Lit × DataW H → Nat
  | (.string bytes, d) => bytes.length + uptoBulk d + 1
  | (_, d) => uptoBulk d + 1
 end
def uptoSmall : (H : Type) → List (DataW H) → Bool := fun _ ds => decide (uptoBulkAll ds ≤ 1048576)
def OpenSpec.upto (s : _root_.Go.ChangeSpec) : _root_.Go.OpenSpec := { _root_.Go.OpenSpec.ofChange s with cond := some uptoSmall }

/-- 'passkeylaw37.SharingField', WHERE WHAT IT READS IS OF BULK AT MOST 1048576: true; the input reads as it did. -/
def sharingFieldUptoRow : OpenClaim := { program := "ytkiffaadahpbkaa", sum := "ebc6c7d0cdaee23bbb5c3fa4112141a92ba0f73137f8ff96febe3bab1524cce9", func := "passkey/passkeylaw37.SharingField", spec := "sharingField", apart := false, narrowed := true }
def SharingFieldUptoSaid : Prop := sharingFieldUptoRow.holds Try.pinned (OpenSpec.upto sharingFieldSpec)

/-- 'passkeylaw37.SharingSplits', WHERE WHAT IT READS IS OF BULK AT MOST 1048576: true; the input reads as it did. -/
def sharingSplitsUptoRow : OpenClaim := { program := "ytkiffaadahpbkaa", sum := "ebc6c7d0cdaee23bbb5c3fa4112141a92ba0f73137f8ff96febe3bab1524cce9", func := "passkey/passkeylaw37.SharingSplits", spec := "sharingSplits", apart := false, narrowed := true }
def SharingSplitsUptoSaid : Prop := sharingSplitsUptoRow.holds Try.pinned (OpenSpec.upto sharingSplitsSpec)

/-- 'passkeylaw37.SharingValues', WHERE WHAT IT READS IS OF BULK AT MOST 1048576: true; the input reads as it did. -/
def sharingValuesUptoRow : OpenClaim := { program := "ytkiffaadahpbkaa", sum := "ebc6c7d0cdaee23bbb5c3fa4112141a92ba0f73137f8ff96febe3bab1524cce9", func := "passkey/passkeylaw37.SharingValues", spec := "sharingValues", apart := false, narrowed := true }
def SharingValuesUptoSaid : Prop := sharingValuesUptoRow.holds Try.pinned (OpenSpec.upto sharingValuesSpec)

/-- 'passkeylaw37.SharingRestores', WHERE WHAT IT READS IS OF BULK AT MOST 1048576: true; the input reads as it did. -/
def sharingRestoresUptoRow : OpenClaim := { program := "ytkiffaadahpbkaa", sum := "ebc6c7d0cdaee23bbb5c3fa4112141a92ba0f73137f8ff96febe3bab1524cce9", func := "passkey/passkeylaw37.SharingRestores", spec := "sharingRestores", apart := false, narrowed := true }
def SharingRestoresUptoSaid : Prop := sharingRestoresUptoRow.holds Try.pinned (OpenSpec.upto sharingRestoresSpec)

/-- 'passkeylaw37.SharingHides', WHERE WHAT IT READS IS OF BULK AT MOST 1048576: true; the input reads as it did. -/
def sharingHidesUptoRow : OpenClaim := { program := "ytkiffaadahpbkaa", sum := "ebc6c7d0cdaee23bbb5c3fa4112141a92ba0f73137f8ff96febe3bab1524cce9", func := "passkey/passkeylaw37.SharingHides", spec := "sharingHides", apart := false, narrowed := true }
def SharingHidesUptoSaid : Prop := sharingHidesUptoRow.holds Try.pinned (OpenSpec.upto sharingHidesSpec)

/-- 'passkeylaw37.SharingAdds', WHERE WHAT IT READS IS OF BULK AT MOST 1048576: true; the input reads as it did. -/
def sharingAddsUptoRow : OpenClaim := { program := "ytkiffaadahpbkaa", sum := "ebc6c7d0cdaee23bbb5c3fa4112141a92ba0f73137f8ff96febe3bab1524cce9", func := "passkey/passkeylaw37.SharingAdds", spec := "sharingAdds", apart := false, narrowed := true }
def SharingAddsUptoSaid : Prop := sharingAddsUptoRow.holds Try.pinned (OpenSpec.upto sharingAddsSpec)

end Rows
end Go.Proofs.Ytkiffaadahpbkaa
