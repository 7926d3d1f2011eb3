/-
  No cell of these rows narrows 'for every input' (looked for: loops, veiled, ifaces, maps, wideKeys, modest, calm, conditions, laid).
  DERIVED. THE GIVEN ROWS OF THIS SEAT. 4 by the template 'for every input the law returns true; each argument reads behind the call as it read before'; 0 by the template 'total and deterministic' (their statements: YtgopfcmbofkmmaaGreatTotals.lean).
  GIVEN WITH THE SEED: the statements are not yours to turn. If you find one false, say at which input.
  Laid BY PROGRAM, IN A SANDBOX (cutbox-rows.mjs): the forced cells as the released guide's own fill.sh prints them over the translation d0d65c1c5840a7b9… (all of the seat's roots in one cut). By AI agents, Wed Nov 11 2026. No macro, syntax, notation, axiom, sorry.
-/
import Derived.Test.YtgopfcmbofkmmaaGreatChecked
import GoSem.Claim
import GoSem.ClaimJoined
import GoSem.ClaimMapViews
import Derived.JoinedTies
import Derived.KernelRfl
namespace Go.Proofs.YtgopfcmbofkmmaaGreat
/- THE CELL 'sum', in the pinned program and in every row, IS THE sha256 OF THE DUMP (.gsa) THAT YtgopfcmbofkmmaaGreatProg.lean LOADS. Nothing in Lean hashes anything: it is a label: what it is worth is what the hold of that sum in a sandbox is worth. -/
noncomputable def Tryz.pinned : Pinned := { name := "ytgopfcmbofkmmaagreat", sum := "d0d65c1c5840a7b9598d5c58bec4889e17aa06ca075494d5f11da4b1969f2a61", checked := Tryz.checked }
namespace Rows
def none {H : Type} : Left H := { results := [], args := [] }

/-- 'escarpmentlaw20.EqsBottoms': WHATEVER THE INPUT: true; the input reads as it did. -/
def eqsBottomsSpec : ChangeSpec := { name := "eqsBottoms", fn := fun _ => fun
  | [d1, d2] => { results := [.lit (.bool true)], args := [d1, d2] }
  | _ => none }
def eqsBottomsRow : OpenClaim := { program := "ytgopfcmbofkmmaagreat", sum := "d0d65c1c5840a7b9598d5c58bec4889e17aa06ca075494d5f11da4b1969f2a61", func := "escarpment/escarpmentlaw20.EqsBottoms", spec := "eqsBottoms", unfollowed := true, recurses := true, apart := false }
def EqsBottomsSaid : Prop := eqsBottomsRow.holds Tryz.pinned (OpenSpec.ofChange eqsBottomsSpec)

/-- ITS FALSE NEIGHBOUR: 'it returns false'. Refute it at one input. -/
def eqsBottomsWrong : ChangeSpec := { name := "eqsBottoms", fn := fun _ => fun
  | [d1, d2] => { results := [.lit (.bool false)], args := [d1, d2] }
  | _ => none }
def EqsBottomsWrongFalsely : Prop := eqsBottomsRow.holds Tryz.pinned (OpenSpec.ofChange eqsBottomsWrong)

/-- 'escarpmentlaw22.KleeneOptions': WHATEVER THE INPUT: true; the input reads as it did. -/
def kleeneOptionsSpec : ChangeSpec := { name := "kleeneOptions", fn := fun _ => fun
  | [d1, d2, d3] => { results := [.lit (.bool true)], args := [d1, d2, d3] }
  | _ => none }
def kleeneOptionsRow : OpenClaim := { program := "ytgopfcmbofkmmaagreat", sum := "d0d65c1c5840a7b9598d5c58bec4889e17aa06ca075494d5f11da4b1969f2a61", func := "escarpment/escarpmentlaw22.KleeneOptions", spec := "kleeneOptions", unfollowed := true, recurses := true, apart := false }
def KleeneOptionsSaid : Prop := kleeneOptionsRow.holds Tryz.pinned (OpenSpec.ofChange kleeneOptionsSpec)

/-- ITS FALSE NEIGHBOUR: 'it returns false'. Refute it at one input. -/
def kleeneOptionsWrong : ChangeSpec := { name := "kleeneOptions", fn := fun _ => fun
  | [d1, d2, d3] => { results := [.lit (.bool false)], args := [d1, d2, d3] }
  | _ => none }
def KleeneOptionsWrongFalsely : Prop := kleeneOptionsRow.holds Tryz.pinned (OpenSpec.ofChange kleeneOptionsWrong)

/-- 'escarpmentlaw22.KleeneArgs': WHATEVER THE INPUT: true; the input reads as it did. -/
def kleeneArgsSpec : ChangeSpec := { name := "kleeneArgs", fn := fun _ => fun
  | [d1, d2, d3] => { results := [.lit (.bool true)], args := [d1, d2, d3] }
  | _ => none }
def kleeneArgsRow : OpenClaim := { program := "ytgopfcmbofkmmaagreat", sum := "d0d65c1c5840a7b9598d5c58bec4889e17aa06ca075494d5f11da4b1969f2a61", func := "escarpment/escarpmentlaw22.KleeneArgs", spec := "kleeneArgs", unfollowed := true, recurses := true, apart := false }
def KleeneArgsSaid : Prop := kleeneArgsRow.holds Tryz.pinned (OpenSpec.ofChange kleeneArgsSpec)

/-- ITS FALSE NEIGHBOUR: 'it returns false'. Refute it at one input. -/
def kleeneArgsWrong : ChangeSpec := { name := "kleeneArgs", fn := fun _ => fun
  | [d1, d2, d3] => { results := [.lit (.bool false)], args := [d1, d2, d3] }
  | _ => none }
def KleeneArgsWrongFalsely : Prop := kleeneArgsRow.holds Tryz.pinned (OpenSpec.ofChange kleeneArgsWrong)

/-- 'escarpmentlaw22.KleeneWidens': WHATEVER THE INPUT: true; the input reads as it did. -/
def kleeneWidensSpec : ChangeSpec := { name := "kleeneWidens", fn := fun _ => fun
  | [d1, d2, d3] => { results := [.lit (.bool true)], args := [d1, d2, d3] }
  | _ => none }
def kleeneWidensRow : OpenClaim := { program := "ytgopfcmbofkmmaagreat", sum := "d0d65c1c5840a7b9598d5c58bec4889e17aa06ca075494d5f11da4b1969f2a61", func := "escarpment/escarpmentlaw22.KleeneWidens", spec := "kleeneWidens", unfollowed := true, recurses := true, apart := false }
def KleeneWidensSaid : Prop := kleeneWidensRow.holds Tryz.pinned (OpenSpec.ofChange kleeneWidensSpec)

/-- ITS FALSE NEIGHBOUR: 'it returns false'. Refute it at one input. -/
def kleeneWidensWrong : ChangeSpec := { name := "kleeneWidens", fn := fun _ => fun
  | [d1, d2, d3] => { results := [.lit (.bool false)], args := [d1, d2, d3] }
  | _ => none }
def KleeneWidensWrongFalsely : Prop := kleeneWidensRow.holds Tryz.pinned (OpenSpec.ofChange kleeneWidensWrong)

/- THE SECOND FORM. 'bulk': how many values and letters a reading holds, each counted each time it is reached (what is shared counts as often as it is met; a slice's spare places count too). A statement '..UptoSaid' is the law's where the arguments, and the package variables that the reading takes, are together of bulk at most 1048576: NARROWER than '..Said'. Prove '..Said' where nothing that the law and all that it calls make is longer than what came in: it says more and counts as full. Else prove '..UptoSaid'. A law counts once. -/
mutual
def uptoBulk {H : Type} : DataW H → Nat
  | .lit (.string bytes) => bytes.length + 1
  | .lit _ => 1
  | .nil => 1
  | .ptr d => uptoBulk d + 1
  | .slice elems spare => uptoBulkAll elems + uptoBulkAll spare + 1
  | .agg parts => uptoBulkAll parts + 1
  | .iface _ d => uptoBulk d + 1
  | .map entries => uptoBulkEntries entries + 1
  | .held _ => 1
def uptoBulkAll {H : Type} : List (DataW H) → Nat
  | [] => 0
  | d :: r => uptoBulk d + uptoBulkAll r
def uptoBulkEntries {H : Type} : List (Lit × DataW H) → Nat
  | [] => 0
  | x :: r => uptoBulkEntry x + uptoBulkEntries r
def uptoBulkEntry {H : Type} : Lit × DataW H → Nat
  | (.string bytes, d) => bytes.length + uptoBulk d + 1
  | (_, d) => uptoBulk d + 1
 end
def uptoSmall : (H : Type) → List (DataW H) → Bool := fun _ ds => decide (uptoBulkAll ds ≤ 1048576)
def OpenSpec.upto (s : _root_.Go.ChangeSpec) : _root_.Go.OpenSpec := { _root_.Go.OpenSpec.ofChange s with cond := some uptoSmall }

/-- 'escarpmentlaw20.EqsBottoms', WHERE WHAT IT READS IS OF BULK AT MOST 1048576: true; the input reads as it did. -/
def eqsBottomsUptoRow : OpenClaim := { program := "ytgopfcmbofkmmaagreat", sum := "d0d65c1c5840a7b9598d5c58bec4889e17aa06ca075494d5f11da4b1969f2a61", func := "escarpment/escarpmentlaw20.EqsBottoms", spec := "eqsBottoms", unfollowed := true, recurses := true, apart := false, narrowed := true }
def EqsBottomsUptoSaid : Prop := eqsBottomsUptoRow.holds Tryz.pinned (OpenSpec.upto eqsBottomsSpec)

/-- 'escarpmentlaw22.KleeneOptions', WHERE WHAT IT READS IS OF BULK AT MOST 1048576: true; the input reads as it did. -/
def kleeneOptionsUptoRow : OpenClaim := { program := "ytgopfcmbofkmmaagreat", sum := "d0d65c1c5840a7b9598d5c58bec4889e17aa06ca075494d5f11da4b1969f2a61", func := "escarpment/escarpmentlaw22.KleeneOptions", spec := "kleeneOptions", unfollowed := true, recurses := true, apart := false, narrowed := true }
def KleeneOptionsUptoSaid : Prop := kleeneOptionsUptoRow.holds Tryz.pinned (OpenSpec.upto kleeneOptionsSpec)

/-- 'escarpmentlaw22.KleeneArgs', WHERE WHAT IT READS IS OF BULK AT MOST 1048576: true; the input reads as it did. -/
def kleeneArgsUptoRow : OpenClaim := { program := "ytgopfcmbofkmmaagreat", sum := "d0d65c1c5840a7b9598d5c58bec4889e17aa06ca075494d5f11da4b1969f2a61", func := "escarpment/escarpmentlaw22.KleeneArgs", spec := "kleeneArgs", unfollowed := true, recurses := true, apart := false, narrowed := true }
def KleeneArgsUptoSaid : Prop := kleeneArgsUptoRow.holds Tryz.pinned (OpenSpec.upto kleeneArgsSpec)

/-- 'escarpmentlaw22.KleeneWidens', WHERE WHAT IT READS IS OF BULK AT MOST 1048576: true; the input reads as it did. -/
def kleeneWidensUptoRow : OpenClaim := { program := "ytgopfcmbofkmmaagreat", sum := "d0d65c1c5840a7b9598d5c58bec4889e17aa06ca075494d5f11da4b1969f2a61", func := "escarpment/escarpmentlaw22.KleeneWidens", spec := "kleeneWidens", unfollowed := true, recurses := true, apart := false, narrowed := true }
def KleeneWidensUptoSaid : Prop := kleeneWidensUptoRow.holds Tryz.pinned (OpenSpec.upto kleeneWidensSpec)

end Rows
end Go.Proofs.YtgopfcmbofkmmaaGreat
