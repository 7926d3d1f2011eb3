/-
  No cell of these rows narrows 'for every input' (looked for: loops, veiled, ifaces, maps, wideKeys, modest, calm, conditions, laid).
  DERIVED. THE GIVEN ROWS OF THIS SEAT. 7 by the template 'for every input the law returns true; each argument reads behind the call as it read before'; 0 by the template 'total and deterministic' (their statements: YtjlohmnnldbjoaaGreatTotals.lean).
  GIVEN WITH THE SEED: the statements are not yours to turn. If you find one false, say at which input.
  Laid BY PROGRAM, IN A SANDBOX (cutbox-rows.mjs): the forced cells as the released guide's own fill.sh prints them over the translation 00e2c9ae8c57ce29… (all of the seat's roots in one cut). By AI agents, Wed Nov 11 2026. No macro, syntax, notation, axiom, sorry.
-/
import Derived.Test.YtjlohmnnldbjoaaGreatChecked
import GoSem.Claim
import GoSem.ClaimJoined
import GoSem.ClaimMapViews
import Derived.JoinedTies
import Derived.KernelRfl
namespace Go.Proofs.YtjlohmnnldbjoaaGreat
/- THE CELL 'sum', in the pinned program and in every row, IS THE sha256 OF THE DUMP (.gsa) THAT YtjlohmnnldbjoaaGreatProg.lean LOADS. Nothing in Lean hashes anything: it is a label: what it is worth is what the hold of that sum in a sandbox is worth. -/
noncomputable def Tryz.pinned : Pinned := { name := "ytjlohmnnldbjoaagreat", sum := "00e2c9ae8c57ce29d4204d4f18bc65022652aa36ce4dbd98b0555e9b5d6698e6", checked := Tryz.checked }
namespace Rows
def none {H : Type} : Left H := { results := [], args := [] }

/-- 'escarpmentlaw18.DomZones': WHATEVER THE INPUT: true; the input reads as it did. -/
def domZonesSpec : ChangeSpec := { name := "domZones", fn := fun _ => fun
  | [d1, d2, d3] => { results := [.lit (.bool true)], args := [d1, d2, d3] }
  | _ => none }
def domZonesRow : OpenClaim := { program := "ytjlohmnnldbjoaagreat", sum := "00e2c9ae8c57ce29d4204d4f18bc65022652aa36ce4dbd98b0555e9b5d6698e6", func := "escarpment/escarpmentlaw18.DomZones", spec := "domZones", unfollowed := true, recurses := true, apart := false }
def DomZonesSaid : Prop := domZonesRow.holds Tryz.pinned (OpenSpec.ofChange domZonesSpec)

/-- ITS FALSE NEIGHBOUR: 'it returns false'. Refute it at one input. -/
def domZonesWrong : ChangeSpec := { name := "domZones", fn := fun _ => fun
  | [d1, d2, d3] => { results := [.lit (.bool false)], args := [d1, d2, d3] }
  | _ => none }
def DomZonesWrongFalsely : Prop := domZonesRow.holds Tryz.pinned (OpenSpec.ofChange domZonesWrong)

/-- 'escarpmentlaw18.DomPoints': WHATEVER THE INPUT: true; the input reads as it did. -/
def domPointsSpec : ChangeSpec := { name := "domPoints", fn := fun _ => fun
  | [d1, d2, d3, d4] => { results := [.lit (.bool true)], args := [d1, d2, d3, d4] }
  | _ => none }
def domPointsRow : OpenClaim := { program := "ytjlohmnnldbjoaagreat", sum := "00e2c9ae8c57ce29d4204d4f18bc65022652aa36ce4dbd98b0555e9b5d6698e6", func := "escarpment/escarpmentlaw18.DomPoints", spec := "domPoints", unfollowed := true, recurses := true, apart := false }
def DomPointsSaid : Prop := domPointsRow.holds Tryz.pinned (OpenSpec.ofChange domPointsSpec)

/-- ITS FALSE NEIGHBOUR: 'it returns false'. Refute it at one input. -/
def domPointsWrong : ChangeSpec := { name := "domPoints", fn := fun _ => fun
  | [d1, d2, d3, d4] => { results := [.lit (.bool false)], args := [d1, d2, d3, d4] }
  | _ => none }
def DomPointsWrongFalsely : Prop := domPointsRow.holds Tryz.pinned (OpenSpec.ofChange domPointsWrong)

/-- 'escarpmentlaw18.DomEmpties': WHATEVER THE INPUT: true; the input reads as it did. -/
def domEmptiesSpec : ChangeSpec := { name := "domEmpties", fn := fun _ => fun
  | [d1, d2, d3] => { results := [.lit (.bool true)], args := [d1, d2, d3] }
  | _ => none }
def domEmptiesRow : OpenClaim := { program := "ytjlohmnnldbjoaagreat", sum := "00e2c9ae8c57ce29d4204d4f18bc65022652aa36ce4dbd98b0555e9b5d6698e6", func := "escarpment/escarpmentlaw18.DomEmpties", spec := "domEmpties", unfollowed := true, recurses := true, apart := false }
def DomEmptiesSaid : Prop := domEmptiesRow.holds Tryz.pinned (OpenSpec.ofChange domEmptiesSpec)

/-- ITS FALSE NEIGHBOUR: 'it returns false'. Refute it at one input. -/
def domEmptiesWrong : ChangeSpec := { name := "domEmpties", fn := fun _ => fun
  | [d1, d2, d3] => { results := [.lit (.bool false)], args := [d1, d2, d3] }
  | _ => none }
def DomEmptiesWrongFalsely : Prop := domEmptiesRow.holds Tryz.pinned (OpenSpec.ofChange domEmptiesWrong)

/-- 'escarpmentlaw18.DomBoxes': WHATEVER THE INPUT: true; the input reads as it did. -/
def domBoxesSpec : ChangeSpec := { name := "domBoxes", fn := fun _ => fun
  | [d1, d2, d3] => { results := [.lit (.bool true)], args := [d1, d2, d3] }
  | _ => none }
def domBoxesRow : OpenClaim := { program := "ytjlohmnnldbjoaagreat", sum := "00e2c9ae8c57ce29d4204d4f18bc65022652aa36ce4dbd98b0555e9b5d6698e6", func := "escarpment/escarpmentlaw18.DomBoxes", spec := "domBoxes", unfollowed := true, recurses := true, apart := false }
def DomBoxesSaid : Prop := domBoxesRow.holds Tryz.pinned (OpenSpec.ofChange domBoxesSpec)

/-- ITS FALSE NEIGHBOUR: 'it returns false'. Refute it at one input. -/
def domBoxesWrong : ChangeSpec := { name := "domBoxes", fn := fun _ => fun
  | [d1, d2, d3] => { results := [.lit (.bool false)], args := [d1, d2, d3] }
  | _ => none }
def DomBoxesWrongFalsely : Prop := domBoxesRow.holds Tryz.pinned (OpenSpec.ofChange domBoxesWrong)

/-- 'escarpmentlaw18.DomOrders': WHATEVER THE INPUT: true; the input reads as it did. -/
def domOrdersSpec : ChangeSpec := { name := "domOrders", fn := fun _ => fun
  | [d1, d2, d3, d4] => { results := [.lit (.bool true)], args := [d1, d2, d3, d4] }
  | _ => none }
def domOrdersRow : OpenClaim := { program := "ytjlohmnnldbjoaagreat", sum := "00e2c9ae8c57ce29d4204d4f18bc65022652aa36ce4dbd98b0555e9b5d6698e6", func := "escarpment/escarpmentlaw18.DomOrders", spec := "domOrders", unfollowed := true, recurses := true, apart := false }
def DomOrdersSaid : Prop := domOrdersRow.holds Tryz.pinned (OpenSpec.ofChange domOrdersSpec)

/-- ITS FALSE NEIGHBOUR: 'it returns false'. Refute it at one input. -/
def domOrdersWrong : ChangeSpec := { name := "domOrders", fn := fun _ => fun
  | [d1, d2, d3, d4] => { results := [.lit (.bool false)], args := [d1, d2, d3, d4] }
  | _ => none }
def DomOrdersWrongFalsely : Prop := domOrdersRow.holds Tryz.pinned (OpenSpec.ofChange domOrdersWrong)

/-- 'escarpmentlaw18.DomLattice': WHATEVER THE INPUT: true; the input reads as it did. -/
def domLatticeSpec : ChangeSpec := { name := "domLattice", fn := fun _ => fun
  | [d1, d2, d3] => { results := [.lit (.bool true)], args := [d1, d2, d3] }
  | _ => none }
def domLatticeRow : OpenClaim := { program := "ytjlohmnnldbjoaagreat", sum := "00e2c9ae8c57ce29d4204d4f18bc65022652aa36ce4dbd98b0555e9b5d6698e6", func := "escarpment/escarpmentlaw18.DomLattice", spec := "domLattice", unfollowed := true, recurses := true, apart := false }
def DomLatticeSaid : Prop := domLatticeRow.holds Tryz.pinned (OpenSpec.ofChange domLatticeSpec)

/-- ITS FALSE NEIGHBOUR: 'it returns false'. Refute it at one input. -/
def domLatticeWrong : ChangeSpec := { name := "domLattice", fn := fun _ => fun
  | [d1, d2, d3] => { results := [.lit (.bool false)], args := [d1, d2, d3] }
  | _ => none }
def DomLatticeWrongFalsely : Prop := domLatticeRow.holds Tryz.pinned (OpenSpec.ofChange domLatticeWrong)

/-- 'escarpmentlaw18.DomWithin': WHATEVER THE INPUT: true; the input reads as it did. -/
def domWithinSpec : ChangeSpec := { name := "domWithin", fn := fun _ => fun
  | [d1, d2, d3, d4] => { results := [.lit (.bool true)], args := [d1, d2, d3, d4] }
  | _ => none }
def domWithinRow : OpenClaim := { program := "ytjlohmnnldbjoaagreat", sum := "00e2c9ae8c57ce29d4204d4f18bc65022652aa36ce4dbd98b0555e9b5d6698e6", func := "escarpment/escarpmentlaw18.DomWithin", spec := "domWithin", unfollowed := true, recurses := true, apart := false }
def DomWithinSaid : Prop := domWithinRow.holds Tryz.pinned (OpenSpec.ofChange domWithinSpec)

/-- ITS FALSE NEIGHBOUR: 'it returns false'. Refute it at one input. -/
def domWithinWrong : ChangeSpec := { name := "domWithin", fn := fun _ => fun
  | [d1, d2, d3, d4] => { results := [.lit (.bool false)], args := [d1, d2, d3, d4] }
  | _ => none }
def DomWithinWrongFalsely : Prop := domWithinRow.holds Tryz.pinned (OpenSpec.ofChange domWithinWrong)

/- THE SECOND FORM. 'bulk': how many values and letters a reading holds, each counted each time it is reached (what is shared counts as often as it is met; a slice's spare places count too). A statement '..UptoSaid' is the law's where the arguments, and the package variables that the reading takes, are together of bulk at most 1048576: NARROWER than '..Said'. Prove '..Said' where nothing that the law and all that it calls make is longer than what came in: it says more and counts as full. Else prove '..UptoSaid'. A law counts once. -/
mutual
def uptoBulk {H : Type} : DataW H → Nat
  | .lit (.string bytes) => bytes.length + 1
  | .lit _ => 1
  | .nil => 1
  | .ptr d => uptoBulk d + 1
  | .slice elems spare => uptoBulkAll elems + uptoBulkAll spare + 1
  | .agg parts => uptoBulkAll parts + 1
  | .iface _ d => uptoBulk d + 1
  | .map entries => uptoBulkEntries entries + 1
  | .held _ => 1
def uptoBulkAll {H : Type} : List (DataW H) → Nat
  | [] => 0
  | d :: r => uptoBulk d + uptoBulkAll r
def uptoBulkEntries {H : Type} : List (Lit × DataW H) → Nat
  | [] => 0
  | x :: r => uptoBulkEntry x + uptoBulkEntries r
def uptoBulkEntry {H : Type} : Lit × DataW H → Nat
  | (.string bytes, d) => bytes.length + uptoBulk d + 1
  | (_, d) => uptoBulk d + 1
 end
def uptoSmall : (H : Type) → List (DataW H) → Bool := fun _ ds => decide (uptoBulkAll ds ≤ 1048576)
def OpenSpec.upto (s : _root_.Go.ChangeSpec) : _root_.Go.OpenSpec := { _root_.Go.OpenSpec.ofChange s with cond := some uptoSmall }

/-- 'escarpmentlaw18.DomZones', WHERE WHAT IT READS IS OF BULK AT MOST 1048576: true; the input reads as it did. -/
def domZonesUptoRow : OpenClaim := { program := "ytjlohmnnldbjoaagreat", sum := "00e2c9ae8c57ce29d4204d4f18bc65022652aa36ce4dbd98b0555e9b5d6698e6", func := "escarpment/escarpmentlaw18.DomZones", spec := "domZones", unfollowed := true, recurses := true, apart := false, narrowed := true }
def DomZonesUptoSaid : Prop := domZonesUptoRow.holds Tryz.pinned (OpenSpec.upto domZonesSpec)

/-- 'escarpmentlaw18.DomPoints', WHERE WHAT IT READS IS OF BULK AT MOST 1048576: true; the input reads as it did. -/
def domPointsUptoRow : OpenClaim := { program := "ytjlohmnnldbjoaagreat", sum := "00e2c9ae8c57ce29d4204d4f18bc65022652aa36ce4dbd98b0555e9b5d6698e6", func := "escarpment/escarpmentlaw18.DomPoints", spec := "domPoints", unfollowed := true, recurses := true, apart := false, narrowed := true }
def DomPointsUptoSaid : Prop := domPointsUptoRow.holds Tryz.pinned (OpenSpec.upto domPointsSpec)

/-- 'escarpmentlaw18.DomEmpties', WHERE WHAT IT READS IS OF BULK AT MOST 1048576: true; the input reads as it did. -/
def domEmptiesUptoRow : OpenClaim := { program := "ytjlohmnnldbjoaagreat", sum := "00e2c9ae8c57ce29d4204d4f18bc65022652aa36ce4dbd98b0555e9b5d6698e6", func := "escarpment/escarpmentlaw18.DomEmpties", spec := "domEmpties", unfollowed := true, recurses := true, apart := false, narrowed := true }
def DomEmptiesUptoSaid : Prop := domEmptiesUptoRow.holds Tryz.pinned (OpenSpec.upto domEmptiesSpec)

/-- 'escarpmentlaw18.DomBoxes', WHERE WHAT IT READS IS OF BULK AT MOST 1048576: true; the input reads as it did. -/
def domBoxesUptoRow : OpenClaim := { program := "ytjlohmnnldbjoaagreat", sum := "00e2c9ae8c57ce29d4204d4f18bc65022652aa36ce4dbd98b0555e9b5d6698e6", func := "escarpment/escarpmentlaw18.DomBoxes", spec := "domBoxes", unfollowed := true, recurses := true, apart := false, narrowed := true }
def DomBoxesUptoSaid : Prop := domBoxesUptoRow.holds Tryz.pinned (OpenSpec.upto domBoxesSpec)

/-- 'escarpmentlaw18.DomOrders', WHERE WHAT IT READS IS OF BULK AT MOST 1048576: true; the input reads as it did. -/
def domOrdersUptoRow : OpenClaim := { program := "ytjlohmnnldbjoaagreat", sum := "00e2c9ae8c57ce29d4204d4f18bc65022652aa36ce4dbd98b0555e9b5d6698e6", func := "escarpment/escarpmentlaw18.DomOrders", spec := "domOrders", unfollowed := true, recurses := true, apart := false, narrowed := true }
def DomOrdersUptoSaid : Prop := domOrdersUptoRow.holds Tryz.pinned (OpenSpec.upto domOrdersSpec)

/-- 'escarpmentlaw18.DomLattice', WHERE WHAT IT READS IS OF BULK AT MOST 1048576: true; the input reads as it did. -/
def domLatticeUptoRow : OpenClaim := { program := "ytjlohmnnldbjoaagreat", sum := "00e2c9ae8c57ce29d4204d4f18bc65022652aa36ce4dbd98b0555e9b5d6698e6", func := "escarpment/escarpmentlaw18.DomLattice", spec := "domLattice", unfollowed := true, recurses := true, apart := false, narrowed := true }
def DomLatticeUptoSaid : Prop := domLatticeUptoRow.holds Tryz.pinned (OpenSpec.upto domLatticeSpec)

/-- 'escarpmentlaw18.DomWithin', WHERE WHAT IT READS IS OF BULK AT MOST 1048576: true; the input reads as it did. -/
def domWithinUptoRow : OpenClaim := { program := "ytjlohmnnldbjoaagreat", sum := "00e2c9ae8c57ce29d4204d4f18bc65022652aa36ce4dbd98b0555e9b5d6698e6", func := "escarpment/escarpmentlaw18.DomWithin", spec := "domWithin", unfollowed := true, recurses := true, apart := false, narrowed := true }
def DomWithinUptoSaid : Prop := domWithinUptoRow.holds Tryz.pinned (OpenSpec.upto domWithinSpec)

end Rows
end Go.Proofs.YtjlohmnnldbjoaaGreat
