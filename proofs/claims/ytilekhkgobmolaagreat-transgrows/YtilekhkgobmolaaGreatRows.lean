/-
  No cell of these rows narrows 'for every input' (looked for: loops, veiled, ifaces, maps, wideKeys, modest, calm, conditions, laid).
  DERIVED. THE GIVEN ROWS OF THIS SEAT. 4 by the template 'for every input the law returns true; each argument reads behind the call as it read before'; 0 by the template 'total and deterministic' (their statements: YtilekhkgobmolaaGreatTotals.lean).
  GIVEN WITH THE SEED: the statements are not yours to turn. If you find one false, say at which input.
  Laid BY PROGRAM, IN A SANDBOX (cutbox-rows.mjs): the forced cells as the released guide's own fill.sh prints them over the translation 7644caf2359deaae… (all of the seat's roots in one cut). By AI agents, Wed Nov 11 2026. No macro, syntax, notation, axiom, sorry.
-/
import Derived.Test.YtilekhkgobmolaaGreatChecked
import GoSem.Claim
import GoSem.ClaimJoined
import GoSem.ClaimMapViews
import Derived.JoinedTies
import Derived.KernelRfl
namespace Go.Proofs.YtilekhkgobmolaaGreat
/- THE CELL 'sum', in the pinned program and in every row, IS THE sha256 OF THE DUMP (.gsa) THAT YtilekhkgobmolaaGreatProg.lean LOADS. Nothing in Lean hashes anything: it is a label: what it is worth is what the hold of that sum in a sandbox is worth. -/
noncomputable def Tryz.pinned : Pinned := { name := "ytilekhkgobmolaagreat", sum := "7644caf2359deaae5b3fc6307124f41ac102b704b27fce56e895342e8bf36e92", checked := Tryz.checked }
namespace Rows
def none {H : Type} : Left H := { results := [], args := [] }

/-- 'escarpmentlaw19.TransAlls': WHATEVER THE INPUT: true; the input reads as it did. -/
def transAllsSpec : ChangeSpec := { name := "transAlls", fn := fun _ => fun
  | [d1, d2, d3] => { results := [.lit (.bool true)], args := [d1, d2, d3] }
  | _ => none }
def transAllsRow : OpenClaim := { program := "ytilekhkgobmolaagreat", sum := "7644caf2359deaae5b3fc6307124f41ac102b704b27fce56e895342e8bf36e92", func := "escarpment/escarpmentlaw19.TransAlls", spec := "transAlls", unfollowed := true, recurses := true, apart := false }
def TransAllsSaid : Prop := transAllsRow.holds Tryz.pinned (OpenSpec.ofChange transAllsSpec)

/-- ITS FALSE NEIGHBOUR: 'it returns false'. Refute it at one input. -/
def transAllsWrong : ChangeSpec := { name := "transAlls", fn := fun _ => fun
  | [d1, d2, d3] => { results := [.lit (.bool false)], args := [d1, d2, d3] }
  | _ => none }
def TransAllsWrongFalsely : Prop := transAllsRow.holds Tryz.pinned (OpenSpec.ofChange transAllsWrong)

/-- 'escarpmentlaw19.TransGrows': WHATEVER THE INPUT: true; the input reads as it did. -/
def transGrowsSpec : ChangeSpec := { name := "transGrows", fn := fun _ => fun
  | [d1, d2, d3, d4] => { results := [.lit (.bool true)], args := [d1, d2, d3, d4] }
  | _ => none }
def transGrowsRow : OpenClaim := { program := "ytilekhkgobmolaagreat", sum := "7644caf2359deaae5b3fc6307124f41ac102b704b27fce56e895342e8bf36e92", func := "escarpment/escarpmentlaw19.TransGrows", spec := "transGrows", unfollowed := true, recurses := true, apart := false }
def TransGrowsSaid : Prop := transGrowsRow.holds Tryz.pinned (OpenSpec.ofChange transGrowsSpec)

/-- ITS FALSE NEIGHBOUR: 'it returns false'. Refute it at one input. -/
def transGrowsWrong : ChangeSpec := { name := "transGrows", fn := fun _ => fun
  | [d1, d2, d3, d4] => { results := [.lit (.bool false)], args := [d1, d2, d3, d4] }
  | _ => none }
def TransGrowsWrongFalsely : Prop := transGrowsRow.holds Tryz.pinned (OpenSpec.ofChange transGrowsWrong)

/-- 'escarpmentlaw19.TransKeeps': WHATEVER THE INPUT: true; the input reads as it did. -/
def transKeepsSpec : ChangeSpec := { name := "transKeeps", fn := fun _ => fun
  | [d1, d2, d3, d4, d5] => { results := [.lit (.bool true)], args := [d1, d2, d3, d4, d5] }
  | _ => none }
def transKeepsRow : OpenClaim := { program := "ytilekhkgobmolaagreat", sum := "7644caf2359deaae5b3fc6307124f41ac102b704b27fce56e895342e8bf36e92", func := "escarpment/escarpmentlaw19.TransKeeps", spec := "transKeeps", unfollowed := true, recurses := true, apart := false }
def TransKeepsSaid : Prop := transKeepsRow.holds Tryz.pinned (OpenSpec.ofChange transKeepsSpec)

/-- ITS FALSE NEIGHBOUR: 'it returns false'. Refute it at one input. -/
def transKeepsWrong : ChangeSpec := { name := "transKeeps", fn := fun _ => fun
  | [d1, d2, d3, d4, d5] => { results := [.lit (.bool false)], args := [d1, d2, d3, d4, d5] }
  | _ => none }
def TransKeepsWrongFalsely : Prop := transKeepsRow.holds Tryz.pinned (OpenSpec.ofChange transKeepsWrong)

/-- 'escarpmentlaw19.TransShifts': WHATEVER THE INPUT: true; the input reads as it did. -/
def transShiftsSpec : ChangeSpec := { name := "transShifts", fn := fun _ => fun
  | [d1, d2, d3, d4] => { results := [.lit (.bool true)], args := [d1, d2, d3, d4] }
  | _ => none }
def transShiftsRow : OpenClaim := { program := "ytilekhkgobmolaagreat", sum := "7644caf2359deaae5b3fc6307124f41ac102b704b27fce56e895342e8bf36e92", func := "escarpment/escarpmentlaw19.TransShifts", spec := "transShifts", unfollowed := true, recurses := true, apart := false }
def TransShiftsSaid : Prop := transShiftsRow.holds Tryz.pinned (OpenSpec.ofChange transShiftsSpec)

/-- ITS FALSE NEIGHBOUR: 'it returns false'. Refute it at one input. -/
def transShiftsWrong : ChangeSpec := { name := "transShifts", fn := fun _ => fun
  | [d1, d2, d3, d4] => { results := [.lit (.bool false)], args := [d1, d2, d3, d4] }
  | _ => none }
def TransShiftsWrongFalsely : Prop := transShiftsRow.holds Tryz.pinned (OpenSpec.ofChange transShiftsWrong)

/- THE SECOND FORM. 'bulk': how many values and letters a reading holds, each counted each time it is reached (what is shared counts as often as it is met; a slice's spare places count too). A statement '..UptoSaid' is the law's where the arguments, and the package variables that the reading takes, are together of bulk at most 1048576: NARROWER than '..Said'. Prove '..Said' where nothing that the law and all that it calls make is longer than what came in: it says more and counts as full. Else prove '..UptoSaid'. A law counts once. -/
mutual
def uptoBulk {H : Type} : DataW H → Nat
  | .lit (.string bytes) => bytes.length + 1
  | .lit _ => 1
  | .nil => 1
  | .ptr d => uptoBulk d + 1
  | .slice elems spare => uptoBulkAll elems + uptoBulkAll spare + 1
  | .agg parts => uptoBulkAll parts + 1
  | .iface _ d => uptoBulk d + 1
  | .map entries => uptoBulkEntries entries + 1
  | .held _ => 1
def uptoBulkAll {H : Type} : List (DataW H) → Nat
  | [] => 0
  | d :: r => uptoBulk d + uptoBulkAll r
def uptoBulkEntries {H : Type} : List (Lit × DataW H) → Nat
  | [] => 0
  | x :: r => uptoBulkEntry x + uptoBulkEntries r
def uptoBulkEntry {H : Type} : Lit × DataW H → Nat
  | (.string bytes, d) => bytes.length + uptoBulk d + 1
  | (_, d) => uptoBulk d + 1
 end
def uptoSmall : (H : Type) → List (DataW H) → Bool := fun _ ds => decide (uptoBulkAll ds ≤ 1048576)
def OpenSpec.upto (s : _root_.Go.ChangeSpec) : _root_.Go.OpenSpec := { _root_.Go.OpenSpec.ofChange s with cond := some uptoSmall }

/-- 'escarpmentlaw19.TransAlls', WHERE WHAT IT READS IS OF BULK AT MOST 1048576: true; the input reads as it did. -/
def transAllsUptoRow : OpenClaim := { program := "ytilekhkgobmolaagreat", sum := "7644caf2359deaae5b3fc6307124f41ac102b704b27fce56e895342e8bf36e92", func := "escarpment/escarpmentlaw19.TransAlls", spec := "transAlls", unfollowed := true, recurses := true, apart := false, narrowed := true }
def TransAllsUptoSaid : Prop := transAllsUptoRow.holds Tryz.pinned (OpenSpec.upto transAllsSpec)

/-- 'escarpmentlaw19.TransGrows', WHERE WHAT IT READS IS OF BULK AT MOST 1048576: true; the input reads as it did. -/
def transGrowsUptoRow : OpenClaim := { program := "ytilekhkgobmolaagreat", sum := "7644caf2359deaae5b3fc6307124f41ac102b704b27fce56e895342e8bf36e92", func := "escarpment/escarpmentlaw19.TransGrows", spec := "transGrows", unfollowed := true, recurses := true, apart := false, narrowed := true }
def TransGrowsUptoSaid : Prop := transGrowsUptoRow.holds Tryz.pinned (OpenSpec.upto transGrowsSpec)

/-- 'escarpmentlaw19.TransKeeps', WHERE WHAT IT READS IS OF BULK AT MOST 1048576: true; the input reads as it did. -/
def transKeepsUptoRow : OpenClaim := { program := "ytilekhkgobmolaagreat", sum := "7644caf2359deaae5b3fc6307124f41ac102b704b27fce56e895342e8bf36e92", func := "escarpment/escarpmentlaw19.TransKeeps", spec := "transKeeps", unfollowed := true, recurses := true, apart := false, narrowed := true }
def TransKeepsUptoSaid : Prop := transKeepsUptoRow.holds Tryz.pinned (OpenSpec.upto transKeepsSpec)

/-- 'escarpmentlaw19.TransShifts', WHERE WHAT IT READS IS OF BULK AT MOST 1048576: true; the input reads as it did. -/
def transShiftsUptoRow : OpenClaim := { program := "ytilekhkgobmolaagreat", sum := "7644caf2359deaae5b3fc6307124f41ac102b704b27fce56e895342e8bf36e92", func := "escarpment/escarpmentlaw19.TransShifts", spec := "transShifts", unfollowed := true, recurses := true, apart := false, narrowed := true }
def TransShiftsUptoSaid : Prop := transShiftsUptoRow.holds Tryz.pinned (OpenSpec.upto transShiftsSpec)

end Rows
end Go.Proofs.YtilekhkgobmolaaGreat
