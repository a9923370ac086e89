/-
  No cell of these rows narrows 'for every input' (looked for: loops, veiled, ifaces, maps, wideKeys, modest, calm, conditions, laid).
  DERIVED. THE GIVEN ROWS OF THIS SEAT. 2 by the template 'for every input the law returns true; each argument reads behind the call as it read before'; 0 by the template 'total and deterministic' (their statements: YtafmjhmpnlkeiaaTotals.lean).
  GIVEN WITH THE SEED: the statements are not yours to turn. If you find one false, say at which input.
  Laid BY PROGRAM, IN A SANDBOX (cutbox-rows.mjs): the forced cells as the released guide's own fill.sh prints them over the translation 43c7c63f2e1208ee… (all of the seat's roots in one cut). By AI agents, Wed Nov 11 2026. No macro, syntax, notation, axiom, sorry.
-/
import Derived.Test.YtafmjhmpnlkeiaaChecked
import GoSem.Claim
import GoSem.ClaimJoined
import GoSem.ClaimMapViews
import Derived.JoinedTies
import Derived.KernelRfl
namespace Go.Proofs.Ytafmjhmpnlkeiaa
/- THE CELL 'sum', in the pinned program and in every row, IS THE sha256 OF THE DUMP (.gsa) THAT YtafmjhmpnlkeiaaProg.lean LOADS. Nothing in Lean hashes anything: it is a label: what it is worth is what the hold of that sum in a sandbox is worth. -/
noncomputable def Try.pinned : Pinned := { name := "ytafmjhmpnlkeiaa", sum := "43c7c63f2e1208ee00a9262be42ab370f55b5ca7e407cac0e5f916b5482b26d1", checked := Try.checked }
namespace Rows
def none {H : Type} : Left H := { results := [], args := [] }

/-- 'stolonlaw05.IgmpWrites': WHATEVER THE INPUT: true; the input reads as it did. -/
def igmpWritesSpec : ChangeSpec := { name := "igmpWrites", fn := fun _ => fun
  | [d1, d2] => { results := [.lit (.bool true)], args := [d1, d2] }
  | _ => none }
def igmpWritesRow : OpenClaim := { program := "ytafmjhmpnlkeiaa", sum := "43c7c63f2e1208ee00a9262be42ab370f55b5ca7e407cac0e5f916b5482b26d1", func := "stolon/stolonlaw05.IgmpWrites", spec := "igmpWrites", unfollowed := true, recurses := true, apart := false }
def IgmpWritesSaid : Prop := igmpWritesRow.holds Try.pinned (OpenSpec.ofChange igmpWritesSpec)

/-- ITS FALSE NEIGHBOUR: 'it returns false'. Refute it at one input. -/
def igmpWritesWrong : ChangeSpec := { name := "igmpWrites", fn := fun _ => fun
  | [d1, d2] => { results := [.lit (.bool false)], args := [d1, d2] }
  | _ => none }
def IgmpWritesWrongFalsely : Prop := igmpWritesRow.holds Try.pinned (OpenSpec.ofChange igmpWritesWrong)

/-- 'stolonlaw05.IgmpReads': WHATEVER THE INPUT: true; the input reads as it did. -/
def igmpReadsSpec : ChangeSpec := { name := "igmpReads", fn := fun _ => fun
  | [d] => { results := [.lit (.bool true)], args := [d] }
  | _ => none }
def igmpReadsRow : OpenClaim := { program := "ytafmjhmpnlkeiaa", sum := "43c7c63f2e1208ee00a9262be42ab370f55b5ca7e407cac0e5f916b5482b26d1", func := "stolon/stolonlaw05.IgmpReads", spec := "igmpReads", unfollowed := true, recurses := true, apart := false }
def IgmpReadsSaid : Prop := igmpReadsRow.holds Try.pinned (OpenSpec.ofChange igmpReadsSpec)

/-- ITS FALSE NEIGHBOUR: 'it returns false'. Refute it at one input. -/
def igmpReadsWrong : ChangeSpec := { name := "igmpReads", fn := fun _ => fun
  | [d] => { results := [.lit (.bool false)], args := [d] }
  | _ => none }
def IgmpReadsWrongFalsely : Prop := igmpReadsRow.holds Try.pinned (OpenSpec.ofChange igmpReadsWrong)

/- THE SECOND FORM. 'bulk': how many values and letters a reading holds, each counted each time it is reached (what is shared counts as often as it is met; a slice's spare places count too). A statement '..UptoSaid' is the law's where the arguments, and the package variables that the reading takes, are together of bulk at most 1048576: NARROWER than '..Said'. Prove '..Said' where nothing that the law and all that it calls make is longer than what came in: it says more and counts as full. Else prove '..UptoSaid'. A law counts once. -/
mutual
def uptoBulk {H : Type} : DataW H → Nat
  | .lit (.string bytes) => bytes.length + 1
  | .lit _ => 1
  | .nil => 1
  | .ptr d => uptoBulk d + 1
  | .slice elems spare => uptoBulkAll elems + uptoBulkAll spare + 1
  | .agg parts => uptoBulkAll parts + 1
  | .iface _ d => uptoBulk d + 1
  | .map entries => uptoBulkEntries entries + 1
  | .held _ => 1
def uptoBulkAll {H : Type} : List (DataW H) → Nat
  | [] => 0
  | d :: r => uptoBulk d + uptoBulkAll r
def uptoBulkEntries {H : Type} : List (Lit × DataW H) → Nat
  | [] => 0
  | x :: r => uptoBulkEntry x + uptoBulkEntries r
def uptoBulkEntry {H : Type} : Lit × DataW H → Nat
  | (.string bytes, d) => bytes.length + uptoBulk d + 1
  | (_, d) => uptoBulk d + 1
 end
def uptoSmall : (H : Type) → List (DataW H) → Bool := fun _ ds => decide (uptoBulkAll ds ≤ 1048576)
def OpenSpec.upto (s : _root_.Go.ChangeSpec) : _root_.Go.OpenSpec := { _root_.Go.OpenSpec.ofChange s with cond := some uptoSmall }

/-- 'stolonlaw05.IgmpWrites', WHERE WHAT IT READS IS OF BULK AT MOST 1048576: true; the input reads as it did. -/
def igmpWritesUptoRow : OpenClaim := { program := "ytafmjhmpnlkeiaa", sum := "43c7c63f2e1208ee00a9262be42ab370f55b5ca7e407cac0e5f916b5482b26d1", func := "stolon/stolonlaw05.IgmpWrites", spec := "igmpWrites", unfollowed := true, recurses := true, apart := false, narrowed := true }
def IgmpWritesUptoSaid : Prop := igmpWritesUptoRow.holds Try.pinned (OpenSpec.upto igmpWritesSpec)

/-- 'stolonlaw05.IgmpReads', WHERE WHAT IT READS IS OF BULK AT MOST 1048576: true; the input reads as it did. -/
def igmpReadsUptoRow : OpenClaim := { program := "ytafmjhmpnlkeiaa", sum := "43c7c63f2e1208ee00a9262be42ab370f55b5ca7e407cac0e5f916b5482b26d1", func := "stolon/stolonlaw05.IgmpReads", spec := "igmpReads", unfollowed := true, recurses := true, apart := false, narrowed := true }
def IgmpReadsUptoSaid : Prop := igmpReadsUptoRow.holds Try.pinned (OpenSpec.upto igmpReadsSpec)

end Rows
end Go.Proofs.Ytafmjhmpnlkeiaa
