/-
  NARROWER THAN 'FOR EVERY INPUT', by the rows' own cells (each row's printed sentence says how): SnapshotMatchesReference: laid · SnapshotModelMatchesReference: laid · SnapshotSolutions: laid · SnapshotFixed: laid · SnapshotLeast: laid · SnapshotMonotone: laid · SnapshotOrder: laid · SnapshotParts: laid · SnapshotNames: laid.
  DERIVED. THE GIVEN ROWS OF THIS SEAT. 9 by the template 'for every input the law returns true; each argument reads behind the call as it read before'; 0 by the template 'total and deterministic' (their statements: YtmkbfepnleajhaaGreatDoorTotals.lean).
  GIVEN WITH THE SEED: the statements are not yours to turn. If you find one false, say at which input.
  Laid BY PROGRAM, IN A SANDBOX (cutbox-rows.mjs): the forced cells as the released guide's own fill.sh prints them over the translation c7dd4aaeb4b3a08f… (all of the seat's roots in one cut). By AI agents, Wed Nov 11 2026. No macro, syntax, notation, axiom, sorry.
-/
import Derived.Test.YtmkbfepnleajhaaGreatDoorChecked
import GoSem.Claim
import GoSem.ClaimJoined
import GoSem.ClaimMapViews
import Derived.JoinedTies
import Derived.KernelRfl
namespace Go.Proofs.YtmkbfepnleajhaaGreatDoor
/- THE CELL 'sum', in the pinned program and in every row, IS THE sha256 OF THE DUMP (.gsa) THAT YtmkbfepnleajhaaGreatDoorProg.lean LOADS. Nothing in Lean hashes anything: it is a label: what it is worth is what the hold of that sum in a sandbox is worth. -/
noncomputable def Tryz.pinned : Pinned := { name := "ytmkbfepnleajhaagreatdoor", sum := "c7dd4aaeb4b3a08fb94a6376c2d0c71761ed3df4aa2227ddc204354227a9b2d8", checked := Tryz.checked }
namespace Rows
def none {H : Type} : Left H := { results := [], args := [] }

/- WHAT THE LISTED PACKAGE-LEVEL VARIABLES READ AS WHEN THE CALL BEGINS. Each datum BY PROGRAM (the guide's laid-datum.mjs) off the statement by which the dump's own 'gosem.cut.vars' lays the variable. In a bare row this is a premise. The card (YtmkbfepnleajhaaGreatDoorCards.lean) ties it to the program's text. -/
def laid_porism_lattice_keys {H : Type} : DataW H := .slice [.lit (.string [108, 97, 116, 116, 105, 99, 101]), .lit (.string [102, 117, 110, 99, 116, 105, 111, 110]), .lit (.string [111, 110]), .lit (.string [98, 97, 115, 101]), .lit (.string [118, 105, 101, 119]), .lit (.string [107, 101, 121]), .lit (.string [100, 101, 110, 121]), .lit (.string [110, 111, 116]), .lit (.string [105, 110, 116]), .lit (.string [115, 121, 109])] []
def laid_porism_porismref03_Keys {H : Type} : DataW H := .slice [.lit (.string [108, 97, 116, 116, 105, 99, 101]), .lit (.string [102, 117, 110, 99, 116, 105, 111, 110]), .lit (.string [111, 110]), .lit (.string [98, 97, 115, 101]), .lit (.string [118, 105, 101, 119]), .lit (.string [107, 101, 121]), .lit (.string [100, 101, 110, 121]), .lit (.string [110, 111, 116]), .lit (.string [105, 110, 116]), .lit (.string [115, 121, 109])] []
def laid_porism_value_words {H : Type} : DataW H := .agg [.lit (.string [108, 97, 116, 116, 105, 99, 101]), .lit (.string [102, 117, 110, 99, 116, 105, 111, 110]), .lit (.string [111, 110]), .lit (.string [98, 97, 115, 101]), .lit (.string [118, 105, 101, 119]), .lit (.string [107, 101, 121]), .lit (.string [100, 101, 110, 121]), .lit (.string [110, 111, 116]), .lit (.string [105, 110, 116]), .lit (.string [115, 121, 109])]

/-- 'porismlaw13.SnapshotMatchesReference': WHATEVER THE INPUT: true; the input reads as it did. -/
def snapshotMatchesReferenceSpec : ChangeSpec := { name := "snapshotMatchesReference", fn := fun _ => fun
  | [d1, d2, d3, d4] => { results := [.lit (.bool true)], args := [d1, d2, d3, d4] }
  | _ => none }
def snapshotMatchesReferenceRow : OpenClaim := { program := "ytmkbfepnleajhaagreatdoor", sum := "c7dd4aaeb4b3a08fb94a6376c2d0c71761ed3df4aa2227ddc204354227a9b2d8", func := "porism/porismlaw13.SnapshotMatchesReference", spec := "snapshotMatchesReference", inPlace := ["slices.overlaps[porism/api.Fact]"], unfollowed := true, recurses := true, named := ["porism/value.words", "porism/lattice.keys", "porism/porismref03.Keys"], plainKeys := false, apart := false, laid := [("porism/lattice.keys", laid_porism_lattice_keys), ("porism/porismref03.Keys", laid_porism_porismref03_Keys), ("porism/value.words", laid_porism_value_words)] }
def SnapshotMatchesReferenceSaid : Prop := snapshotMatchesReferenceRow.holds Tryz.pinned (OpenSpec.ofChange snapshotMatchesReferenceSpec)

/-- ITS FALSE NEIGHBOUR: 'it returns false'. Refute it at one input. -/
def snapshotMatchesReferenceWrong : ChangeSpec := { name := "snapshotMatchesReference", fn := fun _ => fun
  | [d1, d2, d3, d4] => { results := [.lit (.bool false)], args := [d1, d2, d3, d4] }
  | _ => none }
def SnapshotMatchesReferenceWrongFalsely : Prop := snapshotMatchesReferenceRow.holds Tryz.pinned (OpenSpec.ofChange snapshotMatchesReferenceWrong)

/-- 'porismlaw13.SnapshotModelMatchesReference': WHATEVER THE INPUT: true; the input reads as it did. -/
def snapshotModelMatchesReferenceSpec : ChangeSpec := { name := "snapshotModelMatchesReference", fn := fun _ => fun
  | [d1, d2] => { results := [.lit (.bool true)], args := [d1, d2] }
  | _ => none }
def snapshotModelMatchesReferenceRow : OpenClaim := { program := "ytmkbfepnleajhaagreatdoor", sum := "c7dd4aaeb4b3a08fb94a6376c2d0c71761ed3df4aa2227ddc204354227a9b2d8", func := "porism/porismlaw13.SnapshotModelMatchesReference", spec := "snapshotModelMatchesReference", inPlace := ["slices.overlaps[porism/api.Fact]"], unfollowed := true, recurses := true, named := ["porism/value.words", "porism/lattice.keys", "porism/porismref03.Keys"], plainKeys := false, apart := false, laid := [("porism/lattice.keys", laid_porism_lattice_keys), ("porism/porismref03.Keys", laid_porism_porismref03_Keys), ("porism/value.words", laid_porism_value_words)] }
def SnapshotModelMatchesReferenceSaid : Prop := snapshotModelMatchesReferenceRow.holds Tryz.pinned (OpenSpec.ofChange snapshotModelMatchesReferenceSpec)

/-- ITS FALSE NEIGHBOUR: 'it returns false'. Refute it at one input. -/
def snapshotModelMatchesReferenceWrong : ChangeSpec := { name := "snapshotModelMatchesReference", fn := fun _ => fun
  | [d1, d2] => { results := [.lit (.bool false)], args := [d1, d2] }
  | _ => none }
def SnapshotModelMatchesReferenceWrongFalsely : Prop := snapshotModelMatchesReferenceRow.holds Tryz.pinned (OpenSpec.ofChange snapshotModelMatchesReferenceWrong)

/-- 'porismlaw13.SnapshotSolutions': WHATEVER THE INPUT: true; the input reads as it did. -/
def snapshotSolutionsSpec : ChangeSpec := { name := "snapshotSolutions", fn := fun _ => fun
  | [d1, d2, d3] => { results := [.lit (.bool true)], args := [d1, d2, d3] }
  | _ => none }
def snapshotSolutionsRow : OpenClaim := { program := "ytmkbfepnleajhaagreatdoor", sum := "c7dd4aaeb4b3a08fb94a6376c2d0c71761ed3df4aa2227ddc204354227a9b2d8", func := "porism/porismlaw13.SnapshotSolutions", spec := "snapshotSolutions", inPlace := ["slices.overlaps[porism/api.Fact]"], unfollowed := true, recurses := true, named := ["porism/value.words", "porism/lattice.keys", "porism/porismref03.Keys"], plainKeys := false, apart := false, laid := [("porism/lattice.keys", laid_porism_lattice_keys), ("porism/porismref03.Keys", laid_porism_porismref03_Keys), ("porism/value.words", laid_porism_value_words)] }
def SnapshotSolutionsSaid : Prop := snapshotSolutionsRow.holds Tryz.pinned (OpenSpec.ofChange snapshotSolutionsSpec)

/-- ITS FALSE NEIGHBOUR: 'it returns false'. Refute it at one input. -/
def snapshotSolutionsWrong : ChangeSpec := { name := "snapshotSolutions", fn := fun _ => fun
  | [d1, d2, d3] => { results := [.lit (.bool false)], args := [d1, d2, d3] }
  | _ => none }
def SnapshotSolutionsWrongFalsely : Prop := snapshotSolutionsRow.holds Tryz.pinned (OpenSpec.ofChange snapshotSolutionsWrong)

/-- 'porismlaw13.SnapshotFixed': WHATEVER THE INPUT: true; the input reads as it did. -/
def snapshotFixedSpec : ChangeSpec := { name := "snapshotFixed", fn := fun _ => fun
  | [d1, d2] => { results := [.lit (.bool true)], args := [d1, d2] }
  | _ => none }
def snapshotFixedRow : OpenClaim := { program := "ytmkbfepnleajhaagreatdoor", sum := "c7dd4aaeb4b3a08fb94a6376c2d0c71761ed3df4aa2227ddc204354227a9b2d8", func := "porism/porismlaw13.SnapshotFixed", spec := "snapshotFixed", inPlace := ["slices.overlaps[porism/api.Fact]"], unfollowed := true, recurses := true, named := ["porism/value.words", "porism/lattice.keys", "porism/porismref03.Keys"], plainKeys := false, apart := false, laid := [("porism/lattice.keys", laid_porism_lattice_keys), ("porism/porismref03.Keys", laid_porism_porismref03_Keys), ("porism/value.words", laid_porism_value_words)] }
def SnapshotFixedSaid : Prop := snapshotFixedRow.holds Tryz.pinned (OpenSpec.ofChange snapshotFixedSpec)

/-- ITS FALSE NEIGHBOUR: 'it returns false'. Refute it at one input. -/
def snapshotFixedWrong : ChangeSpec := { name := "snapshotFixed", fn := fun _ => fun
  | [d1, d2] => { results := [.lit (.bool false)], args := [d1, d2] }
  | _ => none }
def SnapshotFixedWrongFalsely : Prop := snapshotFixedRow.holds Tryz.pinned (OpenSpec.ofChange snapshotFixedWrong)

/-- 'porismlaw13.SnapshotLeast': WHATEVER THE INPUT: true; the input reads as it did. -/
def snapshotLeastSpec : ChangeSpec := { name := "snapshotLeast", fn := fun _ => fun
  | [d1, d2, d3, d4] => { results := [.lit (.bool true)], args := [d1, d2, d3, d4] }
  | _ => none }
def snapshotLeastRow : OpenClaim := { program := "ytmkbfepnleajhaagreatdoor", sum := "c7dd4aaeb4b3a08fb94a6376c2d0c71761ed3df4aa2227ddc204354227a9b2d8", func := "porism/porismlaw13.SnapshotLeast", spec := "snapshotLeast", inPlace := ["slices.overlaps[porism/api.Fact]"], unfollowed := true, recurses := true, named := ["porism/value.words", "porism/lattice.keys", "porism/porismref03.Keys"], plainKeys := false, apart := false, laid := [("porism/lattice.keys", laid_porism_lattice_keys), ("porism/porismref03.Keys", laid_porism_porismref03_Keys), ("porism/value.words", laid_porism_value_words)] }
def SnapshotLeastSaid : Prop := snapshotLeastRow.holds Tryz.pinned (OpenSpec.ofChange snapshotLeastSpec)

/-- ITS FALSE NEIGHBOUR: 'it returns false'. Refute it at one input. -/
def snapshotLeastWrong : ChangeSpec := { name := "snapshotLeast", fn := fun _ => fun
  | [d1, d2, d3, d4] => { results := [.lit (.bool false)], args := [d1, d2, d3, d4] }
  | _ => none }
def SnapshotLeastWrongFalsely : Prop := snapshotLeastRow.holds Tryz.pinned (OpenSpec.ofChange snapshotLeastWrong)

/-- 'porismlaw13.SnapshotMonotone': WHATEVER THE INPUT: true; the input reads as it did. -/
def snapshotMonotoneSpec : ChangeSpec := { name := "snapshotMonotone", fn := fun _ => fun
  | [d1, d2, d3] => { results := [.lit (.bool true)], args := [d1, d2, d3] }
  | _ => none }
def snapshotMonotoneRow : OpenClaim := { program := "ytmkbfepnleajhaagreatdoor", sum := "c7dd4aaeb4b3a08fb94a6376c2d0c71761ed3df4aa2227ddc204354227a9b2d8", func := "porism/porismlaw13.SnapshotMonotone", spec := "snapshotMonotone", inPlace := ["slices.overlaps[porism/api.Fact]"], unfollowed := true, recurses := true, named := ["porism/value.words", "porism/lattice.keys", "porism/porismref03.Keys"], plainKeys := false, apart := false, laid := [("porism/lattice.keys", laid_porism_lattice_keys), ("porism/porismref03.Keys", laid_porism_porismref03_Keys), ("porism/value.words", laid_porism_value_words)] }
def SnapshotMonotoneSaid : Prop := snapshotMonotoneRow.holds Tryz.pinned (OpenSpec.ofChange snapshotMonotoneSpec)

/-- ITS FALSE NEIGHBOUR: 'it returns false'. Refute it at one input. -/
def snapshotMonotoneWrong : ChangeSpec := { name := "snapshotMonotone", fn := fun _ => fun
  | [d1, d2, d3] => { results := [.lit (.bool false)], args := [d1, d2, d3] }
  | _ => none }
def SnapshotMonotoneWrongFalsely : Prop := snapshotMonotoneRow.holds Tryz.pinned (OpenSpec.ofChange snapshotMonotoneWrong)

/-- 'porismlaw13.SnapshotOrder': WHATEVER THE INPUT: true; the input reads as it did. -/
def snapshotOrderSpec : ChangeSpec := { name := "snapshotOrder", fn := fun _ => fun
  | [d1, d2, d3] => { results := [.lit (.bool true)], args := [d1, d2, d3] }
  | _ => none }
def snapshotOrderRow : OpenClaim := { program := "ytmkbfepnleajhaagreatdoor", sum := "c7dd4aaeb4b3a08fb94a6376c2d0c71761ed3df4aa2227ddc204354227a9b2d8", func := "porism/porismlaw13.SnapshotOrder", spec := "snapshotOrder", inPlace := ["slices.overlaps[porism/api.Fact]"], unfollowed := true, recurses := true, named := ["porism/value.words", "porism/lattice.keys", "porism/porismref03.Keys"], plainKeys := false, apart := false, laid := [("porism/lattice.keys", laid_porism_lattice_keys), ("porism/porismref03.Keys", laid_porism_porismref03_Keys), ("porism/value.words", laid_porism_value_words)] }
def SnapshotOrderSaid : Prop := snapshotOrderRow.holds Tryz.pinned (OpenSpec.ofChange snapshotOrderSpec)

/-- ITS FALSE NEIGHBOUR: 'it returns false'. Refute it at one input. -/
def snapshotOrderWrong : ChangeSpec := { name := "snapshotOrder", fn := fun _ => fun
  | [d1, d2, d3] => { results := [.lit (.bool false)], args := [d1, d2, d3] }
  | _ => none }
def SnapshotOrderWrongFalsely : Prop := snapshotOrderRow.holds Tryz.pinned (OpenSpec.ofChange snapshotOrderWrong)

/-- 'porismlaw13.SnapshotParts': WHATEVER THE INPUT: true; the input reads as it did. -/
def snapshotPartsSpec : ChangeSpec := { name := "snapshotParts", fn := fun _ => fun
  | [d1, d2, d3] => { results := [.lit (.bool true)], args := [d1, d2, d3] }
  | _ => none }
def snapshotPartsRow : OpenClaim := { program := "ytmkbfepnleajhaagreatdoor", sum := "c7dd4aaeb4b3a08fb94a6376c2d0c71761ed3df4aa2227ddc204354227a9b2d8", func := "porism/porismlaw13.SnapshotParts", spec := "snapshotParts", inPlace := ["slices.overlaps[porism/api.Fact]"], unfollowed := true, recurses := true, named := ["porism/value.words", "porism/lattice.keys", "porism/porismref03.Keys"], plainKeys := false, apart := false, laid := [("porism/lattice.keys", laid_porism_lattice_keys), ("porism/porismref03.Keys", laid_porism_porismref03_Keys), ("porism/value.words", laid_porism_value_words)] }
def SnapshotPartsSaid : Prop := snapshotPartsRow.holds Tryz.pinned (OpenSpec.ofChange snapshotPartsSpec)

/-- ITS FALSE NEIGHBOUR: 'it returns false'. Refute it at one input. -/
def snapshotPartsWrong : ChangeSpec := { name := "snapshotParts", fn := fun _ => fun
  | [d1, d2, d3] => { results := [.lit (.bool false)], args := [d1, d2, d3] }
  | _ => none }
def SnapshotPartsWrongFalsely : Prop := snapshotPartsRow.holds Tryz.pinned (OpenSpec.ofChange snapshotPartsWrong)

/-- 'porismlaw13.SnapshotNames': WHATEVER THE INPUT: true; the input reads as it did. -/
def snapshotNamesSpec : ChangeSpec := { name := "snapshotNames", fn := fun _ => fun
  | [d1, d2, d3, d4] => { results := [.lit (.bool true)], args := [d1, d2, d3, d4] }
  | _ => none }
def snapshotNamesRow : OpenClaim := { program := "ytmkbfepnleajhaagreatdoor", sum := "c7dd4aaeb4b3a08fb94a6376c2d0c71761ed3df4aa2227ddc204354227a9b2d8", func := "porism/porismlaw13.SnapshotNames", spec := "snapshotNames", inPlace := ["slices.overlaps[porism/api.Fact]"], unfollowed := true, recurses := true, named := ["porism/value.words", "porism/lattice.keys", "porism/porismref03.Keys"], plainKeys := false, apart := false, laid := [("porism/lattice.keys", laid_porism_lattice_keys), ("porism/porismref03.Keys", laid_porism_porismref03_Keys), ("porism/value.words", laid_porism_value_words)] }
def SnapshotNamesSaid : Prop := snapshotNamesRow.holds Tryz.pinned (OpenSpec.ofChange snapshotNamesSpec)

/-- ITS FALSE NEIGHBOUR: 'it returns false'. Refute it at one input. -/
def snapshotNamesWrong : ChangeSpec := { name := "snapshotNames", fn := fun _ => fun
  | [d1, d2, d3, d4] => { results := [.lit (.bool false)], args := [d1, d2, d3, d4] }
  | _ => none }
def SnapshotNamesWrongFalsely : Prop := snapshotNamesRow.holds Tryz.pinned (OpenSpec.ofChange snapshotNamesWrong)

/- THE SECOND FORM. 'bulk': how many values and letters a reading holds, each counted each time it is reached (what is shared counts as often as it is met; a slice's spare places count too). A statement '..UptoSaid' is the law's where the arguments, and the package variables that the reading takes, are together of bulk at most 1048576: NARROWER than '..Said'. Prove '..Said' where nothing that the law and all that it calls make is longer than what came in: it says more and counts as full. Else prove '..UptoSaid'. A law counts once. -/
mutual
def uptoBulk {H : Type} : DataW H → Nat
  | .lit (.string bytes) => bytes.length + 1
  | .lit _ => 1
  | .nil => 1
  | .ptr d => uptoBulk d + 1
  | .slice elems spare => uptoBulkAll elems + uptoBulkAll spare + 1
  | .agg parts => uptoBulkAll parts + 1
  | .iface _ d => uptoBulk d + 1
  | .map entries => uptoBulkEntries entries + 1
  | .held _ => 1
def uptoBulkAll {H : Type} : List (DataW H) → Nat
  | [] => 0
  | d :: r => uptoBulk d + uptoBulkAll r
def uptoBulkEntries {H : Type} : List (Lit × DataW H) → Nat
  | [] => 0
  | x :: r => uptoBulkEntry x + uptoBulkEntries r
def uptoBulkEntry {H : Type} : Lit × DataW H → Nat
  | (.string bytes, d) => bytes.length + uptoBulk d + 1
  | (_, d) => uptoBulk d + 1
 end
def uptoSmall : (H : Type) → List (DataW H) → Bool := fun _ ds => decide (uptoBulkAll ds ≤ 1048576)
def OpenSpec.upto (s : _root_.Go.ChangeSpec) : _root_.Go.OpenSpec := { _root_.Go.OpenSpec.ofChange s with cond := some uptoSmall }

/-- 'porismlaw13.SnapshotMatchesReference', WHERE WHAT IT READS IS OF BULK AT MOST 1048576: true; the input reads as it did. -/
def snapshotMatchesReferenceUptoRow : OpenClaim := { program := "ytmkbfepnleajhaagreatdoor", sum := "c7dd4aaeb4b3a08fb94a6376c2d0c71761ed3df4aa2227ddc204354227a9b2d8", func := "porism/porismlaw13.SnapshotMatchesReference", spec := "snapshotMatchesReference", inPlace := ["slices.overlaps[porism/api.Fact]"], unfollowed := true, recurses := true, named := ["porism/value.words", "porism/lattice.keys", "porism/porismref03.Keys"], plainKeys := false, apart := false, laid := [("porism/lattice.keys", laid_porism_lattice_keys), ("porism/porismref03.Keys", laid_porism_porismref03_Keys), ("porism/value.words", laid_porism_value_words)], narrowed := true }
def SnapshotMatchesReferenceUptoSaid : Prop := snapshotMatchesReferenceUptoRow.holds Tryz.pinned (OpenSpec.upto snapshotMatchesReferenceSpec)

/-- 'porismlaw13.SnapshotModelMatchesReference', WHERE WHAT IT READS IS OF BULK AT MOST 1048576: true; the input reads as it did. -/
def snapshotModelMatchesReferenceUptoRow : OpenClaim := { program := "ytmkbfepnleajhaagreatdoor", sum := "c7dd4aaeb4b3a08fb94a6376c2d0c71761ed3df4aa2227ddc204354227a9b2d8", func := "porism/porismlaw13.SnapshotModelMatchesReference", spec := "snapshotModelMatchesReference", inPlace := ["slices.overlaps[porism/api.Fact]"], unfollowed := true, recurses := true, named := ["porism/value.words", "porism/lattice.keys", "porism/porismref03.Keys"], plainKeys := false, apart := false, laid := [("porism/lattice.keys", laid_porism_lattice_keys), ("porism/porismref03.Keys", laid_porism_porismref03_Keys), ("porism/value.words", laid_porism_value_words)], narrowed := true }
def SnapshotModelMatchesReferenceUptoSaid : Prop := snapshotModelMatchesReferenceUptoRow.holds Tryz.pinned (OpenSpec.upto snapshotModelMatchesReferenceSpec)

/-- 'porismlaw13.SnapshotSolutions', WHERE WHAT IT READS IS OF BULK AT MOST 1048576: true; the input reads as it did. -/
def snapshotSolutionsUptoRow : OpenClaim := { program := "ytmkbfepnleajhaagreatdoor", sum := "c7dd4aaeb4b3a08fb94a6376c2d0c71761ed3df4aa2227ddc204354227a9b2d8", func := "porism/porismlaw13.SnapshotSolutions", spec := "snapshotSolutions", inPlace := ["slices.overlaps[porism/api.Fact]"], unfollowed := true, recurses := true, named := ["porism/value.words", "porism/lattice.keys", "porism/porismref03.Keys"], plainKeys := false, apart := false, laid := [("porism/lattice.keys", laid_porism_lattice_keys), ("porism/porismref03.Keys", laid_porism_porismref03_Keys), ("porism/value.words", laid_porism_value_words)], narrowed := true }
def SnapshotSolutionsUptoSaid : Prop := snapshotSolutionsUptoRow.holds Tryz.pinned (OpenSpec.upto snapshotSolutionsSpec)

/-- 'porismlaw13.SnapshotFixed', WHERE WHAT IT READS IS OF BULK AT MOST 1048576: true; the input reads as it did. -/
def snapshotFixedUptoRow : OpenClaim := { program := "ytmkbfepnleajhaagreatdoor", sum := "c7dd4aaeb4b3a08fb94a6376c2d0c71761ed3df4aa2227ddc204354227a9b2d8", func := "porism/porismlaw13.SnapshotFixed", spec := "snapshotFixed", inPlace := ["slices.overlaps[porism/api.Fact]"], unfollowed := true, recurses := true, named := ["porism/value.words", "porism/lattice.keys", "porism/porismref03.Keys"], plainKeys := false, apart := false, laid := [("porism/lattice.keys", laid_porism_lattice_keys), ("porism/porismref03.Keys", laid_porism_porismref03_Keys), ("porism/value.words", laid_porism_value_words)], narrowed := true }
def SnapshotFixedUptoSaid : Prop := snapshotFixedUptoRow.holds Tryz.pinned (OpenSpec.upto snapshotFixedSpec)

/-- 'porismlaw13.SnapshotLeast', WHERE WHAT IT READS IS OF BULK AT MOST 1048576: true; the input reads as it did. -/
def snapshotLeastUptoRow : OpenClaim := { program := "ytmkbfepnleajhaagreatdoor", sum := "c7dd4aaeb4b3a08fb94a6376c2d0c71761ed3df4aa2227ddc204354227a9b2d8", func := "porism/porismlaw13.SnapshotLeast", spec := "snapshotLeast", inPlace := ["slices.overlaps[porism/api.Fact]"], unfollowed := true, recurses := true, named := ["porism/value.words", "porism/lattice.keys", "porism/porismref03.Keys"], plainKeys := false, apart := false, laid := [("porism/lattice.keys", laid_porism_lattice_keys), ("porism/porismref03.Keys", laid_porism_porismref03_Keys), ("porism/value.words", laid_porism_value_words)], narrowed := true }
def SnapshotLeastUptoSaid : Prop := snapshotLeastUptoRow.holds Tryz.pinned (OpenSpec.upto snapshotLeastSpec)

/-- 'porismlaw13.SnapshotMonotone', WHERE WHAT IT READS IS OF BULK AT MOST 1048576: true; the input reads as it did. -/
def snapshotMonotoneUptoRow : OpenClaim := { program := "ytmkbfepnleajhaagreatdoor", sum := "c7dd4aaeb4b3a08fb94a6376c2d0c71761ed3df4aa2227ddc204354227a9b2d8", func := "porism/porismlaw13.SnapshotMonotone", spec := "snapshotMonotone", inPlace := ["slices.overlaps[porism/api.Fact]"], unfollowed := true, recurses := true, named := ["porism/value.words", "porism/lattice.keys", "porism/porismref03.Keys"], plainKeys := false, apart := false, laid := [("porism/lattice.keys", laid_porism_lattice_keys), ("porism/porismref03.Keys", laid_porism_porismref03_Keys), ("porism/value.words", laid_porism_value_words)], narrowed := true }
def SnapshotMonotoneUptoSaid : Prop := snapshotMonotoneUptoRow.holds Tryz.pinned (OpenSpec.upto snapshotMonotoneSpec)

/-- 'porismlaw13.SnapshotOrder', WHERE WHAT IT READS IS OF BULK AT MOST 1048576: true; the input reads as it did. -/
def snapshotOrderUptoRow : OpenClaim := { program := "ytmkbfepnleajhaagreatdoor", sum := "c7dd4aaeb4b3a08fb94a6376c2d0c71761ed3df4aa2227ddc204354227a9b2d8", func := "porism/porismlaw13.SnapshotOrder", spec := "snapshotOrder", inPlace := ["slices.overlaps[porism/api.Fact]"], unfollowed := true, recurses := true, named := ["porism/value.words", "porism/lattice.keys", "porism/porismref03.Keys"], plainKeys := false, apart := false, laid := [("porism/lattice.keys", laid_porism_lattice_keys), ("porism/porismref03.Keys", laid_porism_porismref03_Keys), ("porism/value.words", laid_porism_value_words)], narrowed := true }
def SnapshotOrderUptoSaid : Prop := snapshotOrderUptoRow.holds Tryz.pinned (OpenSpec.upto snapshotOrderSpec)

/-- 'porismlaw13.SnapshotParts', WHERE WHAT IT READS IS OF BULK AT MOST 1048576: true; the input reads as it did. -/
def snapshotPartsUptoRow : OpenClaim := { program := "ytmkbfepnleajhaagreatdoor", sum := "c7dd4aaeb4b3a08fb94a6376c2d0c71761ed3df4aa2227ddc204354227a9b2d8", func := "porism/porismlaw13.SnapshotParts", spec := "snapshotParts", inPlace := ["slices.overlaps[porism/api.Fact]"], unfollowed := true, recurses := true, named := ["porism/value.words", "porism/lattice.keys", "porism/porismref03.Keys"], plainKeys := false, apart := false, laid := [("porism/lattice.keys", laid_porism_lattice_keys), ("porism/porismref03.Keys", laid_porism_porismref03_Keys), ("porism/value.words", laid_porism_value_words)], narrowed := true }
def SnapshotPartsUptoSaid : Prop := snapshotPartsUptoRow.holds Tryz.pinned (OpenSpec.upto snapshotPartsSpec)

/-- 'porismlaw13.SnapshotNames', WHERE WHAT IT READS IS OF BULK AT MOST 1048576: true; the input reads as it did. -/
def snapshotNamesUptoRow : OpenClaim := { program := "ytmkbfepnleajhaagreatdoor", sum := "c7dd4aaeb4b3a08fb94a6376c2d0c71761ed3df4aa2227ddc204354227a9b2d8", func := "porism/porismlaw13.SnapshotNames", spec := "snapshotNames", inPlace := ["slices.overlaps[porism/api.Fact]"], unfollowed := true, recurses := true, named := ["porism/value.words", "porism/lattice.keys", "porism/porismref03.Keys"], plainKeys := false, apart := false, laid := [("porism/lattice.keys", laid_porism_lattice_keys), ("porism/porismref03.Keys", laid_porism_porismref03_Keys), ("porism/value.words", laid_porism_value_words)], narrowed := true }
def SnapshotNamesUptoSaid : Prop := snapshotNamesUptoRow.holds Tryz.pinned (OpenSpec.upto snapshotNamesSpec)

end Rows
end Go.Proofs.YtmkbfepnleajhaaGreatDoor
