/-
  NARROWER THAN 'FOR EVERY INPUT', by the rows' own cells (each row's printed sentence says how): DeriveRounds: laid · DeriveSequences: laid.
  DERIVED. THE GIVEN ROWS OF THIS SEAT. 2 by the template 'for every input the law returns true; each argument reads behind the call as it read before'; 0 by the template 'total and deterministic' (their statements: YtegalmbcaggfiaaGreatDoorTotals.lean).
  GIVEN WITH THE SEED: the statements are not yours to turn. If you find one false, say at which input.
  Laid BY PROGRAM, IN A SANDBOX (cutbox-rows.mjs): the forced cells as the released guide's own fill.sh prints them over the translation 51eff8452ead1fe4… (all of the seat's roots in one cut). By AI agents, Wed Nov 11 2026. No macro, syntax, notation, axiom, sorry.
-/
import Derived.Test.YtegalmbcaggfiaaGreatDoorChecked
import GoSem.Claim
import GoSem.ClaimJoined
import GoSem.ClaimMapViews
import Derived.JoinedTies
import Derived.KernelRfl
namespace Go.Proofs.YtegalmbcaggfiaaGreatDoor
/- THE CELL 'sum', in the pinned program and in every row, IS THE sha256 OF THE DUMP (.gsa) THAT YtegalmbcaggfiaaGreatDoorProg.lean LOADS. Nothing in Lean hashes anything: it is a label: what it is worth is what the hold of that sum in a sandbox is worth. -/
noncomputable def Tryz.pinned : Pinned := { name := "ytegalmbcaggfiaagreatdoor", sum := "51eff8452ead1fe49d87cca5f5443c142c594a4cb4a5414a3ace70f271509cd5", checked := Tryz.checked }
namespace Rows
def none {H : Type} : Left H := { results := [], args := [] }

/- WHAT THE LISTED PACKAGE-LEVEL VARIABLES READ AS WHEN THE CALL BEGINS. Each datum BY PROGRAM (the guide's laid-datum.mjs) off the statement by which the dump's own 'gosem.cut.vars' lays the variable. In a bare row this is a premise. The card (YtegalmbcaggfiaaGreatDoorCards.lean) ties it to the program's text. -/
def laid_porism_lattice_keys {H : Type} : DataW H := .slice [.lit (.string [108, 97, 116, 116, 105, 99, 101]), .lit (.string [102, 117, 110, 99, 116, 105, 111, 110]), .lit (.string [111, 110]), .lit (.string [98, 97, 115, 101]), .lit (.string [118, 105, 101, 119]), .lit (.string [107, 101, 121]), .lit (.string [100, 101, 110, 121]), .lit (.string [110, 111, 116]), .lit (.string [105, 110, 116]), .lit (.string [115, 121, 109])] []
def laid_porism_porismref03_Keys {H : Type} : DataW H := .slice [.lit (.string [108, 97, 116, 116, 105, 99, 101]), .lit (.string [102, 117, 110, 99, 116, 105, 111, 110]), .lit (.string [111, 110]), .lit (.string [98, 97, 115, 101]), .lit (.string [118, 105, 101, 119]), .lit (.string [107, 101, 121]), .lit (.string [100, 101, 110, 121]), .lit (.string [110, 111, 116]), .lit (.string [105, 110, 116]), .lit (.string [115, 121, 109])] []
def laid_porism_value_words {H : Type} : DataW H := .agg [.lit (.string [108, 97, 116, 116, 105, 99, 101]), .lit (.string [102, 117, 110, 99, 116, 105, 111, 110]), .lit (.string [111, 110]), .lit (.string [98, 97, 115, 101]), .lit (.string [118, 105, 101, 119]), .lit (.string [107, 101, 121]), .lit (.string [100, 101, 110, 121]), .lit (.string [110, 111, 116]), .lit (.string [105, 110, 116]), .lit (.string [115, 121, 109])]

/-- 'porismlaw28.DeriveRounds': WHATEVER THE INPUT: true; the input reads as it did. -/
def deriveRoundsSpec : ChangeSpec := { name := "deriveRounds", fn := fun _ => fun
  | [d1, d2, d3] => { results := [.lit (.bool true)], args := [d1, d2, d3] }
  | _ => none }
def deriveRoundsRow : OpenClaim := { program := "ytegalmbcaggfiaagreatdoor", sum := "51eff8452ead1fe49d87cca5f5443c142c594a4cb4a5414a3ace70f271509cd5", func := "porism/porismlaw28.DeriveRounds", spec := "deriveRounds", inPlace := ["slices.overlaps[porism/api.Fact]"], unfollowed := true, recurses := true, named := ["porism/value.words", "porism/lattice.keys", "porism/porismref03.Keys"], plainKeys := false, apart := false, laid := [("porism/lattice.keys", laid_porism_lattice_keys), ("porism/porismref03.Keys", laid_porism_porismref03_Keys), ("porism/value.words", laid_porism_value_words)] }
def DeriveRoundsSaid : Prop := deriveRoundsRow.holds Tryz.pinned (OpenSpec.ofChange deriveRoundsSpec)

/-- ITS FALSE NEIGHBOUR: 'it returns false'. Refute it at one input. -/
def deriveRoundsWrong : ChangeSpec := { name := "deriveRounds", fn := fun _ => fun
  | [d1, d2, d3] => { results := [.lit (.bool false)], args := [d1, d2, d3] }
  | _ => none }
def DeriveRoundsWrongFalsely : Prop := deriveRoundsRow.holds Tryz.pinned (OpenSpec.ofChange deriveRoundsWrong)

/-- 'porismlaw28.DeriveSequences': WHATEVER THE INPUT: true; the input reads as it did. -/
def deriveSequencesSpec : ChangeSpec := { name := "deriveSequences", fn := fun _ => fun
  | [d1, d2] => { results := [.lit (.bool true)], args := [d1, d2] }
  | _ => none }
def deriveSequencesRow : OpenClaim := { program := "ytegalmbcaggfiaagreatdoor", sum := "51eff8452ead1fe49d87cca5f5443c142c594a4cb4a5414a3ace70f271509cd5", func := "porism/porismlaw28.DeriveSequences", spec := "deriveSequences", inPlace := ["slices.overlaps[porism/api.Fact]"], unfollowed := true, recurses := true, named := ["porism/value.words", "porism/lattice.keys", "porism/porismref03.Keys"], plainKeys := false, apart := false, laid := [("porism/lattice.keys", laid_porism_lattice_keys), ("porism/porismref03.Keys", laid_porism_porismref03_Keys), ("porism/value.words", laid_porism_value_words)] }
def DeriveSequencesSaid : Prop := deriveSequencesRow.holds Tryz.pinned (OpenSpec.ofChange deriveSequencesSpec)

/-- ITS FALSE NEIGHBOUR: 'it returns false'. Refute it at one input. -/
def deriveSequencesWrong : ChangeSpec := { name := "deriveSequences", fn := fun _ => fun
  | [d1, d2] => { results := [.lit (.bool false)], args := [d1, d2] }
  | _ => none }
def DeriveSequencesWrongFalsely : Prop := deriveSequencesRow.holds Tryz.pinned (OpenSpec.ofChange deriveSequencesWrong)

/- THE SECOND FORM. 'bulk': how many values and letters a reading holds, each counted each time it is reached (what is shared counts as often as it is met; a slice's spare places count too). A statement '..UptoSaid' is the law's where the arguments, and the package variables that the reading takes, are together of bulk at most 1048576: NARROWER than '..Said'. Prove '..Said' where nothing that the law and all that it calls make is longer than what came in: it says more and counts as full. Else prove '..UptoSaid'. A law counts once. -/
mutual
def uptoBulk {H : Type} : DataW H → Nat
  | .lit (.string bytes) => bytes.length + 1
  | .lit _ => 1
  | .nil => 1
  | .ptr d => uptoBulk d + 1
  | .slice elems spare => uptoBulkAll elems + uptoBulkAll spare + 1
  | .agg parts => uptoBulkAll parts + 1
  | .iface _ d => uptoBulk d + 1
  | .map entries => uptoBulkEntries entries + 1
  | .held _ => 1
def uptoBulkAll {H : Type} : List (DataW H) → Nat
  | [] => 0
  | d :: r => uptoBulk d + uptoBulkAll r
def uptoBulkEntries {H : Type} : List (Lit × DataW H) → Nat
  | [] => 0
  | x :: r => uptoBulkEntry x + uptoBulkEntries r
def uptoBulkEntry {H : Type} : Lit × DataW H → Nat
  | (.string bytes, d) => bytes.length + uptoBulk d + 1
  | (_, d) => uptoBulk d + 1
 end
def uptoSmall : (H : Type) → List (DataW H) → Bool := fun _ ds => decide (uptoBulkAll ds ≤ 1048576)
def OpenSpec.upto (s : _root_.Go.ChangeSpec) : _root_.Go.OpenSpec := { _root_.Go.OpenSpec.ofChange s with cond := some uptoSmall }

/-- 'porismlaw28.DeriveRounds', WHERE WHAT IT READS IS OF BULK AT MOST 1048576: true; the input reads as it did. -/
def deriveRoundsUptoRow : OpenClaim := { program := "ytegalmbcaggfiaagreatdoor", sum := "51eff8452ead1fe49d87cca5f5443c142c594a4cb4a5414a3ace70f271509cd5", func := "porism/porismlaw28.DeriveRounds", spec := "deriveRounds", inPlace := ["slices.overlaps[porism/api.Fact]"], unfollowed := true, recurses := true, named := ["porism/value.words", "porism/lattice.keys", "porism/porismref03.Keys"], plainKeys := false, apart := false, laid := [("porism/lattice.keys", laid_porism_lattice_keys), ("porism/porismref03.Keys", laid_porism_porismref03_Keys), ("porism/value.words", laid_porism_value_words)], narrowed := true }
def DeriveRoundsUptoSaid : Prop := deriveRoundsUptoRow.holds Tryz.pinned (OpenSpec.upto deriveRoundsSpec)

/-- 'porismlaw28.DeriveSequences', WHERE WHAT IT READS IS OF BULK AT MOST 1048576: true; the input reads as it did. -/
def deriveSequencesUptoRow : OpenClaim := { program := "ytegalmbcaggfiaagreatdoor", sum := "51eff8452ead1fe49d87cca5f5443c142c594a4cb4a5414a3ace70f271509cd5", func := "porism/porismlaw28.DeriveSequences", spec := "deriveSequences", inPlace := ["slices.overlaps[porism/api.Fact]"], unfollowed := true, recurses := true, named := ["porism/value.words", "porism/lattice.keys", "porism/porismref03.Keys"], plainKeys := false, apart := false, laid := [("porism/lattice.keys", laid_porism_lattice_keys), ("porism/porismref03.Keys", laid_porism_porismref03_Keys), ("porism/value.words", laid_porism_value_words)], narrowed := true }
def DeriveSequencesUptoSaid : Prop := deriveSequencesUptoRow.holds Tryz.pinned (OpenSpec.upto deriveSequencesSpec)

end Rows
end Go.Proofs.YtegalmbcaggfiaaGreatDoor
