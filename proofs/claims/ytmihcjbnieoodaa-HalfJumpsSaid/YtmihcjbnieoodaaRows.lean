/-
  No cell of these rows narrows 'for every input' (looked for: loops, veiled, ifaces, maps, wideKeys, modest, calm, conditions, laid).
  DERIVED. THE GIVEN ROWS OF THIS SEAT. 12 by the template 'for every input the law returns true; each argument reads behind the call as it read before'; 0 by the template 'total and deterministic' (their statements: YtmihcjbnieoodaaTotals.lean).
  GIVEN WITH THE SEED: the statements are not yours to turn. If you find one false, say at which input.
  Laid BY PROGRAM, IN A SANDBOX (cutbox-rows.mjs): the forced cells as the released guide's own fill.sh prints them over the translation 9e9c03ffd32bf5d3… (all of the seat's roots in one cut). By AI agents, Wed Nov 11 2026. No macro, syntax, notation, axiom, sorry.
-/
import Derived.Test.YtmihcjbnieoodaaChecked
import GoSem.Claim
import GoSem.ClaimJoined
import GoSem.ClaimMapViews
import Derived.JoinedTies
import Derived.KernelRfl
namespace Go.Proofs.Ytmihcjbnieoodaa
/- THE CELL 'sum', in the pinned program and in every row, IS THE sha256 OF THE DUMP (.gsa) THAT YtmihcjbnieoodaaProg.lean LOADS. Nothing in Lean hashes anything: it is a label: what it is worth is what the hold of that sum in a sandbox is worth. -/
noncomputable def Try.pinned : Pinned := { name := "ytmihcjbnieoodaa", sum := "9e9c03ffd32bf5d370bff2f17ab6ddb97d2a7be3eff100158ff99419d1aa837e", checked := Try.checked }
namespace Rows
def none {H : Type} : Left H := { results := [], args := [] }

/-- 'knucklebonelaw06.MixTells': WHATEVER THE INPUT: true; the input reads as it did. -/
def mixTellsSpec : ChangeSpec := { name := "mixTells", fn := fun _ => fun
  | [d1, d2, d3] => { results := [.lit (.bool true)], args := [d1, d2, d3] }
  | _ => none }
def mixTellsRow : OpenClaim := { program := "ytmihcjbnieoodaa", sum := "9e9c03ffd32bf5d370bff2f17ab6ddb97d2a7be3eff100158ff99419d1aa837e", func := "knucklebone/knucklebonelaw06.MixTells", spec := "mixTells", apart := false }
def MixTellsSaid : Prop := mixTellsRow.holds Try.pinned (OpenSpec.ofChange mixTellsSpec)

/-- ITS FALSE NEIGHBOUR: 'it returns false'. Refute it at one input. -/
def mixTellsWrong : ChangeSpec := { name := "mixTells", fn := fun _ => fun
  | [d1, d2, d3] => { results := [.lit (.bool false)], args := [d1, d2, d3] }
  | _ => none }
def MixTellsWrongFalsely : Prop := mixTellsRow.holds Try.pinned (OpenSpec.ofChange mixTellsWrong)

/-- 'knucklebonelaw06.MixBack': WHATEVER THE INPUT: true; the input reads as it did. -/
def mixBackSpec : ChangeSpec := { name := "mixBack", fn := fun _ => fun
  | [d] => { results := [.lit (.bool true)], args := [d] }
  | _ => none }
def mixBackRow : OpenClaim := { program := "ytmihcjbnieoodaa", sum := "9e9c03ffd32bf5d370bff2f17ab6ddb97d2a7be3eff100158ff99419d1aa837e", func := "knucklebone/knucklebonelaw06.MixBack", spec := "mixBack", apart := false }
def MixBackSaid : Prop := mixBackRow.holds Try.pinned (OpenSpec.ofChange mixBackSpec)

/-- ITS FALSE NEIGHBOUR: 'it returns false'. Refute it at one input. -/
def mixBackWrong : ChangeSpec := { name := "mixBack", fn := fun _ => fun
  | [d] => { results := [.lit (.bool false)], args := [d] }
  | _ => none }
def MixBackWrongFalsely : Prop := mixBackRow.holds Try.pinned (OpenSpec.ofChange mixBackWrong)

/-- 'knucklebonelaw06.MixApart': WHATEVER THE INPUT: true; the input reads as it did. -/
def mixApartSpec : ChangeSpec := { name := "mixApart", fn := fun _ => fun
  | [d1, d2, d3] => { results := [.lit (.bool true)], args := [d1, d2, d3] }
  | _ => none }
def mixApartRow : OpenClaim := { program := "ytmihcjbnieoodaa", sum := "9e9c03ffd32bf5d370bff2f17ab6ddb97d2a7be3eff100158ff99419d1aa837e", func := "knucklebone/knucklebonelaw06.MixApart", spec := "mixApart", apart := false }
def MixApartSaid : Prop := mixApartRow.holds Try.pinned (OpenSpec.ofChange mixApartSpec)

/-- ITS FALSE NEIGHBOUR: 'it returns false'. Refute it at one input. -/
def mixApartWrong : ChangeSpec := { name := "mixApart", fn := fun _ => fun
  | [d1, d2, d3] => { results := [.lit (.bool false)], args := [d1, d2, d3] }
  | _ => none }
def MixApartWrongFalsely : Prop := mixApartRow.holds Try.pinned (OpenSpec.ofChange mixApartWrong)

/-- 'knucklebonelaw06.MixJumps': WHATEVER THE INPUT: true; the input reads as it did. -/
def mixJumpsSpec : ChangeSpec := { name := "mixJumps", fn := fun _ => fun
  | [d1, d2, d3] => { results := [.lit (.bool true)], args := [d1, d2, d3] }
  | _ => none }
def mixJumpsRow : OpenClaim := { program := "ytmihcjbnieoodaa", sum := "9e9c03ffd32bf5d370bff2f17ab6ddb97d2a7be3eff100158ff99419d1aa837e", func := "knucklebone/knucklebonelaw06.MixJumps", spec := "mixJumps", inPlace := ["math/bits.Add64"], apart := false }
def MixJumpsSaid : Prop := mixJumpsRow.holds Try.pinned (OpenSpec.ofChange mixJumpsSpec)

/-- ITS FALSE NEIGHBOUR: 'it returns false'. Refute it at one input. -/
def mixJumpsWrong : ChangeSpec := { name := "mixJumps", fn := fun _ => fun
  | [d1, d2, d3] => { results := [.lit (.bool false)], args := [d1, d2, d3] }
  | _ => none }
def MixJumpsWrongFalsely : Prop := mixJumpsRow.holds Try.pinned (OpenSpec.ofChange mixJumpsWrong)

/-- 'knucklebonelaw12.HalfTells': WHATEVER THE INPUT: true; the input reads as it did. -/
def halfTellsSpec : ChangeSpec := { name := "halfTells", fn := fun _ => fun
  | [d1, d2, d3] => { results := [.lit (.bool true)], args := [d1, d2, d3] }
  | _ => none }
def halfTellsRow : OpenClaim := { program := "ytmihcjbnieoodaa", sum := "9e9c03ffd32bf5d370bff2f17ab6ddb97d2a7be3eff100158ff99419d1aa837e", func := "knucklebone/knucklebonelaw12.HalfTells", spec := "halfTells", inPlace := ["math/bits.Add64", "math/bits.Sub64"], unfollowed := true, recurses := true, apart := false }
def HalfTellsSaid : Prop := halfTellsRow.holds Try.pinned (OpenSpec.ofChange halfTellsSpec)

/-- ITS FALSE NEIGHBOUR: 'it returns false'. Refute it at one input. -/
def halfTellsWrong : ChangeSpec := { name := "halfTells", fn := fun _ => fun
  | [d1, d2, d3] => { results := [.lit (.bool false)], args := [d1, d2, d3] }
  | _ => none }
def HalfTellsWrongFalsely : Prop := halfTellsRow.holds Try.pinned (OpenSpec.ofChange halfTellsWrong)

/-- 'knucklebonelaw12.HalfSteps': WHATEVER THE INPUT: true; the input reads as it did. -/
def halfStepsSpec : ChangeSpec := { name := "halfSteps", fn := fun _ => fun
  | [d1, d2] => { results := [.lit (.bool true)], args := [d1, d2] }
  | _ => none }
def halfStepsRow : OpenClaim := { program := "ytmihcjbnieoodaa", sum := "9e9c03ffd32bf5d370bff2f17ab6ddb97d2a7be3eff100158ff99419d1aa837e", func := "knucklebone/knucklebonelaw12.HalfSteps", spec := "halfSteps", inPlace := ["math/bits.Add64", "math/bits.Sub64"], unfollowed := true, recurses := true, apart := false }
def HalfStepsSaid : Prop := halfStepsRow.holds Try.pinned (OpenSpec.ofChange halfStepsSpec)

/-- ITS FALSE NEIGHBOUR: 'it returns false'. Refute it at one input. -/
def halfStepsWrong : ChangeSpec := { name := "halfSteps", fn := fun _ => fun
  | [d1, d2] => { results := [.lit (.bool false)], args := [d1, d2] }
  | _ => none }
def HalfStepsWrongFalsely : Prop := halfStepsRow.holds Try.pinned (OpenSpec.ofChange halfStepsWrong)

/-- 'knucklebonelaw12.HalfBack': WHATEVER THE INPUT: true; the input reads as it did. -/
def halfBackSpec : ChangeSpec := { name := "halfBack", fn := fun _ => fun
  | [d1, d2] => { results := [.lit (.bool true)], args := [d1, d2] }
  | _ => none }
def halfBackRow : OpenClaim := { program := "ytmihcjbnieoodaa", sum := "9e9c03ffd32bf5d370bff2f17ab6ddb97d2a7be3eff100158ff99419d1aa837e", func := "knucklebone/knucklebonelaw12.HalfBack", spec := "halfBack", inPlace := ["math/bits.Add64", "math/bits.Sub64"], unfollowed := true, recurses := true, apart := false }
def HalfBackSaid : Prop := halfBackRow.holds Try.pinned (OpenSpec.ofChange halfBackSpec)

/-- ITS FALSE NEIGHBOUR: 'it returns false'. Refute it at one input. -/
def halfBackWrong : ChangeSpec := { name := "halfBack", fn := fun _ => fun
  | [d1, d2] => { results := [.lit (.bool false)], args := [d1, d2] }
  | _ => none }
def HalfBackWrongFalsely : Prop := halfBackRow.holds Try.pinned (OpenSpec.ofChange halfBackWrong)

/-- 'knucklebonelaw12.HalfJumps': WHATEVER THE INPUT: true; the input reads as it did. -/
def halfJumpsSpec : ChangeSpec := { name := "halfJumps", fn := fun _ => fun
  | [d1, d2, d3] => { results := [.lit (.bool true)], args := [d1, d2, d3] }
  | _ => none }
def halfJumpsRow : OpenClaim := { program := "ytmihcjbnieoodaa", sum := "9e9c03ffd32bf5d370bff2f17ab6ddb97d2a7be3eff100158ff99419d1aa837e", func := "knucklebone/knucklebonelaw12.HalfJumps", spec := "halfJumps", inPlace := ["math/bits.Add64", "math/bits.Sub64"], unfollowed := true, recurses := true, apart := false }
def HalfJumpsSaid : Prop := halfJumpsRow.holds Try.pinned (OpenSpec.ofChange halfJumpsSpec)

/-- ITS FALSE NEIGHBOUR: 'it returns false'. Refute it at one input. -/
def halfJumpsWrong : ChangeSpec := { name := "halfJumps", fn := fun _ => fun
  | [d1, d2, d3] => { results := [.lit (.bool false)], args := [d1, d2, d3] }
  | _ => none }
def HalfJumpsWrongFalsely : Prop := halfJumpsRow.holds Try.pinned (OpenSpec.ofChange halfJumpsWrong)

/-- 'knucklebonelaw12.HalfApart': WHATEVER THE INPUT: true; the input reads as it did. -/
def halfApartSpec : ChangeSpec := { name := "halfApart", fn := fun _ => fun
  | [d1, d2, d3] => { results := [.lit (.bool true)], args := [d1, d2, d3] }
  | _ => none }
def halfApartRow : OpenClaim := { program := "ytmihcjbnieoodaa", sum := "9e9c03ffd32bf5d370bff2f17ab6ddb97d2a7be3eff100158ff99419d1aa837e", func := "knucklebone/knucklebonelaw12.HalfApart", spec := "halfApart", inPlace := ["math/bits.Add64", "math/bits.Sub64"], unfollowed := true, recurses := true, apart := false }
def HalfApartSaid : Prop := halfApartRow.holds Try.pinned (OpenSpec.ofChange halfApartSpec)

/-- ITS FALSE NEIGHBOUR: 'it returns false'. Refute it at one input. -/
def halfApartWrong : ChangeSpec := { name := "halfApart", fn := fun _ => fun
  | [d1, d2, d3] => { results := [.lit (.bool false)], args := [d1, d2, d3] }
  | _ => none }
def HalfApartWrongFalsely : Prop := halfApartRow.holds Try.pinned (OpenSpec.ofChange halfApartWrong)

/-- 'knucklebonelaw19.TableDoes': WHATEVER THE INPUT: true; the input reads as it did. -/
def tableDoesSpec : ChangeSpec := { name := "tableDoes", fn := fun _ => fun
  | [d1, d2] => { results := [.lit (.bool true)], args := [d1, d2] }
  | _ => none }
def tableDoesRow : OpenClaim := { program := "ytmihcjbnieoodaa", sum := "9e9c03ffd32bf5d370bff2f17ab6ddb97d2a7be3eff100158ff99419d1aa837e", func := "knucklebone/knucklebonelaw19.TableDoes", spec := "tableDoes", unfollowed := true, recurses := true, apart := false }
def TableDoesSaid : Prop := tableDoesRow.holds Try.pinned (OpenSpec.ofChange tableDoesSpec)

/-- ITS FALSE NEIGHBOUR: 'it returns false'. Refute it at one input. -/
def tableDoesWrong : ChangeSpec := { name := "tableDoes", fn := fun _ => fun
  | [d1, d2] => { results := [.lit (.bool false)], args := [d1, d2] }
  | _ => none }
def TableDoesWrongFalsely : Prop := tableDoesRow.holds Try.pinned (OpenSpec.ofChange tableDoesWrong)

/-- 'knucklebonelaw19.TableStays': WHATEVER THE INPUT: true; the input reads as it did. -/
def tableStaysSpec : ChangeSpec := { name := "tableStays", fn := fun _ => fun
  | [d] => { results := [.lit (.bool true)], args := [d] }
  | _ => none }
def tableStaysRow : OpenClaim := { program := "ytmihcjbnieoodaa", sum := "9e9c03ffd32bf5d370bff2f17ab6ddb97d2a7be3eff100158ff99419d1aa837e", func := "knucklebone/knucklebonelaw19.TableStays", spec := "tableStays", unfollowed := true, recurses := true, apart := false }
def TableStaysSaid : Prop := tableStaysRow.holds Try.pinned (OpenSpec.ofChange tableStaysSpec)

/-- ITS FALSE NEIGHBOUR: 'it returns false'. Refute it at one input. -/
def tableStaysWrong : ChangeSpec := { name := "tableStays", fn := fun _ => fun
  | [d] => { results := [.lit (.bool false)], args := [d] }
  | _ => none }
def TableStaysWrongFalsely : Prop := tableStaysRow.holds Try.pinned (OpenSpec.ofChange tableStaysWrong)

/-- 'knucklebonelaw19.TableCopies': WHATEVER THE INPUT: true; the input reads as it did. -/
def tableCopiesSpec : ChangeSpec := { name := "tableCopies", fn := fun _ => fun
  | [d1, d2] => { results := [.lit (.bool true)], args := [d1, d2] }
  | _ => none }
def tableCopiesRow : OpenClaim := { program := "ytmihcjbnieoodaa", sum := "9e9c03ffd32bf5d370bff2f17ab6ddb97d2a7be3eff100158ff99419d1aa837e", func := "knucklebone/knucklebonelaw19.TableCopies", spec := "tableCopies", unfollowed := true, recurses := true, apart := false }
def TableCopiesSaid : Prop := tableCopiesRow.holds Try.pinned (OpenSpec.ofChange tableCopiesSpec)

/-- ITS FALSE NEIGHBOUR: 'it returns false'. Refute it at one input. -/
def tableCopiesWrong : ChangeSpec := { name := "tableCopies", fn := fun _ => fun
  | [d1, d2] => { results := [.lit (.bool false)], args := [d1, d2] }
  | _ => none }
def TableCopiesWrongFalsely : Prop := tableCopiesRow.holds Try.pinned (OpenSpec.ofChange tableCopiesWrong)

/- THE SECOND FORM. 'bulk': how many values and letters a reading holds, each counted each time it is reached (what is shared counts as often as it is met; a slice's spare places count too). A statement '..UptoSaid' is the law's where the arguments, and the package variables that the reading takes, are together of bulk at most 1048576: NARROWER than '..Said'. Prove '..Said' where nothing that the law and all that it calls make is longer than what came in: it says more and counts as full. Else prove '..UptoSaid'. A law counts once. -/
mutual
def uptoBulk {H : Type} : DataW H → Nat
  | .lit (.string bytes) => bytes.length + 1
  | .lit _ => 1
  | .nil => 1
  | .ptr d => uptoBulk d + 1
  | .slice elems spare => uptoBulkAll elems + uptoBulkAll spare + 1
  | .agg parts => uptoBulkAll parts + 1
  | .iface _ d => uptoBulk d + 1
  | .map entries => uptoBulkEntries entries + 1
  | .held _ => 1
def uptoBulkAll {H : Type} : List (DataW H) → Nat
  | [] => 0
  | d :: r => uptoBulk d + uptoBulkAll r
def uptoBulkEntries {H : Type} : List (Lit × DataW H) → Nat
  | [] => 0
  | x :: r => uptoBulkEntry x + uptoBulkEntries r
def uptoBulkEntry {H : Type} : Lit × DataW H → Nat
  | (.string bytes, d) => bytes.length + uptoBulk d + 1
  | (_, d) => uptoBulk d + 1
 end
def uptoSmall : (H : Type) → List (DataW H) → Bool := fun _ ds => decide (uptoBulkAll ds ≤ 1048576)
def OpenSpec.upto (s : _root_.Go.ChangeSpec) : _root_.Go.OpenSpec := { _root_.Go.OpenSpec.ofChange s with cond := some uptoSmall }

/-- 'knucklebonelaw06.MixTells', WHERE WHAT IT READS IS OF BULK AT MOST 1048576: true; the input reads as it did. -/
def mixTellsUptoRow : OpenClaim := { program := "ytmihcjbnieoodaa", sum := "9e9c03ffd32bf5d370bff2f17ab6ddb97d2a7be3eff100158ff99419d1aa837e", func := "knucklebone/knucklebonelaw06.MixTells", spec := "mixTells", apart := false, narrowed := true }
def MixTellsUptoSaid : Prop := mixTellsUptoRow.holds Try.pinned (OpenSpec.upto mixTellsSpec)

/-- 'knucklebonelaw06.MixBack', WHERE WHAT IT READS IS OF BULK AT MOST 1048576: true; the input reads as it did. -/
def mixBackUptoRow : OpenClaim := { program := "ytmihcjbnieoodaa", sum := "9e9c03ffd32bf5d370bff2f17ab6ddb97d2a7be3eff100158ff99419d1aa837e", func := "knucklebone/knucklebonelaw06.MixBack", spec := "mixBack", apart := false, narrowed := true }
def MixBackUptoSaid : Prop := mixBackUptoRow.holds Try.pinned (OpenSpec.upto mixBackSpec)

/-- 'knucklebonelaw06.MixApart', WHERE WHAT IT READS IS OF BULK AT MOST 1048576: true; the input reads as it did. -/
def mixApartUptoRow : OpenClaim := { program := "ytmihcjbnieoodaa", sum := "9e9c03ffd32bf5d370bff2f17ab6ddb97d2a7be3eff100158ff99419d1aa837e", func := "knucklebone/knucklebonelaw06.MixApart", spec := "mixApart", apart := false, narrowed := true }
def MixApartUptoSaid : Prop := mixApartUptoRow.holds Try.pinned (OpenSpec.upto mixApartSpec)

/-- 'knucklebonelaw06.MixJumps', WHERE WHAT IT READS IS OF BULK AT MOST 1048576: true; the input reads as it did. -/
def mixJumpsUptoRow : OpenClaim := { program := "ytmihcjbnieoodaa", sum := "9e9c03ffd32bf5d370bff2f17ab6ddb97d2a7be3eff100158ff99419d1aa837e", func := "knucklebone/knucklebonelaw06.MixJumps", spec := "mixJumps", inPlace := ["math/bits.Add64"], apart := false, narrowed := true }
def MixJumpsUptoSaid : Prop := mixJumpsUptoRow.holds Try.pinned (OpenSpec.upto mixJumpsSpec)

/-- 'knucklebonelaw12.HalfTells', WHERE WHAT IT READS IS OF BULK AT MOST 1048576: true; the input reads as it did. -/
def halfTellsUptoRow : OpenClaim := { program := "ytmihcjbnieoodaa", sum := "9e9c03ffd32bf5d370bff2f17ab6ddb97d2a7be3eff100158ff99419d1aa837e", func := "knucklebone/knucklebonelaw12.HalfTells", spec := "halfTells", inPlace := ["math/bits.Add64", "math/bits.Sub64"], unfollowed := true, recurses := true, apart := false, narrowed := true }
def HalfTellsUptoSaid : Prop := halfTellsUptoRow.holds Try.pinned (OpenSpec.upto halfTellsSpec)

/-- 'knucklebonelaw12.HalfSteps', WHERE WHAT IT READS IS OF BULK AT MOST 1048576: true; the input reads as it did. -/
def halfStepsUptoRow : OpenClaim := { program := "ytmihcjbnieoodaa", sum := "9e9c03ffd32bf5d370bff2f17ab6ddb97d2a7be3eff100158ff99419d1aa837e", func := "knucklebone/knucklebonelaw12.HalfSteps", spec := "halfSteps", inPlace := ["math/bits.Add64", "math/bits.Sub64"], unfollowed := true, recurses := true, apart := false, narrowed := true }
def HalfStepsUptoSaid : Prop := halfStepsUptoRow.holds Try.pinned (OpenSpec.upto halfStepsSpec)

/-- 'knucklebonelaw12.HalfBack', WHERE WHAT IT READS IS OF BULK AT MOST 1048576: true; the input reads as it did. -/
def halfBackUptoRow : OpenClaim := { program := "ytmihcjbnieoodaa", sum := "9e9c03ffd32bf5d370bff2f17ab6ddb97d2a7be3eff100158ff99419d1aa837e", func := "knucklebone/knucklebonelaw12.HalfBack", spec := "halfBack", inPlace := ["math/bits.Add64", "math/bits.Sub64"], unfollowed := true, recurses := true, apart := false, narrowed := true }
def HalfBackUptoSaid : Prop := halfBackUptoRow.holds Try.pinned (OpenSpec.upto halfBackSpec)

/-- 'knucklebonelaw12.HalfJumps', WHERE WHAT IT READS IS OF BULK AT MOST 1048576: true; the input reads as it did. -/
def halfJumpsUptoRow : OpenClaim := { program := "ytmihcjbnieoodaa", sum := "9e9c03ffd32bf5d370bff2f17ab6ddb97d2a7be3eff100158ff99419d1aa837e", func := "knucklebone/knucklebonelaw12.HalfJumps", spec := "halfJumps", inPlace := ["math/bits.Add64", "math/bits.Sub64"], unfollowed := true, recurses := true, apart := false, narrowed := true }
def HalfJumpsUptoSaid : Prop := halfJumpsUptoRow.holds Try.pinned (OpenSpec.upto halfJumpsSpec)

/-- 'knucklebonelaw12.HalfApart', WHERE WHAT IT READS IS OF BULK AT MOST 1048576: true; the input reads as it did. -/
def halfApartUptoRow : OpenClaim := { program := "ytmihcjbnieoodaa", sum := "9e9c03ffd32bf5d370bff2f17ab6ddb97d2a7be3eff100158ff99419d1aa837e", func := "knucklebone/knucklebonelaw12.HalfApart", spec := "halfApart", inPlace := ["math/bits.Add64", "math/bits.Sub64"], unfollowed := true, recurses := true, apart := false, narrowed := true }
def HalfApartUptoSaid : Prop := halfApartUptoRow.holds Try.pinned (OpenSpec.upto halfApartSpec)

/-- 'knucklebonelaw19.TableDoes', WHERE WHAT IT READS IS OF BULK AT MOST 1048576: true; the input reads as it did. -/
def tableDoesUptoRow : OpenClaim := { program := "ytmihcjbnieoodaa", sum := "9e9c03ffd32bf5d370bff2f17ab6ddb97d2a7be3eff100158ff99419d1aa837e", func := "knucklebone/knucklebonelaw19.TableDoes", spec := "tableDoes", unfollowed := true, recurses := true, apart := false, narrowed := true }
def TableDoesUptoSaid : Prop := tableDoesUptoRow.holds Try.pinned (OpenSpec.upto tableDoesSpec)

/-- 'knucklebonelaw19.TableStays', WHERE WHAT IT READS IS OF BULK AT MOST 1048576: true; the input reads as it did. -/
def tableStaysUptoRow : OpenClaim := { program := "ytmihcjbnieoodaa", sum := "9e9c03ffd32bf5d370bff2f17ab6ddb97d2a7be3eff100158ff99419d1aa837e", func := "knucklebone/knucklebonelaw19.TableStays", spec := "tableStays", unfollowed := true, recurses := true, apart := false, narrowed := true }
def TableStaysUptoSaid : Prop := tableStaysUptoRow.holds Try.pinned (OpenSpec.upto tableStaysSpec)

/-- 'knucklebonelaw19.TableCopies', WHERE WHAT IT READS IS OF BULK AT MOST 1048576: true; the input reads as it did. -/
def tableCopiesUptoRow : OpenClaim := { program := "ytmihcjbnieoodaa", sum := "9e9c03ffd32bf5d370bff2f17ab6ddb97d2a7be3eff100158ff99419d1aa837e", func := "knucklebone/knucklebonelaw19.TableCopies", spec := "tableCopies", unfollowed := true, recurses := true, apart := false, narrowed := true }
def TableCopiesUptoSaid : Prop := tableCopiesUptoRow.holds Try.pinned (OpenSpec.upto tableCopiesSpec)

end Rows
end Go.Proofs.Ytmihcjbnieoodaa
