/-
  No cell of these rows narrows 'for every input' (looked for: loops, veiled, ifaces, maps, wideKeys, modest, calm, conditions, laid).
  DERIVED. THE GIVEN ROWS OF THIS SEAT. 10 by the template 'for every input the law returns true; each argument reads behind the call as it read before'; 0 by the template 'total and deterministic' (their statements: YtbaeecmamacphaaTotals.lean).
  GIVEN WITH THE SEED: the statements are not yours to turn. If you find one false, say at which input.
  Laid BY PROGRAM, IN A SANDBOX (cutbox-rows.mjs): the forced cells as the released guide's own fill.sh prints them over the translation 1e12e210753f0459… (all of the seat's roots in one cut). By AI agents, Wed Nov 11 2026. No macro, syntax, notation, axiom, sorry.
-/
import Derived.Test.YtbaeecmamacphaaChecked
import GoSem.Claim
import GoSem.ClaimJoined
import GoSem.ClaimMapViews
import Derived.JoinedTies
import Derived.KernelRfl
namespace Go.Proofs.Ytbaeecmamacphaa
/- THE CELL 'sum', in the pinned program and in every row, IS THE sha256 OF THE DUMP (.gsa) THAT YtbaeecmamacphaaProg.lean LOADS. Nothing in Lean hashes anything: it is a label: what it is worth is what the hold of that sum in a sandbox is worth. -/
noncomputable def Try.pinned : Pinned := { name := "ytbaeecmamacphaa", sum := "1e12e210753f045983d09d81c205d5401a6f3187876a36355c9f9421f41f0580", checked := Try.checked }
namespace Rows
def none {H : Type} : Left H := { results := [], args := [] }

/-- 'busbarlaw14.PduBack': WHATEVER THE INPUT: true; the input reads as it did. -/
def pduBackSpec : ChangeSpec := { name := "pduBack", fn := fun _ => fun
  | [d1, d2, d3] => { results := [.lit (.bool true)], args := [d1, d2, d3] }
  | _ => none }
def pduBackRow : OpenClaim := { program := "ytbaeecmamacphaa", sum := "1e12e210753f045983d09d81c205d5401a6f3187876a36355c9f9421f41f0580", func := "busbar/busbarlaw14.PduBack", spec := "pduBack", unfollowed := true, recurses := true, apart := false }
def PduBackSaid : Prop := pduBackRow.holds Try.pinned (OpenSpec.ofChange pduBackSpec)

/-- ITS FALSE NEIGHBOUR: 'it returns false'. Refute it at one input. -/
def pduBackWrong : ChangeSpec := { name := "pduBack", fn := fun _ => fun
  | [d1, d2, d3] => { results := [.lit (.bool false)], args := [d1, d2, d3] }
  | _ => none }
def PduBackWrongFalsely : Prop := pduBackRow.holds Try.pinned (OpenSpec.ofChange pduBackWrong)

/-- 'busbarlaw14.PduUnlike': WHATEVER THE INPUT: true; the input reads as it did. -/
def pduUnlikeSpec : ChangeSpec := { name := "pduUnlike", fn := fun _ => fun
  | [d1, d2, d3] => { results := [.lit (.bool true)], args := [d1, d2, d3] }
  | _ => none }
def pduUnlikeRow : OpenClaim := { program := "ytbaeecmamacphaa", sum := "1e12e210753f045983d09d81c205d5401a6f3187876a36355c9f9421f41f0580", func := "busbar/busbarlaw14.PduUnlike", spec := "pduUnlike", unfollowed := true, recurses := true, apart := false }
def PduUnlikeSaid : Prop := pduUnlikeRow.holds Try.pinned (OpenSpec.ofChange pduUnlikeSpec)

/-- ITS FALSE NEIGHBOUR: 'it returns false'. Refute it at one input. -/
def pduUnlikeWrong : ChangeSpec := { name := "pduUnlike", fn := fun _ => fun
  | [d1, d2, d3] => { results := [.lit (.bool false)], args := [d1, d2, d3] }
  | _ => none }
def PduUnlikeWrongFalsely : Prop := pduUnlikeRow.holds Try.pinned (OpenSpec.ofChange pduUnlikeWrong)

/-- 'busbarlaw14.PduCodes': WHATEVER THE INPUT: true; the input reads as it did. -/
def pduCodesSpec : ChangeSpec := { name := "pduCodes", fn := fun _ => fun
  | [d1, d2] => { results := [.lit (.bool true)], args := [d1, d2] }
  | _ => none }
def pduCodesRow : OpenClaim := { program := "ytbaeecmamacphaa", sum := "1e12e210753f045983d09d81c205d5401a6f3187876a36355c9f9421f41f0580", func := "busbar/busbarlaw14.PduCodes", spec := "pduCodes", unfollowed := true, recurses := true, apart := false }
def PduCodesSaid : Prop := pduCodesRow.holds Try.pinned (OpenSpec.ofChange pduCodesSpec)

/-- ITS FALSE NEIGHBOUR: 'it returns false'. Refute it at one input. -/
def pduCodesWrong : ChangeSpec := { name := "pduCodes", fn := fun _ => fun
  | [d1, d2] => { results := [.lit (.bool false)], args := [d1, d2] }
  | _ => none }
def PduCodesWrongFalsely : Prop := pduCodesRow.holds Try.pinned (OpenSpec.ofChange pduCodesWrong)

/-- 'busbarlaw14.PduCuts': WHATEVER THE INPUT: true; the input reads as it did. -/
def pduCutsSpec : ChangeSpec := { name := "pduCuts", fn := fun _ => fun
  | [d1, d2, d3, d4] => { results := [.lit (.bool true)], args := [d1, d2, d3, d4] }
  | _ => none }
def pduCutsRow : OpenClaim := { program := "ytbaeecmamacphaa", sum := "1e12e210753f045983d09d81c205d5401a6f3187876a36355c9f9421f41f0580", func := "busbar/busbarlaw14.PduCuts", spec := "pduCuts", unfollowed := true, recurses := true, apart := false }
def PduCutsSaid : Prop := pduCutsRow.holds Try.pinned (OpenSpec.ofChange pduCutsSpec)

/-- ITS FALSE NEIGHBOUR: 'it returns false'. Refute it at one input. -/
def pduCutsWrong : ChangeSpec := { name := "pduCuts", fn := fun _ => fun
  | [d1, d2, d3, d4] => { results := [.lit (.bool false)], args := [d1, d2, d3, d4] }
  | _ => none }
def PduCutsWrongFalsely : Prop := pduCutsRow.holds Try.pinned (OpenSpec.ofChange pduCutsWrong)

/-- 'busbarlaw14.PduFirst': WHATEVER THE INPUT: true; the input reads as it did. -/
def pduFirstSpec : ChangeSpec := { name := "pduFirst", fn := fun _ => fun
  | [d1, d2] => { results := [.lit (.bool true)], args := [d1, d2] }
  | _ => none }
def pduFirstRow : OpenClaim := { program := "ytbaeecmamacphaa", sum := "1e12e210753f045983d09d81c205d5401a6f3187876a36355c9f9421f41f0580", func := "busbar/busbarlaw14.PduFirst", spec := "pduFirst", unfollowed := true, recurses := true, apart := false }
def PduFirstSaid : Prop := pduFirstRow.holds Try.pinned (OpenSpec.ofChange pduFirstSpec)

/-- ITS FALSE NEIGHBOUR: 'it returns false'. Refute it at one input. -/
def pduFirstWrong : ChangeSpec := { name := "pduFirst", fn := fun _ => fun
  | [d1, d2] => { results := [.lit (.bool false)], args := [d1, d2] }
  | _ => none }
def PduFirstWrongFalsely : Prop := pduFirstRow.holds Try.pinned (OpenSpec.ofChange pduFirstWrong)

/-- 'busbarlaw14.PduEchoes': WHATEVER THE INPUT: true; the input reads as it did. -/
def pduEchoesSpec : ChangeSpec := { name := "pduEchoes", fn := fun _ => fun
  | [d] => { results := [.lit (.bool true)], args := [d] }
  | _ => none }
def pduEchoesRow : OpenClaim := { program := "ytbaeecmamacphaa", sum := "1e12e210753f045983d09d81c205d5401a6f3187876a36355c9f9421f41f0580", func := "busbar/busbarlaw14.PduEchoes", spec := "pduEchoes", unfollowed := true, recurses := true, apart := false }
def PduEchoesSaid : Prop := pduEchoesRow.holds Try.pinned (OpenSpec.ofChange pduEchoesSpec)

/-- ITS FALSE NEIGHBOUR: 'it returns false'. Refute it at one input. -/
def pduEchoesWrong : ChangeSpec := { name := "pduEchoes", fn := fun _ => fun
  | [d] => { results := [.lit (.bool false)], args := [d] }
  | _ => none }
def PduEchoesWrongFalsely : Prop := pduEchoesRow.holds Try.pinned (OpenSpec.ofChange pduEchoesWrong)

/-- 'busbarlaw17.MbapBack': WHATEVER THE INPUT: true; the input reads as it did. -/
def mbapBackSpec : ChangeSpec := { name := "mbapBack", fn := fun _ => fun
  | [d1, d2, d3] => { results := [.lit (.bool true)], args := [d1, d2, d3] }
  | _ => none }
def mbapBackRow : OpenClaim := { program := "ytbaeecmamacphaa", sum := "1e12e210753f045983d09d81c205d5401a6f3187876a36355c9f9421f41f0580", func := "busbar/busbarlaw17.MbapBack", spec := "mbapBack", unfollowed := true, recurses := true, apart := false }
def MbapBackSaid : Prop := mbapBackRow.holds Try.pinned (OpenSpec.ofChange mbapBackSpec)

/-- ITS FALSE NEIGHBOUR: 'it returns false'. Refute it at one input. -/
def mbapBackWrong : ChangeSpec := { name := "mbapBack", fn := fun _ => fun
  | [d1, d2, d3] => { results := [.lit (.bool false)], args := [d1, d2, d3] }
  | _ => none }
def MbapBackWrongFalsely : Prop := mbapBackRow.holds Try.pinned (OpenSpec.ofChange mbapBackWrong)

/-- 'busbarlaw17.MbapCuts': WHATEVER THE INPUT: true; the input reads as it did. -/
def mbapCutsSpec : ChangeSpec := { name := "mbapCuts", fn := fun _ => fun
  | [d1, d2, d3, d4] => { results := [.lit (.bool true)], args := [d1, d2, d3, d4] }
  | _ => none }
def mbapCutsRow : OpenClaim := { program := "ytbaeecmamacphaa", sum := "1e12e210753f045983d09d81c205d5401a6f3187876a36355c9f9421f41f0580", func := "busbar/busbarlaw17.MbapCuts", spec := "mbapCuts", unfollowed := true, recurses := true, apart := false }
def MbapCutsSaid : Prop := mbapCutsRow.holds Try.pinned (OpenSpec.ofChange mbapCutsSpec)

/-- ITS FALSE NEIGHBOUR: 'it returns false'. Refute it at one input. -/
def mbapCutsWrong : ChangeSpec := { name := "mbapCuts", fn := fun _ => fun
  | [d1, d2, d3, d4] => { results := [.lit (.bool false)], args := [d1, d2, d3, d4] }
  | _ => none }
def MbapCutsWrongFalsely : Prop := mbapCutsRow.holds Try.pinned (OpenSpec.ofChange mbapCutsWrong)

/-- 'busbarlaw17.MbapTids': WHATEVER THE INPUT: true; the input reads as it did. -/
def mbapTidsSpec : ChangeSpec := { name := "mbapTids", fn := fun _ => fun
  | [d1, d2, d3] => { results := [.lit (.bool true)], args := [d1, d2, d3] }
  | _ => none }
def mbapTidsRow : OpenClaim := { program := "ytbaeecmamacphaa", sum := "1e12e210753f045983d09d81c205d5401a6f3187876a36355c9f9421f41f0580", func := "busbar/busbarlaw17.MbapTids", spec := "mbapTids", unfollowed := true, recurses := true, apart := false }
def MbapTidsSaid : Prop := mbapTidsRow.holds Try.pinned (OpenSpec.ofChange mbapTidsSpec)

/-- ITS FALSE NEIGHBOUR: 'it returns false'. Refute it at one input. -/
def mbapTidsWrong : ChangeSpec := { name := "mbapTids", fn := fun _ => fun
  | [d1, d2, d3] => { results := [.lit (.bool false)], args := [d1, d2, d3] }
  | _ => none }
def MbapTidsWrongFalsely : Prop := mbapTidsRow.holds Try.pinned (OpenSpec.ofChange mbapTidsWrong)

/-- 'busbarlaw17.MbapUnits': WHATEVER THE INPUT: true; the input reads as it did. -/
def mbapUnitsSpec : ChangeSpec := { name := "mbapUnits", fn := fun _ => fun
  | [d1, d2] => { results := [.lit (.bool true)], args := [d1, d2] }
  | _ => none }
def mbapUnitsRow : OpenClaim := { program := "ytbaeecmamacphaa", sum := "1e12e210753f045983d09d81c205d5401a6f3187876a36355c9f9421f41f0580", func := "busbar/busbarlaw17.MbapUnits", spec := "mbapUnits", unfollowed := true, recurses := true, apart := false }
def MbapUnitsSaid : Prop := mbapUnitsRow.holds Try.pinned (OpenSpec.ofChange mbapUnitsSpec)

/-- ITS FALSE NEIGHBOUR: 'it returns false'. Refute it at one input. -/
def mbapUnitsWrong : ChangeSpec := { name := "mbapUnits", fn := fun _ => fun
  | [d1, d2] => { results := [.lit (.bool false)], args := [d1, d2] }
  | _ => none }
def MbapUnitsWrongFalsely : Prop := mbapUnitsRow.holds Try.pinned (OpenSpec.ofChange mbapUnitsWrong)

/- THE SECOND FORM. 'bulk': how many values and letters a reading holds, each counted each time it is reached (what is shared counts as often as it is met; a slice's spare places count too). A statement '..UptoSaid' is the law's where the arguments, and the package variables that the reading takes, are together of bulk at most 1048576: NARROWER than '..Said'. Prove '..Said' where nothing that the law and all that it calls make is longer than what came in: it says more and counts as full. Else prove '..UptoSaid'. A law counts once. -/
mutual
def uptoBulk {H : Type} : DataW H → Nat
  | .lit (.string bytes) => bytes.length + 1
  | .lit _ => 1
  | .nil => 1
  | .ptr d => uptoBulk d + 1
  | .slice elems spare => uptoBulkAll elems + uptoBulkAll spare + 1
  | .agg parts => uptoBulkAll parts + 1
  | .iface _ d => uptoBulk d + 1
  | .map entries => uptoBulkEntries entries + 1
  | .held _ => 1
def uptoBulkAll {H : Type} : List (DataW H) → Nat
  | [] => 0
  | d :: r => uptoBulk d + uptoBulkAll r
def uptoBulkEntries {H : Type} : List (Lit × DataW H) → Nat
  | [] => 0
  | x :: r => uptoBulkEntry x + uptoBulkEntries r
def uptoBulkEntry {H : Type} : Lit × DataW H → Nat
  | (.string bytes, d) => bytes.length + uptoBulk d + 1
  | (_, d) => uptoBulk d + 1
 end
def uptoSmall : (H : Type) → List (DataW H) → Bool := fun _ ds => decide (uptoBulkAll ds ≤ 1048576)
def OpenSpec.upto (s : _root_.Go.ChangeSpec) : _root_.Go.OpenSpec := { _root_.Go.OpenSpec.ofChange s with cond := some uptoSmall }

/-- 'busbarlaw14.PduBack', WHERE WHAT IT READS IS OF BULK AT MOST 1048576: true; the input reads as it did. -/
def pduBackUptoRow : OpenClaim := { program := "ytbaeecmamacphaa", sum := "1e12e210753f045983d09d81c205d5401a6f3187876a36355c9f9421f41f0580", func := "busbar/busbarlaw14.PduBack", spec := "pduBack", unfollowed := true, recurses := true, apart := false, narrowed := true }
def PduBackUptoSaid : Prop := pduBackUptoRow.holds Try.pinned (OpenSpec.upto pduBackSpec)

/-- 'busbarlaw14.PduUnlike', WHERE WHAT IT READS IS OF BULK AT MOST 1048576: true; the input reads as it did. -/
def pduUnlikeUptoRow : OpenClaim := { program := "ytbaeecmamacphaa", sum := "1e12e210753f045983d09d81c205d5401a6f3187876a36355c9f9421f41f0580", func := "busbar/busbarlaw14.PduUnlike", spec := "pduUnlike", unfollowed := true, recurses := true, apart := false, narrowed := true }
def PduUnlikeUptoSaid : Prop := pduUnlikeUptoRow.holds Try.pinned (OpenSpec.upto pduUnlikeSpec)

/-- 'busbarlaw14.PduCodes', WHERE WHAT IT READS IS OF BULK AT MOST 1048576: true; the input reads as it did. -/
def pduCodesUptoRow : OpenClaim := { program := "ytbaeecmamacphaa", sum := "1e12e210753f045983d09d81c205d5401a6f3187876a36355c9f9421f41f0580", func := "busbar/busbarlaw14.PduCodes", spec := "pduCodes", unfollowed := true, recurses := true, apart := false, narrowed := true }
def PduCodesUptoSaid : Prop := pduCodesUptoRow.holds Try.pinned (OpenSpec.upto pduCodesSpec)

/-- 'busbarlaw14.PduCuts', WHERE WHAT IT READS IS OF BULK AT MOST 1048576: true; the input reads as it did. -/
def pduCutsUptoRow : OpenClaim := { program := "ytbaeecmamacphaa", sum := "1e12e210753f045983d09d81c205d5401a6f3187876a36355c9f9421f41f0580", func := "busbar/busbarlaw14.PduCuts", spec := "pduCuts", unfollowed := true, recurses := true, apart := false, narrowed := true }
def PduCutsUptoSaid : Prop := pduCutsUptoRow.holds Try.pinned (OpenSpec.upto pduCutsSpec)

/-- 'busbarlaw14.PduFirst', WHERE WHAT IT READS IS OF BULK AT MOST 1048576: true; the input reads as it did. -/
def pduFirstUptoRow : OpenClaim := { program := "ytbaeecmamacphaa", sum := "1e12e210753f045983d09d81c205d5401a6f3187876a36355c9f9421f41f0580", func := "busbar/busbarlaw14.PduFirst", spec := "pduFirst", unfollowed := true, recurses := true, apart := false, narrowed := true }
def PduFirstUptoSaid : Prop := pduFirstUptoRow.holds Try.pinned (OpenSpec.upto pduFirstSpec)

/-- 'busbarlaw14.PduEchoes', WHERE WHAT IT READS IS OF BULK AT MOST 1048576: true; the input reads as it did. -/
def pduEchoesUptoRow : OpenClaim := { program := "ytbaeecmamacphaa", sum := "1e12e210753f045983d09d81c205d5401a6f3187876a36355c9f9421f41f0580", func := "busbar/busbarlaw14.PduEchoes", spec := "pduEchoes", unfollowed := true, recurses := true, apart := false, narrowed := true }
def PduEchoesUptoSaid : Prop := pduEchoesUptoRow.holds Try.pinned (OpenSpec.upto pduEchoesSpec)

/-- 'busbarlaw17.MbapBack', WHERE WHAT IT READS IS OF BULK AT MOST 1048576: true; the input reads as it did. -/
def mbapBackUptoRow : OpenClaim := { program := "ytbaeecmamacphaa", sum := "1e12e210753f045983d09d81c205d5401a6f3187876a36355c9f9421f41f0580", func := "busbar/busbarlaw17.MbapBack", spec := "mbapBack", unfollowed := true, recurses := true, apart := false, narrowed := true }
def MbapBackUptoSaid : Prop := mbapBackUptoRow.holds Try.pinned (OpenSpec.upto mbapBackSpec)

/-- 'busbarlaw17.MbapCuts', WHERE WHAT IT READS IS OF BULK AT MOST 1048576: true; the input reads as it did. -/
def mbapCutsUptoRow : OpenClaim := { program := "ytbaeecmamacphaa", sum := "1e12e210753f045983d09d81c205d5401a6f3187876a36355c9f9421f41f0580", func := "busbar/busbarlaw17.MbapCuts", spec := "mbapCuts", unfollowed := true, recurses := true, apart := false, narrowed := true }
def MbapCutsUptoSaid : Prop := mbapCutsUptoRow.holds Try.pinned (OpenSpec.upto mbapCutsSpec)

/-- 'busbarlaw17.MbapTids', WHERE WHAT IT READS IS OF BULK AT MOST 1048576: true; the input reads as it did. -/
def mbapTidsUptoRow : OpenClaim := { program := "ytbaeecmamacphaa", sum := "1e12e210753f045983d09d81c205d5401a6f3187876a36355c9f9421f41f0580", func := "busbar/busbarlaw17.MbapTids", spec := "mbapTids", unfollowed := true, recurses := true, apart := false, narrowed := true }
def MbapTidsUptoSaid : Prop := mbapTidsUptoRow.holds Try.pinned (OpenSpec.upto mbapTidsSpec)

/-- 'busbarlaw17.MbapUnits', WHERE WHAT IT READS IS OF BULK AT MOST 1048576: true; the input reads as it did. -/
def mbapUnitsUptoRow : OpenClaim := { program := "ytbaeecmamacphaa", sum := "1e12e210753f045983d09d81c205d5401a6f3187876a36355c9f9421f41f0580", func := "busbar/busbarlaw17.MbapUnits", spec := "mbapUnits", unfollowed := true, recurses := true, apart := false, narrowed := true }
def MbapUnitsUptoSaid : Prop := mbapUnitsUptoRow.holds Try.pinned (OpenSpec.upto mbapUnitsSpec)

end Rows
end Go.Proofs.Ytbaeecmamacphaa
