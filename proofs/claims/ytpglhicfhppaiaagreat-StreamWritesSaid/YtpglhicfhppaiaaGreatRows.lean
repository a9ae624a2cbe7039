/-
  No cell of these rows narrows 'for every input' (looked for: loops, veiled, ifaces, maps, wideKeys, modest, calm, conditions, laid).
  DERIVED. THE GIVEN ROWS OF THIS SEAT. 13 by the template 'for every input the law returns true; each argument reads behind the call as it read before'; 0 by the template 'total and deterministic' (their statements: YtpglhicfhppaiaaGreatTotals.lean).
  GIVEN WITH THE SEED: the statements are not yours to turn. If you find one false, say at which input.
  Laid BY PROGRAM, IN A SANDBOX (cutbox-rows.mjs): the forced cells as the released guide's own fill.sh prints them over the translation 934fa596e2beb8d9… (all of the seat's roots in one cut). By AI agents, Wed Nov 11 2026. No macro, syntax, notation, axiom, sorry.
-/
import Derived.Test.YtpglhicfhppaiaaGreatChecked
import GoSem.Claim
import GoSem.ClaimJoined
import GoSem.ClaimMapViews
import Derived.JoinedTies
import Derived.KernelRfl
namespace Go.Proofs.YtpglhicfhppaiaaGreat
/- THE CELL 'sum', in the pinned program and in every row, IS THE sha256 OF THE DUMP (.gsa) THAT YtpglhicfhppaiaaGreatProg.lean LOADS. Nothing in Lean hashes anything: it is a label: what it is worth is what the hold of that sum in a sandbox is worth. -/
noncomputable def Tryz.pinned : Pinned := { name := "ytpglhicfhppaiaagreat", sum := "934fa596e2beb8d9c5d8a28b7e3102e4c4b7b704b1dfd042ca4c3d04eb7f56c1", checked := Tryz.checked }
namespace Rows
def none {H : Type} : Left H := { results := [], args := [] }

/-- 'busbarlaw18.AduThere': WHATEVER THE INPUT: true; the input reads as it did. -/
def aduThereSpec : ChangeSpec := { name := "aduThere", fn := fun _ => fun
  | [d1, d2, d3, d4] => { results := [.lit (.bool true)], args := [d1, d2, d3, d4] }
  | _ => none }
def aduThereRow : OpenClaim := { program := "ytpglhicfhppaiaagreat", sum := "934fa596e2beb8d9c5d8a28b7e3102e4c4b7b704b1dfd042ca4c3d04eb7f56c1", func := "busbar/busbarlaw18.AduThere", spec := "aduThere", unfollowed := true, recurses := true, apart := false }
def AduThereSaid : Prop := aduThereRow.holds Tryz.pinned (OpenSpec.ofChange aduThereSpec)

/-- ITS FALSE NEIGHBOUR: 'it returns false'. Refute it at one input. -/
def aduThereWrong : ChangeSpec := { name := "aduThere", fn := fun _ => fun
  | [d1, d2, d3, d4] => { results := [.lit (.bool false)], args := [d1, d2, d3, d4] }
  | _ => none }
def AduThereWrongFalsely : Prop := aduThereRow.holds Tryz.pinned (OpenSpec.ofChange aduThereWrong)

/-- 'busbarlaw18.AduApart': WHATEVER THE INPUT: true; the input reads as it did. -/
def aduApartSpec : ChangeSpec := { name := "aduApart", fn := fun _ => fun
  | [d1, d2] => { results := [.lit (.bool true)], args := [d1, d2] }
  | _ => none }
def aduApartRow : OpenClaim := { program := "ytpglhicfhppaiaagreat", sum := "934fa596e2beb8d9c5d8a28b7e3102e4c4b7b704b1dfd042ca4c3d04eb7f56c1", func := "busbar/busbarlaw18.AduApart", spec := "aduApart", unfollowed := true, recurses := true, apart := false }
def AduApartSaid : Prop := aduApartRow.holds Tryz.pinned (OpenSpec.ofChange aduApartSpec)

/-- ITS FALSE NEIGHBOUR: 'it returns false'. Refute it at one input. -/
def aduApartWrong : ChangeSpec := { name := "aduApart", fn := fun _ => fun
  | [d1, d2] => { results := [.lit (.bool false)], args := [d1, d2] }
  | _ => none }
def AduApartWrongFalsely : Prop := aduApartRow.holds Tryz.pinned (OpenSpec.ofChange aduApartWrong)

/-- 'busbarlaw18.AduLengths': WHATEVER THE INPUT: true; the input reads as it did. -/
def aduLengthsSpec : ChangeSpec := { name := "aduLengths", fn := fun _ => fun
  | [d1, d2] => { results := [.lit (.bool true)], args := [d1, d2] }
  | _ => none }
def aduLengthsRow : OpenClaim := { program := "ytpglhicfhppaiaagreat", sum := "934fa596e2beb8d9c5d8a28b7e3102e4c4b7b704b1dfd042ca4c3d04eb7f56c1", func := "busbar/busbarlaw18.AduLengths", spec := "aduLengths", unfollowed := true, recurses := true, apart := false }
def AduLengthsSaid : Prop := aduLengthsRow.holds Tryz.pinned (OpenSpec.ofChange aduLengthsSpec)

/-- ITS FALSE NEIGHBOUR: 'it returns false'. Refute it at one input. -/
def aduLengthsWrong : ChangeSpec := { name := "aduLengths", fn := fun _ => fun
  | [d1, d2] => { results := [.lit (.bool false)], args := [d1, d2] }
  | _ => none }
def AduLengthsWrongFalsely : Prop := aduLengthsRow.holds Tryz.pinned (OpenSpec.ofChange aduLengthsWrong)

/-- 'busbarlaw18.AduWays': WHATEVER THE INPUT: true; the input reads as it did. -/
def aduWaysSpec : ChangeSpec := { name := "aduWays", fn := fun _ => fun
  | [d1, d2, d3, d4, d5] => { results := [.lit (.bool true)], args := [d1, d2, d3, d4, d5] }
  | _ => none }
def aduWaysRow : OpenClaim := { program := "ytpglhicfhppaiaagreat", sum := "934fa596e2beb8d9c5d8a28b7e3102e4c4b7b704b1dfd042ca4c3d04eb7f56c1", func := "busbar/busbarlaw18.AduWays", spec := "aduWays", unfollowed := true, recurses := true, apart := false }
def AduWaysSaid : Prop := aduWaysRow.holds Tryz.pinned (OpenSpec.ofChange aduWaysSpec)

/-- ITS FALSE NEIGHBOUR: 'it returns false'. Refute it at one input. -/
def aduWaysWrong : ChangeSpec := { name := "aduWays", fn := fun _ => fun
  | [d1, d2, d3, d4, d5] => { results := [.lit (.bool false)], args := [d1, d2, d3, d4, d5] }
  | _ => none }
def AduWaysWrongFalsely : Prop := aduWaysRow.holds Tryz.pinned (OpenSpec.ofChange aduWaysWrong)

/-- 'busbarlaw22.StreamCuts': WHATEVER THE INPUT: true; the input reads as it did. -/
def streamCutsSpec : ChangeSpec := { name := "streamCuts", fn := fun _ => fun
  | [d1, d2, d3, d4] => { results := [.lit (.bool true)], args := [d1, d2, d3, d4] }
  | _ => none }
def streamCutsRow : OpenClaim := { program := "ytpglhicfhppaiaagreat", sum := "934fa596e2beb8d9c5d8a28b7e3102e4c4b7b704b1dfd042ca4c3d04eb7f56c1", func := "busbar/busbarlaw22.StreamCuts", spec := "streamCuts", unfollowed := true, recurses := true, apart := false }
def StreamCutsSaid : Prop := streamCutsRow.holds Tryz.pinned (OpenSpec.ofChange streamCutsSpec)

/-- ITS FALSE NEIGHBOUR: 'it returns false'. Refute it at one input. -/
def streamCutsWrong : ChangeSpec := { name := "streamCuts", fn := fun _ => fun
  | [d1, d2, d3, d4] => { results := [.lit (.bool false)], args := [d1, d2, d3, d4] }
  | _ => none }
def StreamCutsWrongFalsely : Prop := streamCutsRow.holds Tryz.pinned (OpenSpec.ofChange streamCutsWrong)

/-- 'busbarlaw22.StreamTicks': WHATEVER THE INPUT: true; the input reads as it did. -/
def streamTicksSpec : ChangeSpec := { name := "streamTicks", fn := fun _ => fun
  | [d1, d2, d3] => { results := [.lit (.bool true)], args := [d1, d2, d3] }
  | _ => none }
def streamTicksRow : OpenClaim := { program := "ytpglhicfhppaiaagreat", sum := "934fa596e2beb8d9c5d8a28b7e3102e4c4b7b704b1dfd042ca4c3d04eb7f56c1", func := "busbar/busbarlaw22.StreamTicks", spec := "streamTicks", unfollowed := true, recurses := true, apart := false }
def StreamTicksSaid : Prop := streamTicksRow.holds Tryz.pinned (OpenSpec.ofChange streamTicksSpec)

/-- ITS FALSE NEIGHBOUR: 'it returns false'. Refute it at one input. -/
def streamTicksWrong : ChangeSpec := { name := "streamTicks", fn := fun _ => fun
  | [d1, d2, d3] => { results := [.lit (.bool false)], args := [d1, d2, d3] }
  | _ => none }
def StreamTicksWrongFalsely : Prop := streamTicksRow.holds Tryz.pinned (OpenSpec.ofChange streamTicksWrong)

/-- 'busbarlaw22.StreamParts': WHATEVER THE INPUT: true; the input reads as it did. -/
def streamPartsSpec : ChangeSpec := { name := "streamParts", fn := fun _ => fun
  | [d1, d2, d3, d4] => { results := [.lit (.bool true)], args := [d1, d2, d3, d4] }
  | _ => none }
def streamPartsRow : OpenClaim := { program := "ytpglhicfhppaiaagreat", sum := "934fa596e2beb8d9c5d8a28b7e3102e4c4b7b704b1dfd042ca4c3d04eb7f56c1", func := "busbar/busbarlaw22.StreamParts", spec := "streamParts", unfollowed := true, recurses := true, apart := false }
def StreamPartsSaid : Prop := streamPartsRow.holds Tryz.pinned (OpenSpec.ofChange streamPartsSpec)

/-- ITS FALSE NEIGHBOUR: 'it returns false'. Refute it at one input. -/
def streamPartsWrong : ChangeSpec := { name := "streamParts", fn := fun _ => fun
  | [d1, d2, d3, d4] => { results := [.lit (.bool false)], args := [d1, d2, d3, d4] }
  | _ => none }
def StreamPartsWrongFalsely : Prop := streamPartsRow.holds Tryz.pinned (OpenSpec.ofChange streamPartsWrong)

/-- 'busbarlaw22.StreamHolds': WHATEVER THE INPUT: true; the input reads as it did. -/
def streamHoldsSpec : ChangeSpec := { name := "streamHolds", fn := fun _ => fun
  | [d1, d2, d3] => { results := [.lit (.bool true)], args := [d1, d2, d3] }
  | _ => none }
def streamHoldsRow : OpenClaim := { program := "ytpglhicfhppaiaagreat", sum := "934fa596e2beb8d9c5d8a28b7e3102e4c4b7b704b1dfd042ca4c3d04eb7f56c1", func := "busbar/busbarlaw22.StreamHolds", spec := "streamHolds", unfollowed := true, recurses := true, apart := false }
def StreamHoldsSaid : Prop := streamHoldsRow.holds Tryz.pinned (OpenSpec.ofChange streamHoldsSpec)

/-- ITS FALSE NEIGHBOUR: 'it returns false'. Refute it at one input. -/
def streamHoldsWrong : ChangeSpec := { name := "streamHolds", fn := fun _ => fun
  | [d1, d2, d3] => { results := [.lit (.bool false)], args := [d1, d2, d3] }
  | _ => none }
def StreamHoldsWrongFalsely : Prop := streamHoldsRow.holds Tryz.pinned (OpenSpec.ofChange streamHoldsWrong)

/-- 'busbarlaw22.StreamWrites': WHATEVER THE INPUT: true; the input reads as it did. -/
def streamWritesSpec : ChangeSpec := { name := "streamWrites", fn := fun _ => fun
  | [d1, d2, d3] => { results := [.lit (.bool true)], args := [d1, d2, d3] }
  | _ => none }
def streamWritesRow : OpenClaim := { program := "ytpglhicfhppaiaagreat", sum := "934fa596e2beb8d9c5d8a28b7e3102e4c4b7b704b1dfd042ca4c3d04eb7f56c1", func := "busbar/busbarlaw22.StreamWrites", spec := "streamWrites", unfollowed := true, recurses := true, apart := false }
def StreamWritesSaid : Prop := streamWritesRow.holds Tryz.pinned (OpenSpec.ofChange streamWritesSpec)

/-- ITS FALSE NEIGHBOUR: 'it returns false'. Refute it at one input. -/
def streamWritesWrong : ChangeSpec := { name := "streamWrites", fn := fun _ => fun
  | [d1, d2, d3] => { results := [.lit (.bool false)], args := [d1, d2, d3] }
  | _ => none }
def StreamWritesWrongFalsely : Prop := streamWritesRow.holds Tryz.pinned (OpenSpec.ofChange streamWritesWrong)

/-- 'busbarlaw24.GateCuts': WHATEVER THE INPUT: true; the input reads as it did. -/
def gateCutsSpec : ChangeSpec := { name := "gateCuts", fn := fun _ => fun
  | [d1, d2, d3, d4, d5] => { results := [.lit (.bool true)], args := [d1, d2, d3, d4, d5] }
  | _ => none }
def gateCutsRow : OpenClaim := { program := "ytpglhicfhppaiaagreat", sum := "934fa596e2beb8d9c5d8a28b7e3102e4c4b7b704b1dfd042ca4c3d04eb7f56c1", func := "busbar/busbarlaw24.GateCuts", spec := "gateCuts", unfollowed := true, recurses := true, apart := false }
def GateCutsSaid : Prop := gateCutsRow.holds Tryz.pinned (OpenSpec.ofChange gateCutsSpec)

/-- ITS FALSE NEIGHBOUR: 'it returns false'. Refute it at one input. -/
def gateCutsWrong : ChangeSpec := { name := "gateCuts", fn := fun _ => fun
  | [d1, d2, d3, d4, d5] => { results := [.lit (.bool false)], args := [d1, d2, d3, d4, d5] }
  | _ => none }
def GateCutsWrongFalsely : Prop := gateCutsRow.holds Tryz.pinned (OpenSpec.ofChange gateCutsWrong)

/-- 'busbarlaw24.GateBack': WHATEVER THE INPUT: true; the input reads as it did. -/
def gateBackSpec : ChangeSpec := { name := "gateBack", fn := fun _ => fun
  | [d1, d2, d3, d4] => { results := [.lit (.bool true)], args := [d1, d2, d3, d4] }
  | _ => none }
def gateBackRow : OpenClaim := { program := "ytpglhicfhppaiaagreat", sum := "934fa596e2beb8d9c5d8a28b7e3102e4c4b7b704b1dfd042ca4c3d04eb7f56c1", func := "busbar/busbarlaw24.GateBack", spec := "gateBack", unfollowed := true, recurses := true, apart := false }
def GateBackSaid : Prop := gateBackRow.holds Tryz.pinned (OpenSpec.ofChange gateBackSpec)

/-- ITS FALSE NEIGHBOUR: 'it returns false'. Refute it at one input. -/
def gateBackWrong : ChangeSpec := { name := "gateBack", fn := fun _ => fun
  | [d1, d2, d3, d4] => { results := [.lit (.bool false)], args := [d1, d2, d3, d4] }
  | _ => none }
def GateBackWrongFalsely : Prop := gateBackRow.holds Tryz.pinned (OpenSpec.ofChange gateBackWrong)

/-- 'busbarlaw24.GateCounts': WHATEVER THE INPUT: true; the input reads as it did. -/
def gateCountsSpec : ChangeSpec := { name := "gateCounts", fn := fun _ => fun
  | [d1, d2, d3] => { results := [.lit (.bool true)], args := [d1, d2, d3] }
  | _ => none }
def gateCountsRow : OpenClaim := { program := "ytpglhicfhppaiaagreat", sum := "934fa596e2beb8d9c5d8a28b7e3102e4c4b7b704b1dfd042ca4c3d04eb7f56c1", func := "busbar/busbarlaw24.GateCounts", spec := "gateCounts", unfollowed := true, recurses := true, apart := false }
def GateCountsSaid : Prop := gateCountsRow.holds Tryz.pinned (OpenSpec.ofChange gateCountsSpec)

/-- ITS FALSE NEIGHBOUR: 'it returns false'. Refute it at one input. -/
def gateCountsWrong : ChangeSpec := { name := "gateCounts", fn := fun _ => fun
  | [d1, d2, d3] => { results := [.lit (.bool false)], args := [d1, d2, d3] }
  | _ => none }
def GateCountsWrongFalsely : Prop := gateCountsRow.holds Tryz.pinned (OpenSpec.ofChange gateCountsWrong)

/-- 'busbarlaw24.GateKeeps': WHATEVER THE INPUT: true; the input reads as it did. -/
def gateKeepsSpec : ChangeSpec := { name := "gateKeeps", fn := fun _ => fun
  | [d1, d2, d3, d4] => { results := [.lit (.bool true)], args := [d1, d2, d3, d4] }
  | _ => none }
def gateKeepsRow : OpenClaim := { program := "ytpglhicfhppaiaagreat", sum := "934fa596e2beb8d9c5d8a28b7e3102e4c4b7b704b1dfd042ca4c3d04eb7f56c1", func := "busbar/busbarlaw24.GateKeeps", spec := "gateKeeps", unfollowed := true, recurses := true, apart := false }
def GateKeepsSaid : Prop := gateKeepsRow.holds Tryz.pinned (OpenSpec.ofChange gateKeepsSpec)

/-- ITS FALSE NEIGHBOUR: 'it returns false'. Refute it at one input. -/
def gateKeepsWrong : ChangeSpec := { name := "gateKeeps", fn := fun _ => fun
  | [d1, d2, d3, d4] => { results := [.lit (.bool false)], args := [d1, d2, d3, d4] }
  | _ => none }
def GateKeepsWrongFalsely : Prop := gateKeepsRow.holds Tryz.pinned (OpenSpec.ofChange gateKeepsWrong)

/- THE SECOND FORM. 'bulk': how many values and letters a reading holds, each counted each time it is reached (what is shared counts as often as it is met; a slice's spare places count too). A statement '..UptoSaid' is the law's where the arguments, and the package variables that the reading takes, are together of bulk at most 1048576: NARROWER than '..Said'. Prove '..Said' where nothing that the law and all that it calls make is longer than what came in: it says more and counts as full. Else prove '..UptoSaid'. A law counts once. -/
mutual
def uptoBulk {H : Type} : DataW H → Nat
  | .lit (.string bytes) => bytes.length + 1
  | .lit _ => 1
  | .nil => 1
  | .ptr d => uptoBulk d + 1
  | .slice elems spare => uptoBulkAll elems + uptoBulkAll spare + 1
  | .agg parts => uptoBulkAll parts + 1
  | .iface _ d => uptoBulk d + 1
  | .map entries => uptoBulkEntries entries + 1
  | .held _ => 1
def uptoBulkAll {H : Type} : List (DataW H) → Nat
  | [] => 0
  | d :: r => uptoBulk d + uptoBulkAll r
def uptoBulkEntries {H : Type} : List (Lit × DataW H) → Nat
  | [] => 0
  | x :: r => uptoBulkEntry x + uptoBulkEntries r
def uptoBulkEntry {H : Type} : Lit × DataW H → Nat
  | (.string bytes, d) => bytes.length + uptoBulk d + 1
  | (_, d) => uptoBulk d + 1
 end
def uptoSmall : (H : Type) → List (DataW H) → Bool := fun _ ds => decide (uptoBulkAll ds ≤ 1048576)
def OpenSpec.upto (s : _root_.Go.ChangeSpec) : _root_.Go.OpenSpec := { _root_.Go.OpenSpec.ofChange s with cond := some uptoSmall }

/-- 'busbarlaw18.AduThere', WHERE WHAT IT READS IS OF BULK AT MOST 1048576: true; the input reads as it did. -/
def aduThereUptoRow : OpenClaim := { program := "ytpglhicfhppaiaagreat", sum := "934fa596e2beb8d9c5d8a28b7e3102e4c4b7b704b1dfd042ca4c3d04eb7f56c1", func := "busbar/busbarlaw18.AduThere", spec := "aduThere", unfollowed := true, recurses := true, apart := false, narrowed := true }
def AduThereUptoSaid : Prop := aduThereUptoRow.holds Tryz.pinned (OpenSpec.upto aduThereSpec)

/-- 'busbarlaw18.AduApart', WHERE WHAT IT READS IS OF BULK AT MOST 1048576: true; the input reads as it did. -/
def aduApartUptoRow : OpenClaim := { program := "ytpglhicfhppaiaagreat", sum := "934fa596e2beb8d9c5d8a28b7e3102e4c4b7b704b1dfd042ca4c3d04eb7f56c1", func := "busbar/busbarlaw18.AduApart", spec := "aduApart", unfollowed := true, recurses := true, apart := false, narrowed := true }
def AduApartUptoSaid : Prop := aduApartUptoRow.holds Tryz.pinned (OpenSpec.upto aduApartSpec)

/-- 'busbarlaw18.AduLengths', WHERE WHAT IT READS IS OF BULK AT MOST 1048576: true; the input reads as it did. -/
def aduLengthsUptoRow : OpenClaim := { program := "ytpglhicfhppaiaagreat", sum := "934fa596e2beb8d9c5d8a28b7e3102e4c4b7b704b1dfd042ca4c3d04eb7f56c1", func := "busbar/busbarlaw18.AduLengths", spec := "aduLengths", unfollowed := true, recurses := true, apart := false, narrowed := true }
def AduLengthsUptoSaid : Prop := aduLengthsUptoRow.holds Tryz.pinned (OpenSpec.upto aduLengthsSpec)

/-- 'busbarlaw18.AduWays', WHERE WHAT IT READS IS OF BULK AT MOST 1048576: true; the input reads as it did. -/
def aduWaysUptoRow : OpenClaim := { program := "ytpglhicfhppaiaagreat", sum := "934fa596e2beb8d9c5d8a28b7e3102e4c4b7b704b1dfd042ca4c3d04eb7f56c1", func := "busbar/busbarlaw18.AduWays", spec := "aduWays", unfollowed := true, recurses := true, apart := false, narrowed := true }
def AduWaysUptoSaid : Prop := aduWaysUptoRow.holds Tryz.pinned (OpenSpec.upto aduWaysSpec)

/-- 'busbarlaw22.StreamCuts', WHERE WHAT IT READS IS OF BULK AT MOST 1048576: true; the input reads as it did. -/
def streamCutsUptoRow : OpenClaim := { program := "ytpglhicfhppaiaagreat", sum := "934fa596e2beb8d9c5d8a28b7e3102e4c4b7b704b1dfd042ca4c3d04eb7f56c1", func := "busbar/busbarlaw22.StreamCuts", spec := "streamCuts", unfollowed := true, recurses := true, apart := false, narrowed := true }
def StreamCutsUptoSaid : Prop := streamCutsUptoRow.holds Tryz.pinned (OpenSpec.upto streamCutsSpec)

/-- 'busbarlaw22.StreamTicks', WHERE WHAT IT READS IS OF BULK AT MOST 1048576: true; the input reads as it did. -/
def streamTicksUptoRow : OpenClaim := { program := "ytpglhicfhppaiaagreat", sum := "934fa596e2beb8d9c5d8a28b7e3102e4c4b7b704b1dfd042ca4c3d04eb7f56c1", func := "busbar/busbarlaw22.StreamTicks", spec := "streamTicks", unfollowed := true, recurses := true, apart := false, narrowed := true }
def StreamTicksUptoSaid : Prop := streamTicksUptoRow.holds Tryz.pinned (OpenSpec.upto streamTicksSpec)

/-- 'busbarlaw22.StreamParts', WHERE WHAT IT READS IS OF BULK AT MOST 1048576: true; the input reads as it did. -/
def streamPartsUptoRow : OpenClaim := { program := "ytpglhicfhppaiaagreat", sum := "934fa596e2beb8d9c5d8a28b7e3102e4c4b7b704b1dfd042ca4c3d04eb7f56c1", func := "busbar/busbarlaw22.StreamParts", spec := "streamParts", unfollowed := true, recurses := true, apart := false, narrowed := true }
def StreamPartsUptoSaid : Prop := streamPartsUptoRow.holds Tryz.pinned (OpenSpec.upto streamPartsSpec)

/-- 'busbarlaw22.StreamHolds', WHERE WHAT IT READS IS OF BULK AT MOST 1048576: true; the input reads as it did. -/
def streamHoldsUptoRow : OpenClaim := { program := "ytpglhicfhppaiaagreat", sum := "934fa596e2beb8d9c5d8a28b7e3102e4c4b7b704b1dfd042ca4c3d04eb7f56c1", func := "busbar/busbarlaw22.StreamHolds", spec := "streamHolds", unfollowed := true, recurses := true, apart := false, narrowed := true }
def StreamHoldsUptoSaid : Prop := streamHoldsUptoRow.holds Tryz.pinned (OpenSpec.upto streamHoldsSpec)

/-- 'busbarlaw22.StreamWrites', WHERE WHAT IT READS IS OF BULK AT MOST 1048576: true; the input reads as it did. -/
def streamWritesUptoRow : OpenClaim := { program := "ytpglhicfhppaiaagreat", sum := "934fa596e2beb8d9c5d8a28b7e3102e4c4b7b704b1dfd042ca4c3d04eb7f56c1", func := "busbar/busbarlaw22.StreamWrites", spec := "streamWrites", unfollowed := true, recurses := true, apart := false, narrowed := true }
def StreamWritesUptoSaid : Prop := streamWritesUptoRow.holds Tryz.pinned (OpenSpec.upto streamWritesSpec)

/-- 'busbarlaw24.GateCuts', WHERE WHAT IT READS IS OF BULK AT MOST 1048576: true; the input reads as it did. -/
def gateCutsUptoRow : OpenClaim := { program := "ytpglhicfhppaiaagreat", sum := "934fa596e2beb8d9c5d8a28b7e3102e4c4b7b704b1dfd042ca4c3d04eb7f56c1", func := "busbar/busbarlaw24.GateCuts", spec := "gateCuts", unfollowed := true, recurses := true, apart := false, narrowed := true }
def GateCutsUptoSaid : Prop := gateCutsUptoRow.holds Tryz.pinned (OpenSpec.upto gateCutsSpec)

/-- 'busbarlaw24.GateBack', WHERE WHAT IT READS IS OF BULK AT MOST 1048576: true; the input reads as it did. -/
def gateBackUptoRow : OpenClaim := { program := "ytpglhicfhppaiaagreat", sum := "934fa596e2beb8d9c5d8a28b7e3102e4c4b7b704b1dfd042ca4c3d04eb7f56c1", func := "busbar/busbarlaw24.GateBack", spec := "gateBack", unfollowed := true, recurses := true, apart := false, narrowed := true }
def GateBackUptoSaid : Prop := gateBackUptoRow.holds Tryz.pinned (OpenSpec.upto gateBackSpec)

/-- 'busbarlaw24.GateCounts', WHERE WHAT IT READS IS OF BULK AT MOST 1048576: true; the input reads as it did. -/
def gateCountsUptoRow : OpenClaim := { program := "ytpglhicfhppaiaagreat", sum := "934fa596e2beb8d9c5d8a28b7e3102e4c4b7b704b1dfd042ca4c3d04eb7f56c1", func := "busbar/busbarlaw24.GateCounts", spec := "gateCounts", unfollowed := true, recurses := true, apart := false, narrowed := true }
def GateCountsUptoSaid : Prop := gateCountsUptoRow.holds Tryz.pinned (OpenSpec.upto gateCountsSpec)

/-- 'busbarlaw24.GateKeeps', WHERE WHAT IT READS IS OF BULK AT MOST 1048576: true; the input reads as it did. -/
def gateKeepsUptoRow : OpenClaim := { program := "ytpglhicfhppaiaagreat", sum := "934fa596e2beb8d9c5d8a28b7e3102e4c4b7b704b1dfd042ca4c3d04eb7f56c1", func := "busbar/busbarlaw24.GateKeeps", spec := "gateKeeps", unfollowed := true, recurses := true, apart := false, narrowed := true }
def GateKeepsUptoSaid : Prop := gateKeepsUptoRow.holds Tryz.pinned (OpenSpec.upto gateKeepsSpec)

end Rows
end Go.Proofs.YtpglhicfhppaiaaGreat
