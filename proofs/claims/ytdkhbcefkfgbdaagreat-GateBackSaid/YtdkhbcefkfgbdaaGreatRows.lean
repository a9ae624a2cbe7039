/-
  No cell of these rows narrows 'for every input' (looked for: loops, veiled, ifaces, maps, wideKeys, modest, calm, conditions, laid).
  DERIVED. THE GIVEN ROWS OF THIS SEAT. 10 by the template 'for every input the law returns true; each argument reads behind the call as it read before'; 0 by the template 'total and deterministic' (their statements: YtdkhbcefkfgbdaaGreatTotals.lean).
  GIVEN WITH THE SEED: the statements are not yours to turn. If you find one false, say at which input.
  Laid BY PROGRAM, IN A SANDBOX (cutbox-rows.mjs): the forced cells as the released guide's own fill.sh prints them over the translation e1b7bf106f503ac0… (all of the seat's roots in one cut). By AI agents, Wed Nov 11 2026. No macro, syntax, notation, axiom, sorry.
-/
import Derived.Test.YtdkhbcefkfgbdaaGreatChecked
import GoSem.Claim
import GoSem.ClaimJoined
import GoSem.ClaimMapViews
import Derived.JoinedTies
import Derived.KernelRfl
namespace Go.Proofs.YtdkhbcefkfgbdaaGreat
/- THE CELL 'sum', in the pinned program and in every row, IS THE sha256 OF THE DUMP (.gsa) THAT YtdkhbcefkfgbdaaGreatProg.lean LOADS. Nothing in Lean hashes anything: it is a label: what it is worth is what the hold of that sum in a sandbox is worth. -/
noncomputable def Tryz.pinned : Pinned := { name := "ytdkhbcefkfgbdaagreat", sum := "e1b7bf106f503ac0dfcf3d5162e15bf1c760c5d345786f463a10e3c1e3dace10", checked := Tryz.checked }
namespace Rows
def none {H : Type} : Left H := { results := [], args := [] }

/-- 'busbarlaw21.SmbapTells': WHATEVER THE INPUT: true; the input reads as it did. -/
def smbapTellsSpec : ChangeSpec := { name := "smbapTells", fn := fun _ => fun
  | [d1, d2] => { results := [.lit (.bool true)], args := [d1, d2] }
  | _ => none }
def smbapTellsRow : OpenClaim := { program := "ytdkhbcefkfgbdaagreat", sum := "e1b7bf106f503ac0dfcf3d5162e15bf1c760c5d345786f463a10e3c1e3dace10", func := "busbar/busbarlaw21.SmbapTells", spec := "smbapTells", unfollowed := true, recurses := true, apart := false }
def SmbapTellsSaid : Prop := smbapTellsRow.holds Tryz.pinned (OpenSpec.ofChange smbapTellsSpec)

/-- ITS FALSE NEIGHBOUR: 'it returns false'. Refute it at one input. -/
def smbapTellsWrong : ChangeSpec := { name := "smbapTells", fn := fun _ => fun
  | [d1, d2] => { results := [.lit (.bool false)], args := [d1, d2] }
  | _ => none }
def SmbapTellsWrongFalsely : Prop := smbapTellsRow.holds Tryz.pinned (OpenSpec.ofChange smbapTellsWrong)

/-- 'busbarlaw20.SascTells': WHATEVER THE INPUT: true; the input reads as it did. -/
def sascTellsSpec : ChangeSpec := { name := "sascTells", fn := fun _ => fun
  | [d1, d2] => { results := [.lit (.bool true)], args := [d1, d2] }
  | _ => none }
def sascTellsRow : OpenClaim := { program := "ytdkhbcefkfgbdaagreat", sum := "e1b7bf106f503ac0dfcf3d5162e15bf1c760c5d345786f463a10e3c1e3dace10", func := "busbar/busbarlaw20.SascTells", spec := "sascTells", unfollowed := true, recurses := true, apart := false }
def SascTellsSaid : Prop := sascTellsRow.holds Tryz.pinned (OpenSpec.ofChange sascTellsSpec)

/-- ITS FALSE NEIGHBOUR: 'it returns false'. Refute it at one input. -/
def sascTellsWrong : ChangeSpec := { name := "sascTells", fn := fun _ => fun
  | [d1, d2] => { results := [.lit (.bool false)], args := [d1, d2] }
  | _ => none }
def SascTellsWrongFalsely : Prop := sascTellsRow.holds Tryz.pinned (OpenSpec.ofChange sascTellsWrong)

/-- 'busbarlaw18.AduWrites': WHATEVER THE INPUT: true; the input reads as it did. -/
def aduWritesSpec : ChangeSpec := { name := "aduWrites", fn := fun _ => fun
  | [d1, d2, d3] => { results := [.lit (.bool true)], args := [d1, d2, d3] }
  | _ => none }
def aduWritesRow : OpenClaim := { program := "ytdkhbcefkfgbdaagreat", sum := "e1b7bf106f503ac0dfcf3d5162e15bf1c760c5d345786f463a10e3c1e3dace10", func := "busbar/busbarlaw18.AduWrites", spec := "aduWrites", unfollowed := true, recurses := true, apart := false }
def AduWritesSaid : Prop := aduWritesRow.holds Tryz.pinned (OpenSpec.ofChange aduWritesSpec)

/-- ITS FALSE NEIGHBOUR: 'it returns false'. Refute it at one input. -/
def aduWritesWrong : ChangeSpec := { name := "aduWrites", fn := fun _ => fun
  | [d1, d2, d3] => { results := [.lit (.bool false)], args := [d1, d2, d3] }
  | _ => none }
def AduWritesWrongFalsely : Prop := aduWritesRow.holds Tryz.pinned (OpenSpec.ofChange aduWritesWrong)

/-- 'busbarlaw18.AduTurns': WHATEVER THE INPUT: true; the input reads as it did. -/
def aduTurnsSpec : ChangeSpec := { name := "aduTurns", fn := fun _ => fun
  | [d1, d2, d3, d4] => { results := [.lit (.bool true)], args := [d1, d2, d3, d4] }
  | _ => none }
def aduTurnsRow : OpenClaim := { program := "ytdkhbcefkfgbdaagreat", sum := "e1b7bf106f503ac0dfcf3d5162e15bf1c760c5d345786f463a10e3c1e3dace10", func := "busbar/busbarlaw18.AduTurns", spec := "aduTurns", unfollowed := true, recurses := true, apart := false }
def AduTurnsSaid : Prop := aduTurnsRow.holds Tryz.pinned (OpenSpec.ofChange aduTurnsSpec)

/-- ITS FALSE NEIGHBOUR: 'it returns false'. Refute it at one input. -/
def aduTurnsWrong : ChangeSpec := { name := "aduTurns", fn := fun _ => fun
  | [d1, d2, d3, d4] => { results := [.lit (.bool false)], args := [d1, d2, d3, d4] }
  | _ => none }
def AduTurnsWrongFalsely : Prop := aduTurnsRow.holds Tryz.pinned (OpenSpec.ofChange aduTurnsWrong)

/-- 'busbarlaw22.StreamRuns': WHATEVER THE INPUT: true; the input reads as it did. -/
def streamRunsSpec : ChangeSpec := { name := "streamRuns", fn := fun _ => fun
  | [d1, d2, d3] => { results := [.lit (.bool true)], args := [d1, d2, d3] }
  | _ => none }
def streamRunsRow : OpenClaim := { program := "ytdkhbcefkfgbdaagreat", sum := "e1b7bf106f503ac0dfcf3d5162e15bf1c760c5d345786f463a10e3c1e3dace10", func := "busbar/busbarlaw22.StreamRuns", spec := "streamRuns", unfollowed := true, recurses := true, apart := false }
def StreamRunsSaid : Prop := streamRunsRow.holds Tryz.pinned (OpenSpec.ofChange streamRunsSpec)

/-- ITS FALSE NEIGHBOUR: 'it returns false'. Refute it at one input. -/
def streamRunsWrong : ChangeSpec := { name := "streamRuns", fn := fun _ => fun
  | [d1, d2, d3] => { results := [.lit (.bool false)], args := [d1, d2, d3] }
  | _ => none }
def StreamRunsWrongFalsely : Prop := streamRunsRow.holds Tryz.pinned (OpenSpec.ofChange streamRunsWrong)

/-- 'busbarlaw24.GateCuts': WHATEVER THE INPUT: true; the input reads as it did. -/
def gateCutsSpec : ChangeSpec := { name := "gateCuts", fn := fun _ => fun
  | [d1, d2, d3, d4, d5] => { results := [.lit (.bool true)], args := [d1, d2, d3, d4, d5] }
  | _ => none }
def gateCutsRow : OpenClaim := { program := "ytdkhbcefkfgbdaagreat", sum := "e1b7bf106f503ac0dfcf3d5162e15bf1c760c5d345786f463a10e3c1e3dace10", func := "busbar/busbarlaw24.GateCuts", spec := "gateCuts", unfollowed := true, recurses := true, apart := false }
def GateCutsSaid : Prop := gateCutsRow.holds Tryz.pinned (OpenSpec.ofChange gateCutsSpec)

/-- ITS FALSE NEIGHBOUR: 'it returns false'. Refute it at one input. -/
def gateCutsWrong : ChangeSpec := { name := "gateCuts", fn := fun _ => fun
  | [d1, d2, d3, d4, d5] => { results := [.lit (.bool false)], args := [d1, d2, d3, d4, d5] }
  | _ => none }
def GateCutsWrongFalsely : Prop := gateCutsRow.holds Tryz.pinned (OpenSpec.ofChange gateCutsWrong)

/-- 'busbarlaw24.GateBack': WHATEVER THE INPUT: true; the input reads as it did. -/
def gateBackSpec : ChangeSpec := { name := "gateBack", fn := fun _ => fun
  | [d1, d2, d3, d4] => { results := [.lit (.bool true)], args := [d1, d2, d3, d4] }
  | _ => none }
def gateBackRow : OpenClaim := { program := "ytdkhbcefkfgbdaagreat", sum := "e1b7bf106f503ac0dfcf3d5162e15bf1c760c5d345786f463a10e3c1e3dace10", func := "busbar/busbarlaw24.GateBack", spec := "gateBack", unfollowed := true, recurses := true, apart := false }
def GateBackSaid : Prop := gateBackRow.holds Tryz.pinned (OpenSpec.ofChange gateBackSpec)

/-- ITS FALSE NEIGHBOUR: 'it returns false'. Refute it at one input. -/
def gateBackWrong : ChangeSpec := { name := "gateBack", fn := fun _ => fun
  | [d1, d2, d3, d4] => { results := [.lit (.bool false)], args := [d1, d2, d3, d4] }
  | _ => none }
def GateBackWrongFalsely : Prop := gateBackRow.holds Tryz.pinned (OpenSpec.ofChange gateBackWrong)

/-- 'busbarlaw24.GateRuns': WHATEVER THE INPUT: true; the input reads as it did. -/
def gateRunsSpec : ChangeSpec := { name := "gateRuns", fn := fun _ => fun
  | [d1, d2, d3, d4] => { results := [.lit (.bool true)], args := [d1, d2, d3, d4] }
  | _ => none }
def gateRunsRow : OpenClaim := { program := "ytdkhbcefkfgbdaagreat", sum := "e1b7bf106f503ac0dfcf3d5162e15bf1c760c5d345786f463a10e3c1e3dace10", func := "busbar/busbarlaw24.GateRuns", spec := "gateRuns", unfollowed := true, recurses := true, apart := false }
def GateRunsSaid : Prop := gateRunsRow.holds Tryz.pinned (OpenSpec.ofChange gateRunsSpec)

/-- ITS FALSE NEIGHBOUR: 'it returns false'. Refute it at one input. -/
def gateRunsWrong : ChangeSpec := { name := "gateRuns", fn := fun _ => fun
  | [d1, d2, d3, d4] => { results := [.lit (.bool false)], args := [d1, d2, d3, d4] }
  | _ => none }
def GateRunsWrongFalsely : Prop := gateRunsRow.holds Tryz.pinned (OpenSpec.ofChange gateRunsWrong)

/-- 'busbarlaw24.GateCounts': WHATEVER THE INPUT: true; the input reads as it did. -/
def gateCountsSpec : ChangeSpec := { name := "gateCounts", fn := fun _ => fun
  | [d1, d2, d3] => { results := [.lit (.bool true)], args := [d1, d2, d3] }
  | _ => none }
def gateCountsRow : OpenClaim := { program := "ytdkhbcefkfgbdaagreat", sum := "e1b7bf106f503ac0dfcf3d5162e15bf1c760c5d345786f463a10e3c1e3dace10", func := "busbar/busbarlaw24.GateCounts", spec := "gateCounts", unfollowed := true, recurses := true, apart := false }
def GateCountsSaid : Prop := gateCountsRow.holds Tryz.pinned (OpenSpec.ofChange gateCountsSpec)

/-- ITS FALSE NEIGHBOUR: 'it returns false'. Refute it at one input. -/
def gateCountsWrong : ChangeSpec := { name := "gateCounts", fn := fun _ => fun
  | [d1, d2, d3] => { results := [.lit (.bool false)], args := [d1, d2, d3] }
  | _ => none }
def GateCountsWrongFalsely : Prop := gateCountsRow.holds Tryz.pinned (OpenSpec.ofChange gateCountsWrong)

/-- 'busbarlaw24.GateKeeps': WHATEVER THE INPUT: true; the input reads as it did. -/
def gateKeepsSpec : ChangeSpec := { name := "gateKeeps", fn := fun _ => fun
  | [d1, d2, d3, d4] => { results := [.lit (.bool true)], args := [d1, d2, d3, d4] }
  | _ => none }
def gateKeepsRow : OpenClaim := { program := "ytdkhbcefkfgbdaagreat", sum := "e1b7bf106f503ac0dfcf3d5162e15bf1c760c5d345786f463a10e3c1e3dace10", func := "busbar/busbarlaw24.GateKeeps", spec := "gateKeeps", unfollowed := true, recurses := true, apart := false }
def GateKeepsSaid : Prop := gateKeepsRow.holds Tryz.pinned (OpenSpec.ofChange gateKeepsSpec)

/-- ITS FALSE NEIGHBOUR: 'it returns false'. Refute it at one input. -/
def gateKeepsWrong : ChangeSpec := { name := "gateKeeps", fn := fun _ => fun
  | [d1, d2, d3, d4] => { results := [.lit (.bool false)], args := [d1, d2, d3, d4] }
  | _ => none }
def GateKeepsWrongFalsely : Prop := gateKeepsRow.holds Tryz.pinned (OpenSpec.ofChange gateKeepsWrong)

/- THE SECOND FORM. 'bulk': how many values and letters a reading holds, each counted each time it is reached (what is shared counts as often as it is met; a slice's spare places count too). A statement '..UptoSaid' is the law's where the arguments, and the package variables that the reading takes, are together of bulk at most 1048576: NARROWER than '..Said'. Prove '..Said' where nothing that the law and all that it calls make is longer than what came in: it says more and counts as full. Else prove '..UptoSaid'. A law counts once. -/
mutual
def uptoBulk {H : Type} : DataW H → Nat
  | .lit (.string bytes) => bytes.length + 1
  | .lit _ => 1
  | .nil => 1
  | .ptr d => uptoBulk d + 1
  | .slice elems spare => uptoBulkAll elems + uptoBulkAll spare + 1
  | .agg parts => uptoBulkAll parts + 1
  | .iface _ d => uptoBulk d + 1
  | .map entries => uptoBulkEntries entries + 1
  | .held _ => 1
def uptoBulkAll {H : Type} : List (DataW H) → Nat
  | [] => 0
  | d :: r => uptoBulk d + uptoBulkAll r
def uptoBulkEntries {H : Type} : List (Lit × DataW H) → Nat
  | [] => 0
  | x :: r => uptoBulkEntry x + uptoBulkEntries r
def uptoBulkEntry {H : Type} : Lit × DataW H → Nat
  | (.string bytes, d) => bytes.length + uptoBulk d + 1
  | (_, d) => uptoBulk d + 1
 end
def uptoSmall : (H : Type) → List (DataW H) → Bool := fun _ ds => decide (uptoBulkAll ds ≤ 1048576)
def OpenSpec.upto (s : _root_.Go.ChangeSpec) : _root_.Go.OpenSpec := { _root_.Go.OpenSpec.ofChange s with cond := some uptoSmall }

/-- 'busbarlaw21.SmbapTells', WHERE WHAT IT READS IS OF BULK AT MOST 1048576: true; the input reads as it did. -/
def smbapTellsUptoRow : OpenClaim := { program := "ytdkhbcefkfgbdaagreat", sum := "e1b7bf106f503ac0dfcf3d5162e15bf1c760c5d345786f463a10e3c1e3dace10", func := "busbar/busbarlaw21.SmbapTells", spec := "smbapTells", unfollowed := true, recurses := true, apart := false, narrowed := true }
def SmbapTellsUptoSaid : Prop := smbapTellsUptoRow.holds Tryz.pinned (OpenSpec.upto smbapTellsSpec)

/-- 'busbarlaw20.SascTells', WHERE WHAT IT READS IS OF BULK AT MOST 1048576: true; the input reads as it did. -/
def sascTellsUptoRow : OpenClaim := { program := "ytdkhbcefkfgbdaagreat", sum := "e1b7bf106f503ac0dfcf3d5162e15bf1c760c5d345786f463a10e3c1e3dace10", func := "busbar/busbarlaw20.SascTells", spec := "sascTells", unfollowed := true, recurses := true, apart := false, narrowed := true }
def SascTellsUptoSaid : Prop := sascTellsUptoRow.holds Tryz.pinned (OpenSpec.upto sascTellsSpec)

/-- 'busbarlaw18.AduWrites', WHERE WHAT IT READS IS OF BULK AT MOST 1048576: true; the input reads as it did. -/
def aduWritesUptoRow : OpenClaim := { program := "ytdkhbcefkfgbdaagreat", sum := "e1b7bf106f503ac0dfcf3d5162e15bf1c760c5d345786f463a10e3c1e3dace10", func := "busbar/busbarlaw18.AduWrites", spec := "aduWrites", unfollowed := true, recurses := true, apart := false, narrowed := true }
def AduWritesUptoSaid : Prop := aduWritesUptoRow.holds Tryz.pinned (OpenSpec.upto aduWritesSpec)

/-- 'busbarlaw18.AduTurns', WHERE WHAT IT READS IS OF BULK AT MOST 1048576: true; the input reads as it did. -/
def aduTurnsUptoRow : OpenClaim := { program := "ytdkhbcefkfgbdaagreat", sum := "e1b7bf106f503ac0dfcf3d5162e15bf1c760c5d345786f463a10e3c1e3dace10", func := "busbar/busbarlaw18.AduTurns", spec := "aduTurns", unfollowed := true, recurses := true, apart := false, narrowed := true }
def AduTurnsUptoSaid : Prop := aduTurnsUptoRow.holds Tryz.pinned (OpenSpec.upto aduTurnsSpec)

/-- 'busbarlaw22.StreamRuns', WHERE WHAT IT READS IS OF BULK AT MOST 1048576: true; the input reads as it did. -/
def streamRunsUptoRow : OpenClaim := { program := "ytdkhbcefkfgbdaagreat", sum := "e1b7bf106f503ac0dfcf3d5162e15bf1c760c5d345786f463a10e3c1e3dace10", func := "busbar/busbarlaw22.StreamRuns", spec := "streamRuns", unfollowed := true, recurses := true, apart := false, narrowed := true }
def StreamRunsUptoSaid : Prop := streamRunsUptoRow.holds Tryz.pinned (OpenSpec.upto streamRunsSpec)

/-- 'busbarlaw24.GateCuts', WHERE WHAT IT READS IS OF BULK AT MOST 1048576: true; the input reads as it did. -/
def gateCutsUptoRow : OpenClaim := { program := "ytdkhbcefkfgbdaagreat", sum := "e1b7bf106f503ac0dfcf3d5162e15bf1c760c5d345786f463a10e3c1e3dace10", func := "busbar/busbarlaw24.GateCuts", spec := "gateCuts", unfollowed := true, recurses := true, apart := false, narrowed := true }
def GateCutsUptoSaid : Prop := gateCutsUptoRow.holds Tryz.pinned (OpenSpec.upto gateCutsSpec)

/-- 'busbarlaw24.GateBack', WHERE WHAT IT READS IS OF BULK AT MOST 1048576: true; the input reads as it did. -/
def gateBackUptoRow : OpenClaim := { program := "ytdkhbcefkfgbdaagreat", sum := "e1b7bf106f503ac0dfcf3d5162e15bf1c760c5d345786f463a10e3c1e3dace10", func := "busbar/busbarlaw24.GateBack", spec := "gateBack", unfollowed := true, recurses := true, apart := false, narrowed := true }
def GateBackUptoSaid : Prop := gateBackUptoRow.holds Tryz.pinned (OpenSpec.upto gateBackSpec)

/-- 'busbarlaw24.GateRuns', WHERE WHAT IT READS IS OF BULK AT MOST 1048576: true; the input reads as it did. -/
def gateRunsUptoRow : OpenClaim := { program := "ytdkhbcefkfgbdaagreat", sum := "e1b7bf106f503ac0dfcf3d5162e15bf1c760c5d345786f463a10e3c1e3dace10", func := "busbar/busbarlaw24.GateRuns", spec := "gateRuns", unfollowed := true, recurses := true, apart := false, narrowed := true }
def GateRunsUptoSaid : Prop := gateRunsUptoRow.holds Tryz.pinned (OpenSpec.upto gateRunsSpec)

/-- 'busbarlaw24.GateCounts', WHERE WHAT IT READS IS OF BULK AT MOST 1048576: true; the input reads as it did. -/
def gateCountsUptoRow : OpenClaim := { program := "ytdkhbcefkfgbdaagreat", sum := "e1b7bf106f503ac0dfcf3d5162e15bf1c760c5d345786f463a10e3c1e3dace10", func := "busbar/busbarlaw24.GateCounts", spec := "gateCounts", unfollowed := true, recurses := true, apart := false, narrowed := true }
def GateCountsUptoSaid : Prop := gateCountsUptoRow.holds Tryz.pinned (OpenSpec.upto gateCountsSpec)

/-- 'busbarlaw24.GateKeeps', WHERE WHAT IT READS IS OF BULK AT MOST 1048576: true; the input reads as it did. -/
def gateKeepsUptoRow : OpenClaim := { program := "ytdkhbcefkfgbdaagreat", sum := "e1b7bf106f503ac0dfcf3d5162e15bf1c760c5d345786f463a10e3c1e3dace10", func := "busbar/busbarlaw24.GateKeeps", spec := "gateKeeps", unfollowed := true, recurses := true, apart := false, narrowed := true }
def GateKeepsUptoSaid : Prop := gateKeepsUptoRow.holds Tryz.pinned (OpenSpec.upto gateKeepsSpec)

end Rows
end Go.Proofs.YtdkhbcefkfgbdaaGreat
