/-
  No cell of these rows narrows 'for every input' (looked for: loops, veiled, ifaces, maps, wideKeys, modest, calm, conditions, laid).
  DERIVED. THE GIVEN ROWS OF THIS SEAT. 14 by the template 'for every input the law returns true; each argument reads behind the call as it read before'; 0 by the template 'total and deterministic' (their statements: YtgjlbabefogepaaGreatTotals.lean).
  GIVEN WITH THE SEED: the statements are not yours to turn. If you find one false, say at which input.
  Laid BY PROGRAM, IN A SANDBOX (cutbox-rows.mjs): the forced cells as the released guide's own fill.sh prints them over the translation d248ae240a009cf0… (all of the seat's roots in one cut). By AI agents, Wed Nov 11 2026. No macro, syntax, notation, axiom, sorry.
-/
import Derived.Test.YtgjlbabefogepaaGreatChecked
import GoSem.Claim
import GoSem.ClaimJoined
import GoSem.ClaimMapViews
import Derived.JoinedTies
import Derived.KernelRfl
namespace Go.Proofs.YtgjlbabefogepaaGreat
/- THE CELL 'sum', in the pinned program and in every row, IS THE sha256 OF THE DUMP (.gsa) THAT YtgjlbabefogepaaGreatProg.lean LOADS. Nothing in Lean hashes anything: it is a label: what it is worth is what the hold of that sum in a sandbox is worth. -/
noncomputable def Tryz.pinned : Pinned := { name := "ytgjlbabefogepaagreat", sum := "d248ae240a009cf0f5b824539b3b99ac5cd85639764581ec89094f654148d3b6", checked := Tryz.checked }
namespace Rows
def none {H : Type} : Left H := { results := [], args := [] }

/-- 'busbarlaw19.SrtuCuts': WHATEVER THE INPUT: true; the input reads as it did. -/
def srtuCutsSpec : ChangeSpec := { name := "srtuCuts", fn := fun _ => fun
  | [d1, d2] => { results := [.lit (.bool true)], args := [d1, d2] }
  | _ => none }
def srtuCutsRow : OpenClaim := { program := "ytgjlbabefogepaagreat", sum := "d248ae240a009cf0f5b824539b3b99ac5cd85639764581ec89094f654148d3b6", func := "busbar/busbarlaw19.SrtuCuts", spec := "srtuCuts", unfollowed := true, recurses := true, apart := false }
def SrtuCutsSaid : Prop := srtuCutsRow.holds Tryz.pinned (OpenSpec.ofChange srtuCutsSpec)

/-- ITS FALSE NEIGHBOUR: 'it returns false'. Refute it at one input. -/
def srtuCutsWrong : ChangeSpec := { name := "srtuCuts", fn := fun _ => fun
  | [d1, d2] => { results := [.lit (.bool false)], args := [d1, d2] }
  | _ => none }
def SrtuCutsWrongFalsely : Prop := srtuCutsRow.holds Tryz.pinned (OpenSpec.ofChange srtuCutsWrong)

/-- 'busbarlaw21.SmbapCuts': WHATEVER THE INPUT: true; the input reads as it did. -/
def smbapCutsSpec : ChangeSpec := { name := "smbapCuts", fn := fun _ => fun
  | [d1, d2] => { results := [.lit (.bool true)], args := [d1, d2] }
  | _ => none }
def smbapCutsRow : OpenClaim := { program := "ytgjlbabefogepaagreat", sum := "d248ae240a009cf0f5b824539b3b99ac5cd85639764581ec89094f654148d3b6", func := "busbar/busbarlaw21.SmbapCuts", spec := "smbapCuts", unfollowed := true, recurses := true, apart := false }
def SmbapCutsSaid : Prop := smbapCutsRow.holds Tryz.pinned (OpenSpec.ofChange smbapCutsSpec)

/-- ITS FALSE NEIGHBOUR: 'it returns false'. Refute it at one input. -/
def smbapCutsWrong : ChangeSpec := { name := "smbapCuts", fn := fun _ => fun
  | [d1, d2] => { results := [.lit (.bool false)], args := [d1, d2] }
  | _ => none }
def SmbapCutsWrongFalsely : Prop := smbapCutsRow.holds Tryz.pinned (OpenSpec.ofChange smbapCutsWrong)

/-- 'busbarlaw15.RtuBack': WHATEVER THE INPUT: true; the input reads as it did. -/
def rtuBackSpec : ChangeSpec := { name := "rtuBack", fn := fun _ => fun
  | [d1, d2, d3] => { results := [.lit (.bool true)], args := [d1, d2, d3] }
  | _ => none }
def rtuBackRow : OpenClaim := { program := "ytgjlbabefogepaagreat", sum := "d248ae240a009cf0f5b824539b3b99ac5cd85639764581ec89094f654148d3b6", func := "busbar/busbarlaw15.RtuBack", spec := "rtuBack", unfollowed := true, recurses := true, apart := false }
def RtuBackSaid : Prop := rtuBackRow.holds Tryz.pinned (OpenSpec.ofChange rtuBackSpec)

/-- ITS FALSE NEIGHBOUR: 'it returns false'. Refute it at one input. -/
def rtuBackWrong : ChangeSpec := { name := "rtuBack", fn := fun _ => fun
  | [d1, d2, d3] => { results := [.lit (.bool false)], args := [d1, d2, d3] }
  | _ => none }
def RtuBackWrongFalsely : Prop := rtuBackRow.holds Tryz.pinned (OpenSpec.ofChange rtuBackWrong)

/-- 'busbarlaw15.RtuUnits': WHATEVER THE INPUT: true; the input reads as it did. -/
def rtuUnitsSpec : ChangeSpec := { name := "rtuUnits", fn := fun _ => fun
  | [d1, d2, d3] => { results := [.lit (.bool true)], args := [d1, d2, d3] }
  | _ => none }
def rtuUnitsRow : OpenClaim := { program := "ytgjlbabefogepaagreat", sum := "d248ae240a009cf0f5b824539b3b99ac5cd85639764581ec89094f654148d3b6", func := "busbar/busbarlaw15.RtuUnits", spec := "rtuUnits", unfollowed := true, recurses := true, apart := false }
def RtuUnitsSaid : Prop := rtuUnitsRow.holds Tryz.pinned (OpenSpec.ofChange rtuUnitsSpec)

/-- ITS FALSE NEIGHBOUR: 'it returns false'. Refute it at one input. -/
def rtuUnitsWrong : ChangeSpec := { name := "rtuUnits", fn := fun _ => fun
  | [d1, d2, d3] => { results := [.lit (.bool false)], args := [d1, d2, d3] }
  | _ => none }
def RtuUnitsWrongFalsely : Prop := rtuUnitsRow.holds Tryz.pinned (OpenSpec.ofChange rtuUnitsWrong)

/-- 'busbarlaw19.SrtuWrites': WHATEVER THE INPUT: true; the input reads as it did. -/
def srtuWritesSpec : ChangeSpec := { name := "srtuWrites", fn := fun _ => fun
  | [d1, d2, d3] => { results := [.lit (.bool true)], args := [d1, d2, d3] }
  | _ => none }
def srtuWritesRow : OpenClaim := { program := "ytgjlbabefogepaagreat", sum := "d248ae240a009cf0f5b824539b3b99ac5cd85639764581ec89094f654148d3b6", func := "busbar/busbarlaw19.SrtuWrites", spec := "srtuWrites", unfollowed := true, recurses := true, apart := false }
def SrtuWritesSaid : Prop := srtuWritesRow.holds Tryz.pinned (OpenSpec.ofChange srtuWritesSpec)

/-- ITS FALSE NEIGHBOUR: 'it returns false'. Refute it at one input. -/
def srtuWritesWrong : ChangeSpec := { name := "srtuWrites", fn := fun _ => fun
  | [d1, d2, d3] => { results := [.lit (.bool false)], args := [d1, d2, d3] }
  | _ => none }
def SrtuWritesWrongFalsely : Prop := srtuWritesRow.holds Tryz.pinned (OpenSpec.ofChange srtuWritesWrong)

/-- 'busbarlaw21.SmbapWrites': WHATEVER THE INPUT: true; the input reads as it did. -/
def smbapWritesSpec : ChangeSpec := { name := "smbapWrites", fn := fun _ => fun
  | [d1, d2, d3] => { results := [.lit (.bool true)], args := [d1, d2, d3] }
  | _ => none }
def smbapWritesRow : OpenClaim := { program := "ytgjlbabefogepaagreat", sum := "d248ae240a009cf0f5b824539b3b99ac5cd85639764581ec89094f654148d3b6", func := "busbar/busbarlaw21.SmbapWrites", spec := "smbapWrites", unfollowed := true, recurses := true, apart := false }
def SmbapWritesSaid : Prop := smbapWritesRow.holds Tryz.pinned (OpenSpec.ofChange smbapWritesSpec)

/-- ITS FALSE NEIGHBOUR: 'it returns false'. Refute it at one input. -/
def smbapWritesWrong : ChangeSpec := { name := "smbapWrites", fn := fun _ => fun
  | [d1, d2, d3] => { results := [.lit (.bool false)], args := [d1, d2, d3] }
  | _ => none }
def SmbapWritesWrongFalsely : Prop := smbapWritesRow.holds Tryz.pinned (OpenSpec.ofChange smbapWritesWrong)

/-- 'busbarlaw21.SmbapWaits': WHATEVER THE INPUT: true; the input reads as it did. -/
def smbapWaitsSpec : ChangeSpec := { name := "smbapWaits", fn := fun _ => fun
  | [d1, d2] => { results := [.lit (.bool true)], args := [d1, d2] }
  | _ => none }
def smbapWaitsRow : OpenClaim := { program := "ytgjlbabefogepaagreat", sum := "d248ae240a009cf0f5b824539b3b99ac5cd85639764581ec89094f654148d3b6", func := "busbar/busbarlaw21.SmbapWaits", spec := "smbapWaits", unfollowed := true, recurses := true, apart := false }
def SmbapWaitsSaid : Prop := smbapWaitsRow.holds Tryz.pinned (OpenSpec.ofChange smbapWaitsSpec)

/-- ITS FALSE NEIGHBOUR: 'it returns false'. Refute it at one input. -/
def smbapWaitsWrong : ChangeSpec := { name := "smbapWaits", fn := fun _ => fun
  | [d1, d2] => { results := [.lit (.bool false)], args := [d1, d2] }
  | _ => none }
def SmbapWaitsWrongFalsely : Prop := smbapWaitsRow.holds Tryz.pinned (OpenSpec.ofChange smbapWaitsWrong)

/-- 'busbarlaw21.SmbapProto': WHATEVER THE INPUT: true; the input reads as it did. -/
def smbapProtoSpec : ChangeSpec := { name := "smbapProto", fn := fun _ => fun
  | [d1, d2, d3] => { results := [.lit (.bool true)], args := [d1, d2, d3] }
  | _ => none }
def smbapProtoRow : OpenClaim := { program := "ytgjlbabefogepaagreat", sum := "d248ae240a009cf0f5b824539b3b99ac5cd85639764581ec89094f654148d3b6", func := "busbar/busbarlaw21.SmbapProto", spec := "smbapProto", unfollowed := true, recurses := true, apart := false }
def SmbapProtoSaid : Prop := smbapProtoRow.holds Tryz.pinned (OpenSpec.ofChange smbapProtoSpec)

/-- ITS FALSE NEIGHBOUR: 'it returns false'. Refute it at one input. -/
def smbapProtoWrong : ChangeSpec := { name := "smbapProto", fn := fun _ => fun
  | [d1, d2, d3] => { results := [.lit (.bool false)], args := [d1, d2, d3] }
  | _ => none }
def SmbapProtoWrongFalsely : Prop := smbapProtoRow.holds Tryz.pinned (OpenSpec.ofChange smbapProtoWrong)

/-- 'busbarlaw20.SascCuts': WHATEVER THE INPUT: true; the input reads as it did. -/
def sascCutsSpec : ChangeSpec := { name := "sascCuts", fn := fun _ => fun
  | [d1, d2] => { results := [.lit (.bool true)], args := [d1, d2] }
  | _ => none }
def sascCutsRow : OpenClaim := { program := "ytgjlbabefogepaagreat", sum := "d248ae240a009cf0f5b824539b3b99ac5cd85639764581ec89094f654148d3b6", func := "busbar/busbarlaw20.SascCuts", spec := "sascCuts", unfollowed := true, recurses := true, apart := false }
def SascCutsSaid : Prop := sascCutsRow.holds Tryz.pinned (OpenSpec.ofChange sascCutsSpec)

/-- ITS FALSE NEIGHBOUR: 'it returns false'. Refute it at one input. -/
def sascCutsWrong : ChangeSpec := { name := "sascCuts", fn := fun _ => fun
  | [d1, d2] => { results := [.lit (.bool false)], args := [d1, d2] }
  | _ => none }
def SascCutsWrongFalsely : Prop := sascCutsRow.holds Tryz.pinned (OpenSpec.ofChange sascCutsWrong)

/-- 'busbarlaw20.SascNoise': WHATEVER THE INPUT: true; the input reads as it did. -/
def sascNoiseSpec : ChangeSpec := { name := "sascNoise", fn := fun _ => fun
  | [d1, d2] => { results := [.lit (.bool true)], args := [d1, d2] }
  | _ => none }
def sascNoiseRow : OpenClaim := { program := "ytgjlbabefogepaagreat", sum := "d248ae240a009cf0f5b824539b3b99ac5cd85639764581ec89094f654148d3b6", func := "busbar/busbarlaw20.SascNoise", spec := "sascNoise", unfollowed := true, recurses := true, apart := false }
def SascNoiseSaid : Prop := sascNoiseRow.holds Tryz.pinned (OpenSpec.ofChange sascNoiseSpec)

/-- ITS FALSE NEIGHBOUR: 'it returns false'. Refute it at one input. -/
def sascNoiseWrong : ChangeSpec := { name := "sascNoise", fn := fun _ => fun
  | [d1, d2] => { results := [.lit (.bool false)], args := [d1, d2] }
  | _ => none }
def SascNoiseWrongFalsely : Prop := sascNoiseRow.holds Tryz.pinned (OpenSpec.ofChange sascNoiseWrong)

/-- 'busbarlaw16.AscBack': WHATEVER THE INPUT: true; the input reads as it did. -/
def ascBackSpec : ChangeSpec := { name := "ascBack", fn := fun _ => fun
  | [d1, d2, d3] => { results := [.lit (.bool true)], args := [d1, d2, d3] }
  | _ => none }
def ascBackRow : OpenClaim := { program := "ytgjlbabefogepaagreat", sum := "d248ae240a009cf0f5b824539b3b99ac5cd85639764581ec89094f654148d3b6", func := "busbar/busbarlaw16.AscBack", spec := "ascBack", inPlace := ["internal/abi.NoEscape"], unfollowed := true, recurses := true, apart := false }
def AscBackSaid : Prop := ascBackRow.holds Tryz.pinned (OpenSpec.ofChange ascBackSpec)

/-- ITS FALSE NEIGHBOUR: 'it returns false'. Refute it at one input. -/
def ascBackWrong : ChangeSpec := { name := "ascBack", fn := fun _ => fun
  | [d1, d2, d3] => { results := [.lit (.bool false)], args := [d1, d2, d3] }
  | _ => none }
def AscBackWrongFalsely : Prop := ascBackRow.holds Tryz.pinned (OpenSpec.ofChange ascBackWrong)

/-- 'busbarlaw16.AscSigns': WHATEVER THE INPUT: true; the input reads as it did. -/
def ascSignsSpec : ChangeSpec := { name := "ascSigns", fn := fun _ => fun
  | [d1, d2, d3, d4] => { results := [.lit (.bool true)], args := [d1, d2, d3, d4] }
  | _ => none }
def ascSignsRow : OpenClaim := { program := "ytgjlbabefogepaagreat", sum := "d248ae240a009cf0f5b824539b3b99ac5cd85639764581ec89094f654148d3b6", func := "busbar/busbarlaw16.AscSigns", spec := "ascSigns", inPlace := ["internal/abi.NoEscape"], unfollowed := true, recurses := true, apart := false }
def AscSignsSaid : Prop := ascSignsRow.holds Tryz.pinned (OpenSpec.ofChange ascSignsSpec)

/-- ITS FALSE NEIGHBOUR: 'it returns false'. Refute it at one input. -/
def ascSignsWrong : ChangeSpec := { name := "ascSigns", fn := fun _ => fun
  | [d1, d2, d3, d4] => { results := [.lit (.bool false)], args := [d1, d2, d3, d4] }
  | _ => none }
def AscSignsWrongFalsely : Prop := ascSignsRow.holds Tryz.pinned (OpenSpec.ofChange ascSignsWrong)

/-- 'busbarlaw16.AscEnds': WHATEVER THE INPUT: true; the input reads as it did. -/
def ascEndsSpec : ChangeSpec := { name := "ascEnds", fn := fun _ => fun
  | [d1, d2] => { results := [.lit (.bool true)], args := [d1, d2] }
  | _ => none }
def ascEndsRow : OpenClaim := { program := "ytgjlbabefogepaagreat", sum := "d248ae240a009cf0f5b824539b3b99ac5cd85639764581ec89094f654148d3b6", func := "busbar/busbarlaw16.AscEnds", spec := "ascEnds", inPlace := ["internal/abi.NoEscape"], unfollowed := true, recurses := true, apart := false }
def AscEndsSaid : Prop := ascEndsRow.holds Tryz.pinned (OpenSpec.ofChange ascEndsSpec)

/-- ITS FALSE NEIGHBOUR: 'it returns false'. Refute it at one input. -/
def ascEndsWrong : ChangeSpec := { name := "ascEnds", fn := fun _ => fun
  | [d1, d2] => { results := [.lit (.bool false)], args := [d1, d2] }
  | _ => none }
def AscEndsWrongFalsely : Prop := ascEndsRow.holds Tryz.pinned (OpenSpec.ofChange ascEndsWrong)

/-- 'busbarlaw20.SascWrites': WHATEVER THE INPUT: true; the input reads as it did. -/
def sascWritesSpec : ChangeSpec := { name := "sascWrites", fn := fun _ => fun
  | [d1, d2, d3, d4] => { results := [.lit (.bool true)], args := [d1, d2, d3, d4] }
  | _ => none }
def sascWritesRow : OpenClaim := { program := "ytgjlbabefogepaagreat", sum := "d248ae240a009cf0f5b824539b3b99ac5cd85639764581ec89094f654148d3b6", func := "busbar/busbarlaw20.SascWrites", spec := "sascWrites", inPlace := ["internal/abi.NoEscape"], unfollowed := true, recurses := true, apart := false }
def SascWritesSaid : Prop := sascWritesRow.holds Tryz.pinned (OpenSpec.ofChange sascWritesSpec)

/-- ITS FALSE NEIGHBOUR: 'it returns false'. Refute it at one input. -/
def sascWritesWrong : ChangeSpec := { name := "sascWrites", fn := fun _ => fun
  | [d1, d2, d3, d4] => { results := [.lit (.bool false)], args := [d1, d2, d3, d4] }
  | _ => none }
def SascWritesWrongFalsely : Prop := sascWritesRow.holds Tryz.pinned (OpenSpec.ofChange sascWritesWrong)

/- THE SECOND FORM. 'bulk': how many values and letters a reading holds, each counted each time it is reached (what is shared counts as often as it is met; a slice's spare places count too). A statement '..UptoSaid' is the law's where the arguments, and the package variables that the reading takes, are together of bulk at most 1048576: NARROWER than '..Said'. Prove '..Said' where nothing that the law and all that it calls make is longer than what came in: it says more and counts as full. Else prove '..UptoSaid'. A law counts once. -/
mutual
def uptoBulk {H : Type} : DataW H → Nat
  | .lit (.string bytes) => bytes.length + 1
  | .lit _ => 1
  | .nil => 1
  | .ptr d => uptoBulk d + 1
  | .slice elems spare => uptoBulkAll elems + uptoBulkAll spare + 1
  | .agg parts => uptoBulkAll parts + 1
  | .iface _ d => uptoBulk d + 1
  | .map entries => uptoBulkEntries entries + 1
  | .held _ => 1
def uptoBulkAll {H : Type} : List (DataW H) → Nat
  | [] => 0
  | d :: r => uptoBulk d + uptoBulkAll r
def uptoBulkEntries {H : Type} : List (Lit × DataW H) → Nat
  | [] => 0
  | x :: r => uptoBulkEntry x + uptoBulkEntries r
def uptoBulkEntry {H : Type} : Lit × DataW H → Nat
  | (.string bytes, d) => bytes.length + uptoBulk d + 1
  | (_, d) => uptoBulk d + 1
 end
def uptoSmall : (H : Type) → List (DataW H) → Bool := fun _ ds => decide (uptoBulkAll ds ≤ 1048576)
def OpenSpec.upto (s : _root_.Go.ChangeSpec) : _root_.Go.OpenSpec := { _root_.Go.OpenSpec.ofChange s with cond := some uptoSmall }

/-- 'busbarlaw19.SrtuCuts', WHERE WHAT IT READS IS OF BULK AT MOST 1048576: true; the input reads as it did. -/
def srtuCutsUptoRow : OpenClaim := { program := "ytgjlbabefogepaagreat", sum := "d248ae240a009cf0f5b824539b3b99ac5cd85639764581ec89094f654148d3b6", func := "busbar/busbarlaw19.SrtuCuts", spec := "srtuCuts", unfollowed := true, recurses := true, apart := false, narrowed := true }
def SrtuCutsUptoSaid : Prop := srtuCutsUptoRow.holds Tryz.pinned (OpenSpec.upto srtuCutsSpec)

/-- 'busbarlaw21.SmbapCuts', WHERE WHAT IT READS IS OF BULK AT MOST 1048576: true; the input reads as it did. -/
def smbapCutsUptoRow : OpenClaim := { program := "ytgjlbabefogepaagreat", sum := "d248ae240a009cf0f5b824539b3b99ac5cd85639764581ec89094f654148d3b6", func := "busbar/busbarlaw21.SmbapCuts", spec := "smbapCuts", unfollowed := true, recurses := true, apart := false, narrowed := true }
def SmbapCutsUptoSaid : Prop := smbapCutsUptoRow.holds Tryz.pinned (OpenSpec.upto smbapCutsSpec)

/-- 'busbarlaw15.RtuBack', WHERE WHAT IT READS IS OF BULK AT MOST 1048576: true; the input reads as it did. -/
def rtuBackUptoRow : OpenClaim := { program := "ytgjlbabefogepaagreat", sum := "d248ae240a009cf0f5b824539b3b99ac5cd85639764581ec89094f654148d3b6", func := "busbar/busbarlaw15.RtuBack", spec := "rtuBack", unfollowed := true, recurses := true, apart := false, narrowed := true }
def RtuBackUptoSaid : Prop := rtuBackUptoRow.holds Tryz.pinned (OpenSpec.upto rtuBackSpec)

/-- 'busbarlaw15.RtuUnits', WHERE WHAT IT READS IS OF BULK AT MOST 1048576: true; the input reads as it did. -/
def rtuUnitsUptoRow : OpenClaim := { program := "ytgjlbabefogepaagreat", sum := "d248ae240a009cf0f5b824539b3b99ac5cd85639764581ec89094f654148d3b6", func := "busbar/busbarlaw15.RtuUnits", spec := "rtuUnits", unfollowed := true, recurses := true, apart := false, narrowed := true }
def RtuUnitsUptoSaid : Prop := rtuUnitsUptoRow.holds Tryz.pinned (OpenSpec.upto rtuUnitsSpec)

/-- 'busbarlaw19.SrtuWrites', WHERE WHAT IT READS IS OF BULK AT MOST 1048576: true; the input reads as it did. -/
def srtuWritesUptoRow : OpenClaim := { program := "ytgjlbabefogepaagreat", sum := "d248ae240a009cf0f5b824539b3b99ac5cd85639764581ec89094f654148d3b6", func := "busbar/busbarlaw19.SrtuWrites", spec := "srtuWrites", unfollowed := true, recurses := true, apart := false, narrowed := true }
def SrtuWritesUptoSaid : Prop := srtuWritesUptoRow.holds Tryz.pinned (OpenSpec.upto srtuWritesSpec)

/-- 'busbarlaw21.SmbapWrites', WHERE WHAT IT READS IS OF BULK AT MOST 1048576: true; the input reads as it did. -/
def smbapWritesUptoRow : OpenClaim := { program := "ytgjlbabefogepaagreat", sum := "d248ae240a009cf0f5b824539b3b99ac5cd85639764581ec89094f654148d3b6", func := "busbar/busbarlaw21.SmbapWrites", spec := "smbapWrites", unfollowed := true, recurses := true, apart := false, narrowed := true }
def SmbapWritesUptoSaid : Prop := smbapWritesUptoRow.holds Tryz.pinned (OpenSpec.upto smbapWritesSpec)

/-- 'busbarlaw21.SmbapWaits', WHERE WHAT IT READS IS OF BULK AT MOST 1048576: true; the input reads as it did. -/
def smbapWaitsUptoRow : OpenClaim := { program := "ytgjlbabefogepaagreat", sum := "d248ae240a009cf0f5b824539b3b99ac5cd85639764581ec89094f654148d3b6", func := "busbar/busbarlaw21.SmbapWaits", spec := "smbapWaits", unfollowed := true, recurses := true, apart := false, narrowed := true }
def SmbapWaitsUptoSaid : Prop := smbapWaitsUptoRow.holds Tryz.pinned (OpenSpec.upto smbapWaitsSpec)

/-- 'busbarlaw21.SmbapProto', WHERE WHAT IT READS IS OF BULK AT MOST 1048576: true; the input reads as it did. -/
def smbapProtoUptoRow : OpenClaim := { program := "ytgjlbabefogepaagreat", sum := "d248ae240a009cf0f5b824539b3b99ac5cd85639764581ec89094f654148d3b6", func := "busbar/busbarlaw21.SmbapProto", spec := "smbapProto", unfollowed := true, recurses := true, apart := false, narrowed := true }
def SmbapProtoUptoSaid : Prop := smbapProtoUptoRow.holds Tryz.pinned (OpenSpec.upto smbapProtoSpec)

/-- 'busbarlaw20.SascCuts', WHERE WHAT IT READS IS OF BULK AT MOST 1048576: true; the input reads as it did. -/
def sascCutsUptoRow : OpenClaim := { program := "ytgjlbabefogepaagreat", sum := "d248ae240a009cf0f5b824539b3b99ac5cd85639764581ec89094f654148d3b6", func := "busbar/busbarlaw20.SascCuts", spec := "sascCuts", unfollowed := true, recurses := true, apart := false, narrowed := true }
def SascCutsUptoSaid : Prop := sascCutsUptoRow.holds Tryz.pinned (OpenSpec.upto sascCutsSpec)

/-- 'busbarlaw20.SascNoise', WHERE WHAT IT READS IS OF BULK AT MOST 1048576: true; the input reads as it did. -/
def sascNoiseUptoRow : OpenClaim := { program := "ytgjlbabefogepaagreat", sum := "d248ae240a009cf0f5b824539b3b99ac5cd85639764581ec89094f654148d3b6", func := "busbar/busbarlaw20.SascNoise", spec := "sascNoise", unfollowed := true, recurses := true, apart := false, narrowed := true }
def SascNoiseUptoSaid : Prop := sascNoiseUptoRow.holds Tryz.pinned (OpenSpec.upto sascNoiseSpec)

/-- 'busbarlaw16.AscBack', WHERE WHAT IT READS IS OF BULK AT MOST 1048576: true; the input reads as it did. -/
def ascBackUptoRow : OpenClaim := { program := "ytgjlbabefogepaagreat", sum := "d248ae240a009cf0f5b824539b3b99ac5cd85639764581ec89094f654148d3b6", func := "busbar/busbarlaw16.AscBack", spec := "ascBack", inPlace := ["internal/abi.NoEscape"], unfollowed := true, recurses := true, apart := false, narrowed := true }
def AscBackUptoSaid : Prop := ascBackUptoRow.holds Tryz.pinned (OpenSpec.upto ascBackSpec)

/-- 'busbarlaw16.AscSigns', WHERE WHAT IT READS IS OF BULK AT MOST 1048576: true; the input reads as it did. -/
def ascSignsUptoRow : OpenClaim := { program := "ytgjlbabefogepaagreat", sum := "d248ae240a009cf0f5b824539b3b99ac5cd85639764581ec89094f654148d3b6", func := "busbar/busbarlaw16.AscSigns", spec := "ascSigns", inPlace := ["internal/abi.NoEscape"], unfollowed := true, recurses := true, apart := false, narrowed := true }
def AscSignsUptoSaid : Prop := ascSignsUptoRow.holds Tryz.pinned (OpenSpec.upto ascSignsSpec)

/-- 'busbarlaw16.AscEnds', WHERE WHAT IT READS IS OF BULK AT MOST 1048576: true; the input reads as it did. -/
def ascEndsUptoRow : OpenClaim := { program := "ytgjlbabefogepaagreat", sum := "d248ae240a009cf0f5b824539b3b99ac5cd85639764581ec89094f654148d3b6", func := "busbar/busbarlaw16.AscEnds", spec := "ascEnds", inPlace := ["internal/abi.NoEscape"], unfollowed := true, recurses := true, apart := false, narrowed := true }
def AscEndsUptoSaid : Prop := ascEndsUptoRow.holds Tryz.pinned (OpenSpec.upto ascEndsSpec)

/-- 'busbarlaw20.SascWrites', WHERE WHAT IT READS IS OF BULK AT MOST 1048576: true; the input reads as it did. -/
def sascWritesUptoRow : OpenClaim := { program := "ytgjlbabefogepaagreat", sum := "d248ae240a009cf0f5b824539b3b99ac5cd85639764581ec89094f654148d3b6", func := "busbar/busbarlaw20.SascWrites", spec := "sascWrites", inPlace := ["internal/abi.NoEscape"], unfollowed := true, recurses := true, apart := false, narrowed := true }
def SascWritesUptoSaid : Prop := sascWritesUptoRow.holds Tryz.pinned (OpenSpec.upto sascWritesSpec)

end Rows
end Go.Proofs.YtgjlbabefogepaaGreat
