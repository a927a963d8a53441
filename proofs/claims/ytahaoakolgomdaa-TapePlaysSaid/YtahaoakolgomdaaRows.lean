/-
  No cell of these rows narrows 'for every input' (looked for: loops, veiled, ifaces, maps, wideKeys, modest, calm, conditions, laid).
  DERIVED. THE GIVEN ROWS OF THIS SEAT. 16 by the template 'for every input the law returns true; each argument reads behind the call as it read before'; 0 by the template 'total and deterministic' (their statements: YtahaoakolgomdaaTotals.lean).
  GIVEN WITH THE SEED: the statements are not yours to turn. If you find one false, say at which input.
  Laid BY PROGRAM, IN A SANDBOX (cutbox-rows.mjs): the forced cells as the released guide's own fill.sh prints them over the translation f23a6455c0855b21… (all of the seat's roots in one cut). By AI agents, Wed Nov 11 2026. No macro, syntax, notation, axiom, sorry.
-/
import Derived.Test.YtahaoakolgomdaaChecked
import GoSem.Claim
import GoSem.ClaimJoined
import GoSem.ClaimMapViews
import Derived.JoinedTies
import Derived.KernelRfl
namespace Go.Proofs.Ytahaoakolgomdaa
/- THE CELL 'sum', in the pinned program and in every row, IS THE sha256 OF THE DUMP (.gsa) THAT YtahaoakolgomdaaProg.lean LOADS. Nothing in Lean hashes anything: it is a label: what it is worth is what the hold of that sum in a sandbox is worth. -/
noncomputable def Try.pinned : Pinned := { name := "ytahaoakolgomdaa", sum := "f23a6455c0855b21f9756a2b89a7168bf7db865dc352947b9c4c2c76930ff4be", checked := Try.checked }
namespace Rows
def none {H : Type} : Left H := { results := [], args := [] }

/-- 'gangerlaw17.CratePuts': WHATEVER THE INPUT: true; the input reads as it did. -/
def cratePutsSpec : ChangeSpec := { name := "cratePuts", fn := fun _ => fun
  | [d] => { results := [.lit (.bool true)], args := [d] }
  | _ => none }
def cratePutsRow : OpenClaim := { program := "ytahaoakolgomdaa", sum := "f23a6455c0855b21f9756a2b89a7168bf7db865dc352947b9c4c2c76930ff4be", func := "ganger/gangerlaw17.CratePuts", spec := "cratePuts", apart := false }
def CratePutsSaid : Prop := cratePutsRow.holds Try.pinned (OpenSpec.ofChange cratePutsSpec)

/-- ITS FALSE NEIGHBOUR: 'it returns false'. Refute it at one input. -/
def cratePutsWrong : ChangeSpec := { name := "cratePuts", fn := fun _ => fun
  | [d] => { results := [.lit (.bool false)], args := [d] }
  | _ => none }
def CratePutsWrongFalsely : Prop := cratePutsRow.holds Try.pinned (OpenSpec.ofChange cratePutsWrong)

/-- 'gangerlaw17.CrateGets': WHATEVER THE INPUT: true; the input reads as it did. -/
def crateGetsSpec : ChangeSpec := { name := "crateGets", fn := fun _ => fun
  | [d1, d2] => { results := [.lit (.bool true)], args := [d1, d2] }
  | _ => none }
def crateGetsRow : OpenClaim := { program := "ytahaoakolgomdaa", sum := "f23a6455c0855b21f9756a2b89a7168bf7db865dc352947b9c4c2c76930ff4be", func := "ganger/gangerlaw17.CrateGets", spec := "crateGets", apart := false }
def CrateGetsSaid : Prop := crateGetsRow.holds Try.pinned (OpenSpec.ofChange crateGetsSpec)

/-- ITS FALSE NEIGHBOUR: 'it returns false'. Refute it at one input. -/
def crateGetsWrong : ChangeSpec := { name := "crateGets", fn := fun _ => fun
  | [d1, d2] => { results := [.lit (.bool false)], args := [d1, d2] }
  | _ => none }
def CrateGetsWrongFalsely : Prop := crateGetsRow.holds Try.pinned (OpenSpec.ofChange crateGetsWrong)

/-- 'gangerlaw17.CrateBack': WHATEVER THE INPUT: true; the input reads as it did. -/
def crateBackSpec : ChangeSpec := { name := "crateBack", fn := fun _ => fun
  | [d1, d2, d3] => { results := [.lit (.bool true)], args := [d1, d2, d3] }
  | _ => none }
def crateBackRow : OpenClaim := { program := "ytahaoakolgomdaa", sum := "f23a6455c0855b21f9756a2b89a7168bf7db865dc352947b9c4c2c76930ff4be", func := "ganger/gangerlaw17.CrateBack", spec := "crateBack", apart := false }
def CrateBackSaid : Prop := crateBackRow.holds Try.pinned (OpenSpec.ofChange crateBackSpec)

/-- ITS FALSE NEIGHBOUR: 'it returns false'. Refute it at one input. -/
def crateBackWrong : ChangeSpec := { name := "crateBack", fn := fun _ => fun
  | [d1, d2, d3] => { results := [.lit (.bool false)], args := [d1, d2, d3] }
  | _ => none }
def CrateBackWrongFalsely : Prop := crateBackRow.holds Try.pinned (OpenSpec.ofChange crateBackWrong)

/-- 'gangerlaw17.CrateTurned': WHATEVER THE INPUT: true; the input reads as it did. -/
def crateTurnedSpec : ChangeSpec := { name := "crateTurned", fn := fun _ => fun
  | [d1, d2, d3] => { results := [.lit (.bool true)], args := [d1, d2, d3] }
  | _ => none }
def crateTurnedRow : OpenClaim := { program := "ytahaoakolgomdaa", sum := "f23a6455c0855b21f9756a2b89a7168bf7db865dc352947b9c4c2c76930ff4be", func := "ganger/gangerlaw17.CrateTurned", spec := "crateTurned", apart := false }
def CrateTurnedSaid : Prop := crateTurnedRow.holds Try.pinned (OpenSpec.ofChange crateTurnedSpec)

/-- ITS FALSE NEIGHBOUR: 'it returns false'. Refute it at one input. -/
def crateTurnedWrong : ChangeSpec := { name := "crateTurned", fn := fun _ => fun
  | [d1, d2, d3] => { results := [.lit (.bool false)], args := [d1, d2, d3] }
  | _ => none }
def CrateTurnedWrongFalsely : Prop := crateTurnedRow.holds Try.pinned (OpenSpec.ofChange crateTurnedWrong)

/-- 'gangerlaw17.CrateSums': WHATEVER THE INPUT: true; the input reads as it did. -/
def crateSumsSpec : ChangeSpec := { name := "crateSums", fn := fun _ => fun
  | [d1, d2, d3, d4] => { results := [.lit (.bool true)], args := [d1, d2, d3, d4] }
  | _ => none }
def crateSumsRow : OpenClaim := { program := "ytahaoakolgomdaa", sum := "f23a6455c0855b21f9756a2b89a7168bf7db865dc352947b9c4c2c76930ff4be", func := "ganger/gangerlaw17.CrateSums", spec := "crateSums", apart := false }
def CrateSumsSaid : Prop := crateSumsRow.holds Try.pinned (OpenSpec.ofChange crateSumsSpec)

/-- ITS FALSE NEIGHBOUR: 'it returns false'. Refute it at one input. -/
def crateSumsWrong : ChangeSpec := { name := "crateSums", fn := fun _ => fun
  | [d1, d2, d3, d4] => { results := [.lit (.bool false)], args := [d1, d2, d3, d4] }
  | _ => none }
def CrateSumsWrongFalsely : Prop := crateSumsRow.holds Try.pinned (OpenSpec.ofChange crateSumsWrong)

/-- 'gangerlaw17.CrateApart': WHATEVER THE INPUT: true; the input reads as it did. -/
def crateApartSpec : ChangeSpec := { name := "crateApart", fn := fun _ => fun
  | [d1, d2, d3] => { results := [.lit (.bool true)], args := [d1, d2, d3] }
  | _ => none }
def crateApartRow : OpenClaim := { program := "ytahaoakolgomdaa", sum := "f23a6455c0855b21f9756a2b89a7168bf7db865dc352947b9c4c2c76930ff4be", func := "ganger/gangerlaw17.CrateApart", spec := "crateApart", apart := false }
def CrateApartSaid : Prop := crateApartRow.holds Try.pinned (OpenSpec.ofChange crateApartSpec)

/-- ITS FALSE NEIGHBOUR: 'it returns false'. Refute it at one input. -/
def crateApartWrong : ChangeSpec := { name := "crateApart", fn := fun _ => fun
  | [d1, d2, d3] => { results := [.lit (.bool false)], args := [d1, d2, d3] }
  | _ => none }
def CrateApartWrongFalsely : Prop := crateApartRow.holds Try.pinned (OpenSpec.ofChange crateApartWrong)

/-- 'gangerlaw18.SpoolOff': WHATEVER THE INPUT: true; the input reads as it did. -/
def spoolOffSpec : ChangeSpec := { name := "spoolOff", fn := fun _ => fun
  | [d1, d2] => { results := [.lit (.bool true)], args := [d1, d2] }
  | _ => none }
def spoolOffRow : OpenClaim := { program := "ytahaoakolgomdaa", sum := "f23a6455c0855b21f9756a2b89a7168bf7db865dc352947b9c4c2c76930ff4be", func := "ganger/gangerlaw18.SpoolOff", spec := "spoolOff", apart := false }
def SpoolOffSaid : Prop := spoolOffRow.holds Try.pinned (OpenSpec.ofChange spoolOffSpec)

/-- ITS FALSE NEIGHBOUR: 'it returns false'. Refute it at one input. -/
def spoolOffWrong : ChangeSpec := { name := "spoolOff", fn := fun _ => fun
  | [d1, d2] => { results := [.lit (.bool false)], args := [d1, d2] }
  | _ => none }
def SpoolOffWrongFalsely : Prop := spoolOffRow.holds Try.pinned (OpenSpec.ofChange spoolOffWrong)

/-- 'gangerlaw18.SpoolSure': WHATEVER THE INPUT: true; the input reads as it did. -/
def spoolSureSpec : ChangeSpec := { name := "spoolSure", fn := fun _ => fun
  | [d1, d2, d3] => { results := [.lit (.bool true)], args := [d1, d2, d3] }
  | _ => none }
def spoolSureRow : OpenClaim := { program := "ytahaoakolgomdaa", sum := "f23a6455c0855b21f9756a2b89a7168bf7db865dc352947b9c4c2c76930ff4be", func := "ganger/gangerlaw18.SpoolSure", spec := "spoolSure", apart := false }
def SpoolSureSaid : Prop := spoolSureRow.holds Try.pinned (OpenSpec.ofChange spoolSureSpec)

/-- ITS FALSE NEIGHBOUR: 'it returns false'. Refute it at one input. -/
def spoolSureWrong : ChangeSpec := { name := "spoolSure", fn := fun _ => fun
  | [d1, d2, d3] => { results := [.lit (.bool false)], args := [d1, d2, d3] }
  | _ => none }
def SpoolSureWrongFalsely : Prop := spoolSureRow.holds Try.pinned (OpenSpec.ofChange spoolSureWrong)

/-- 'gangerlaw18.SpoolPlays': WHATEVER THE INPUT: true; the input reads as it did. -/
def spoolPlaysSpec : ChangeSpec := { name := "spoolPlays", fn := fun _ => fun
  | [d1, d2] => { results := [.lit (.bool true)], args := [d1, d2] }
  | _ => none }
def spoolPlaysRow : OpenClaim := { program := "ytahaoakolgomdaa", sum := "f23a6455c0855b21f9756a2b89a7168bf7db865dc352947b9c4c2c76930ff4be", func := "ganger/gangerlaw18.SpoolPlays", spec := "spoolPlays", apart := false }
def SpoolPlaysSaid : Prop := spoolPlaysRow.holds Try.pinned (OpenSpec.ofChange spoolPlaysSpec)

/-- ITS FALSE NEIGHBOUR: 'it returns false'. Refute it at one input. -/
def spoolPlaysWrong : ChangeSpec := { name := "spoolPlays", fn := fun _ => fun
  | [d1, d2] => { results := [.lit (.bool false)], args := [d1, d2] }
  | _ => none }
def SpoolPlaysWrongFalsely : Prop := spoolPlaysRow.holds Try.pinned (OpenSpec.ofChange spoolPlaysWrong)

/-- 'gangerlaw18.SpoolRoom': WHATEVER THE INPUT: true; the input reads as it did. -/
def spoolRoomSpec : ChangeSpec := { name := "spoolRoom", fn := fun _ => fun
  | [d1, d2, d3] => { results := [.lit (.bool true)], args := [d1, d2, d3] }
  | _ => none }
def spoolRoomRow : OpenClaim := { program := "ytahaoakolgomdaa", sum := "f23a6455c0855b21f9756a2b89a7168bf7db865dc352947b9c4c2c76930ff4be", func := "ganger/gangerlaw18.SpoolRoom", spec := "spoolRoom", apart := false }
def SpoolRoomSaid : Prop := spoolRoomRow.holds Try.pinned (OpenSpec.ofChange spoolRoomSpec)

/-- ITS FALSE NEIGHBOUR: 'it returns false'. Refute it at one input. -/
def spoolRoomWrong : ChangeSpec := { name := "spoolRoom", fn := fun _ => fun
  | [d1, d2, d3] => { results := [.lit (.bool false)], args := [d1, d2, d3] }
  | _ => none }
def SpoolRoomWrongFalsely : Prop := spoolRoomRow.holds Try.pinned (OpenSpec.ofChange spoolRoomWrong)

/-- 'gangerlaw18.SpoolNil': WHATEVER THE INPUT: true; the input reads as it did. -/
def spoolNilSpec : ChangeSpec := { name := "spoolNil", fn := fun _ => fun
  | [d1, d2, d3] => { results := [.lit (.bool true)], args := [d1, d2, d3] }
  | _ => none }
def spoolNilRow : OpenClaim := { program := "ytahaoakolgomdaa", sum := "f23a6455c0855b21f9756a2b89a7168bf7db865dc352947b9c4c2c76930ff4be", func := "ganger/gangerlaw18.SpoolNil", spec := "spoolNil", apart := false }
def SpoolNilSaid : Prop := spoolNilRow.holds Try.pinned (OpenSpec.ofChange spoolNilSpec)

/-- ITS FALSE NEIGHBOUR: 'it returns false'. Refute it at one input. -/
def spoolNilWrong : ChangeSpec := { name := "spoolNil", fn := fun _ => fun
  | [d1, d2, d3] => { results := [.lit (.bool false)], args := [d1, d2, d3] }
  | _ => none }
def SpoolNilWrongFalsely : Prop := spoolNilRow.holds Try.pinned (OpenSpec.ofChange spoolNilWrong)

/-- 'gangerlaw19.TapeSafe': WHATEVER THE INPUT: true; the input reads as it did. -/
def tapeSafeSpec : ChangeSpec := { name := "tapeSafe", fn := fun _ => fun
  | [d1, d2, d3] => { results := [.lit (.bool true)], args := [d1, d2, d3] }
  | _ => none }
def tapeSafeRow : OpenClaim := { program := "ytahaoakolgomdaa", sum := "f23a6455c0855b21f9756a2b89a7168bf7db865dc352947b9c4c2c76930ff4be", func := "ganger/gangerlaw19.TapeSafe", spec := "tapeSafe", unfollowed := true, recurses := true, apart := false }
def TapeSafeSaid : Prop := tapeSafeRow.holds Try.pinned (OpenSpec.ofChange tapeSafeSpec)

/-- ITS FALSE NEIGHBOUR: 'it returns false'. Refute it at one input. -/
def tapeSafeWrong : ChangeSpec := { name := "tapeSafe", fn := fun _ => fun
  | [d1, d2, d3] => { results := [.lit (.bool false)], args := [d1, d2, d3] }
  | _ => none }
def TapeSafeWrongFalsely : Prop := tapeSafeRow.holds Try.pinned (OpenSpec.ofChange tapeSafeWrong)

/-- 'gangerlaw19.TapeFull': WHATEVER THE INPUT: true; the input reads as it did. -/
def tapeFullSpec : ChangeSpec := { name := "tapeFull", fn := fun _ => fun
  | [d1, d2] => { results := [.lit (.bool true)], args := [d1, d2] }
  | _ => none }
def tapeFullRow : OpenClaim := { program := "ytahaoakolgomdaa", sum := "f23a6455c0855b21f9756a2b89a7168bf7db865dc352947b9c4c2c76930ff4be", func := "ganger/gangerlaw19.TapeFull", spec := "tapeFull", unfollowed := true, recurses := true, apart := false }
def TapeFullSaid : Prop := tapeFullRow.holds Try.pinned (OpenSpec.ofChange tapeFullSpec)

/-- ITS FALSE NEIGHBOUR: 'it returns false'. Refute it at one input. -/
def tapeFullWrong : ChangeSpec := { name := "tapeFull", fn := fun _ => fun
  | [d1, d2] => { results := [.lit (.bool false)], args := [d1, d2] }
  | _ => none }
def TapeFullWrongFalsely : Prop := tapeFullRow.holds Try.pinned (OpenSpec.ofChange tapeFullWrong)

/-- 'gangerlaw19.TapePlays': WHATEVER THE INPUT: true; the input reads as it did. -/
def tapePlaysSpec : ChangeSpec := { name := "tapePlays", fn := fun _ => fun
  | [d1, d2] => { results := [.lit (.bool true)], args := [d1, d2] }
  | _ => none }
def tapePlaysRow : OpenClaim := { program := "ytahaoakolgomdaa", sum := "f23a6455c0855b21f9756a2b89a7168bf7db865dc352947b9c4c2c76930ff4be", func := "ganger/gangerlaw19.TapePlays", spec := "tapePlays", unfollowed := true, recurses := true, apart := false }
def TapePlaysSaid : Prop := tapePlaysRow.holds Try.pinned (OpenSpec.ofChange tapePlaysSpec)

/-- ITS FALSE NEIGHBOUR: 'it returns false'. Refute it at one input. -/
def tapePlaysWrong : ChangeSpec := { name := "tapePlays", fn := fun _ => fun
  | [d1, d2] => { results := [.lit (.bool false)], args := [d1, d2] }
  | _ => none }
def TapePlaysWrongFalsely : Prop := tapePlaysRow.holds Try.pinned (OpenSpec.ofChange tapePlaysWrong)

/-- 'gangerlaw19.TapePacks': WHATEVER THE INPUT: true; the input reads as it did. -/
def tapePacksSpec : ChangeSpec := { name := "tapePacks", fn := fun _ => fun
  | [d1, d2, d3] => { results := [.lit (.bool true)], args := [d1, d2, d3] }
  | _ => none }
def tapePacksRow : OpenClaim := { program := "ytahaoakolgomdaa", sum := "f23a6455c0855b21f9756a2b89a7168bf7db865dc352947b9c4c2c76930ff4be", func := "ganger/gangerlaw19.TapePacks", spec := "tapePacks", unfollowed := true, recurses := true, apart := false }
def TapePacksSaid : Prop := tapePacksRow.holds Try.pinned (OpenSpec.ofChange tapePacksSpec)

/-- ITS FALSE NEIGHBOUR: 'it returns false'. Refute it at one input. -/
def tapePacksWrong : ChangeSpec := { name := "tapePacks", fn := fun _ => fun
  | [d1, d2, d3] => { results := [.lit (.bool false)], args := [d1, d2, d3] }
  | _ => none }
def TapePacksWrongFalsely : Prop := tapePacksRow.holds Try.pinned (OpenSpec.ofChange tapePacksWrong)

/-- 'gangerlaw19.TapeNil': WHATEVER THE INPUT: true; the input reads as it did. -/
def tapeNilSpec : ChangeSpec := { name := "tapeNil", fn := fun _ => fun
  | [d] => { results := [.lit (.bool true)], args := [d] }
  | _ => none }
def tapeNilRow : OpenClaim := { program := "ytahaoakolgomdaa", sum := "f23a6455c0855b21f9756a2b89a7168bf7db865dc352947b9c4c2c76930ff4be", func := "ganger/gangerlaw19.TapeNil", spec := "tapeNil", unfollowed := true, recurses := true, apart := false }
def TapeNilSaid : Prop := tapeNilRow.holds Try.pinned (OpenSpec.ofChange tapeNilSpec)

/-- ITS FALSE NEIGHBOUR: 'it returns false'. Refute it at one input. -/
def tapeNilWrong : ChangeSpec := { name := "tapeNil", fn := fun _ => fun
  | [d] => { results := [.lit (.bool false)], args := [d] }
  | _ => none }
def TapeNilWrongFalsely : Prop := tapeNilRow.holds Try.pinned (OpenSpec.ofChange tapeNilWrong)

/- THE SECOND FORM. 'bulk': how many values and letters a reading holds, each counted each time it is reached (what is shared counts as often as it is met; a slice's spare places count too). A statement '..UptoSaid' is the law's where the arguments, and the package variables that the reading takes, are together of bulk at most 1048576: NARROWER than '..Said'. Prove '..Said' where nothing that the law and all that it calls make is longer than what came in: it says more and counts as full. Else prove '..UptoSaid'. A law counts once. -/
mutual
def uptoBulk {H : Type} : DataW H → Nat
  | .lit (.string bytes) => bytes.length + 1
  | .lit _ => 1
  | .nil => 1
  | .ptr d => uptoBulk d + 1
  | .slice elems spare => uptoBulkAll elems + uptoBulkAll spare + 1
  | .agg parts => uptoBulkAll parts + 1
  | .iface _ d => uptoBulk d + 1
  | .map entries => uptoBulkEntries entries + 1
  | .held _ => 1
def uptoBulkAll {H : Type} : List (DataW H) → Nat
  | [] => 0
  | d :: r => uptoBulk d + uptoBulkAll r
def uptoBulkEntries {H : Type} : List (Lit × DataW H) → Nat
  | [] => 0
  | x :: r => uptoBulkEntry x + uptoBulkEntries r
def uptoBulkEntry {H : Type} : Lit × DataW H → Nat
  | (.string bytes, d) => bytes.length + uptoBulk d + 1
  | (_, d) => uptoBulk d + 1
 end
def uptoSmall : (H : Type) → List (DataW H) → Bool := fun _ ds => decide (uptoBulkAll ds ≤ 1048576)
def OpenSpec.upto (s : _root_.Go.ChangeSpec) : _root_.Go.OpenSpec := { _root_.Go.OpenSpec.ofChange s with cond := some uptoSmall }

/-- 'gangerlaw17.CratePuts', WHERE WHAT IT READS IS OF BULK AT MOST 1048576: true; the input reads as it did. -/
def cratePutsUptoRow : OpenClaim := { program := "ytahaoakolgomdaa", sum := "f23a6455c0855b21f9756a2b89a7168bf7db865dc352947b9c4c2c76930ff4be", func := "ganger/gangerlaw17.CratePuts", spec := "cratePuts", apart := false, narrowed := true }
def CratePutsUptoSaid : Prop := cratePutsUptoRow.holds Try.pinned (OpenSpec.upto cratePutsSpec)

/-- 'gangerlaw17.CrateGets', WHERE WHAT IT READS IS OF BULK AT MOST 1048576: true; the input reads as it did. -/
def crateGetsUptoRow : OpenClaim := { program := "ytahaoakolgomdaa", sum := "f23a6455c0855b21f9756a2b89a7168bf7db865dc352947b9c4c2c76930ff4be", func := "ganger/gangerlaw17.CrateGets", spec := "crateGets", apart := false, narrowed := true }
def CrateGetsUptoSaid : Prop := crateGetsUptoRow.holds Try.pinned (OpenSpec.upto crateGetsSpec)

/-- 'gangerlaw17.CrateBack', WHERE WHAT IT READS IS OF BULK AT MOST 1048576: true; the input reads as it did. -/
def crateBackUptoRow : OpenClaim := { program := "ytahaoakolgomdaa", sum := "f23a6455c0855b21f9756a2b89a7168bf7db865dc352947b9c4c2c76930ff4be", func := "ganger/gangerlaw17.CrateBack", spec := "crateBack", apart := false, narrowed := true }
def CrateBackUptoSaid : Prop := crateBackUptoRow.holds Try.pinned (OpenSpec.upto crateBackSpec)

/-- 'gangerlaw17.CrateTurned', WHERE WHAT IT READS IS OF BULK AT MOST 1048576: true; the input reads as it did. -/
def crateTurnedUptoRow : OpenClaim := { program := "ytahaoakolgomdaa", sum := "f23a6455c0855b21f9756a2b89a7168bf7db865dc352947b9c4c2c76930ff4be", func := "ganger/gangerlaw17.CrateTurned", spec := "crateTurned", apart := false, narrowed := true }
def CrateTurnedUptoSaid : Prop := crateTurnedUptoRow.holds Try.pinned (OpenSpec.upto crateTurnedSpec)

/-- 'gangerlaw17.CrateSums', WHERE WHAT IT READS IS OF BULK AT MOST 1048576: true; the input reads as it did. -/
def crateSumsUptoRow : OpenClaim := { program := "ytahaoakolgomdaa", sum := "f23a6455c0855b21f9756a2b89a7168bf7db865dc352947b9c4c2c76930ff4be", func := "ganger/gangerlaw17.CrateSums", spec := "crateSums", apart := false, narrowed := true }
def CrateSumsUptoSaid : Prop := crateSumsUptoRow.holds Try.pinned (OpenSpec.upto crateSumsSpec)

/-- 'gangerlaw17.CrateApart', WHERE WHAT IT READS IS OF BULK AT MOST 1048576: true; the input reads as it did. -/
def crateApartUptoRow : OpenClaim := { program := "ytahaoakolgomdaa", sum := "f23a6455c0855b21f9756a2b89a7168bf7db865dc352947b9c4c2c76930ff4be", func := "ganger/gangerlaw17.CrateApart", spec := "crateApart", apart := false, narrowed := true }
def CrateApartUptoSaid : Prop := crateApartUptoRow.holds Try.pinned (OpenSpec.upto crateApartSpec)

/-- 'gangerlaw18.SpoolOff', WHERE WHAT IT READS IS OF BULK AT MOST 1048576: true; the input reads as it did. -/
def spoolOffUptoRow : OpenClaim := { program := "ytahaoakolgomdaa", sum := "f23a6455c0855b21f9756a2b89a7168bf7db865dc352947b9c4c2c76930ff4be", func := "ganger/gangerlaw18.SpoolOff", spec := "spoolOff", apart := false, narrowed := true }
def SpoolOffUptoSaid : Prop := spoolOffUptoRow.holds Try.pinned (OpenSpec.upto spoolOffSpec)

/-- 'gangerlaw18.SpoolSure', WHERE WHAT IT READS IS OF BULK AT MOST 1048576: true; the input reads as it did. -/
def spoolSureUptoRow : OpenClaim := { program := "ytahaoakolgomdaa", sum := "f23a6455c0855b21f9756a2b89a7168bf7db865dc352947b9c4c2c76930ff4be", func := "ganger/gangerlaw18.SpoolSure", spec := "spoolSure", apart := false, narrowed := true }
def SpoolSureUptoSaid : Prop := spoolSureUptoRow.holds Try.pinned (OpenSpec.upto spoolSureSpec)

/-- 'gangerlaw18.SpoolPlays', WHERE WHAT IT READS IS OF BULK AT MOST 1048576: true; the input reads as it did. -/
def spoolPlaysUptoRow : OpenClaim := { program := "ytahaoakolgomdaa", sum := "f23a6455c0855b21f9756a2b89a7168bf7db865dc352947b9c4c2c76930ff4be", func := "ganger/gangerlaw18.SpoolPlays", spec := "spoolPlays", apart := false, narrowed := true }
def SpoolPlaysUptoSaid : Prop := spoolPlaysUptoRow.holds Try.pinned (OpenSpec.upto spoolPlaysSpec)

/-- 'gangerlaw18.SpoolRoom', WHERE WHAT IT READS IS OF BULK AT MOST 1048576: true; the input reads as it did. -/
def spoolRoomUptoRow : OpenClaim := { program := "ytahaoakolgomdaa", sum := "f23a6455c0855b21f9756a2b89a7168bf7db865dc352947b9c4c2c76930ff4be", func := "ganger/gangerlaw18.SpoolRoom", spec := "spoolRoom", apart := false, narrowed := true }
def SpoolRoomUptoSaid : Prop := spoolRoomUptoRow.holds Try.pinned (OpenSpec.upto spoolRoomSpec)

/-- 'gangerlaw18.SpoolNil', WHERE WHAT IT READS IS OF BULK AT MOST 1048576: true; the input reads as it did. -/
def spoolNilUptoRow : OpenClaim := { program := "ytahaoakolgomdaa", sum := "f23a6455c0855b21f9756a2b89a7168bf7db865dc352947b9c4c2c76930ff4be", func := "ganger/gangerlaw18.SpoolNil", spec := "spoolNil", apart := false, narrowed := true }
def SpoolNilUptoSaid : Prop := spoolNilUptoRow.holds Try.pinned (OpenSpec.upto spoolNilSpec)

/-- 'gangerlaw19.TapeSafe', WHERE WHAT IT READS IS OF BULK AT MOST 1048576: true; the input reads as it did. -/
def tapeSafeUptoRow : OpenClaim := { program := "ytahaoakolgomdaa", sum := "f23a6455c0855b21f9756a2b89a7168bf7db865dc352947b9c4c2c76930ff4be", func := "ganger/gangerlaw19.TapeSafe", spec := "tapeSafe", unfollowed := true, recurses := true, apart := false, narrowed := true }
def TapeSafeUptoSaid : Prop := tapeSafeUptoRow.holds Try.pinned (OpenSpec.upto tapeSafeSpec)

/-- 'gangerlaw19.TapeFull', WHERE WHAT IT READS IS OF BULK AT MOST 1048576: true; the input reads as it did. -/
def tapeFullUptoRow : OpenClaim := { program := "ytahaoakolgomdaa", sum := "f23a6455c0855b21f9756a2b89a7168bf7db865dc352947b9c4c2c76930ff4be", func := "ganger/gangerlaw19.TapeFull", spec := "tapeFull", unfollowed := true, recurses := true, apart := false, narrowed := true }
def TapeFullUptoSaid : Prop := tapeFullUptoRow.holds Try.pinned (OpenSpec.upto tapeFullSpec)

/-- 'gangerlaw19.TapePlays', WHERE WHAT IT READS IS OF BULK AT MOST 1048576: true; the input reads as it did. -/
def tapePlaysUptoRow : OpenClaim := { program := "ytahaoakolgomdaa", sum := "f23a6455c0855b21f9756a2b89a7168bf7db865dc352947b9c4c2c76930ff4be", func := "ganger/gangerlaw19.TapePlays", spec := "tapePlays", unfollowed := true, recurses := true, apart := false, narrowed := true }
def TapePlaysUptoSaid : Prop := tapePlaysUptoRow.holds Try.pinned (OpenSpec.upto tapePlaysSpec)

/-- 'gangerlaw19.TapePacks', WHERE WHAT IT READS IS OF BULK AT MOST 1048576: true; the input reads as it did. -/
def tapePacksUptoRow : OpenClaim := { program := "ytahaoakolgomdaa", sum := "f23a6455c0855b21f9756a2b89a7168bf7db865dc352947b9c4c2c76930ff4be", func := "ganger/gangerlaw19.TapePacks", spec := "tapePacks", unfollowed := true, recurses := true, apart := false, narrowed := true }
def TapePacksUptoSaid : Prop := tapePacksUptoRow.holds Try.pinned (OpenSpec.upto tapePacksSpec)

/-- 'gangerlaw19.TapeNil', WHERE WHAT IT READS IS OF BULK AT MOST 1048576: true; the input reads as it did. -/
def tapeNilUptoRow : OpenClaim := { program := "ytahaoakolgomdaa", sum := "f23a6455c0855b21f9756a2b89a7168bf7db865dc352947b9c4c2c76930ff4be", func := "ganger/gangerlaw19.TapeNil", spec := "tapeNil", unfollowed := true, recurses := true, apart := false, narrowed := true }
def TapeNilUptoSaid : Prop := tapeNilUptoRow.holds Try.pinned (OpenSpec.upto tapeNilSpec)

end Rows
end Go.Proofs.Ytahaoakolgomdaa
