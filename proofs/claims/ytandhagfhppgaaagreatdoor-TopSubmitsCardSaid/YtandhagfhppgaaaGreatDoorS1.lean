/- Part 1 of a proof: contracts of the functions that the law reaches. No condition. -/
import Derived.ArgAppend
import Derived.Below
import Derived.BigQuiet
import Derived.ChangeMaps5
import Derived.Deep.AppendLies
import Derived.Deep.AppendSrc
import Derived.Deep.CutBlock
import Derived.Deep.DeepCutAuto
import Derived.Deep.Draws
import Derived.Deep.LoopGhost
import Derived.Deep.MidRow
import Derived.Deep.OwnRows
import Derived.Deep.Quiet
import Derived.Deep.QuietTactic
import Derived.Deep.RegionHeld3
import Derived.Deep.RegionLaw
import Derived.Deep.Strs
import Derived.Deep.WholeRow
import Derived.Great.BuildSlice
import Derived.Great.Walk
import Derived.HandedShaped
import Derived.JoinedOf
import Derived.KernelRfl
import Derived.LaidMore
import Derived.Laws.BitsLemmas
import Derived.Laws.BytesArg
import Derived.Laws.CopyOwn
import Derived.Laws.IdiomCopy
import Derived.Laws.MakeOwn
import Derived.Laws.NewBlocks
import Derived.Laws.OwnMore
import Derived.Laws.ResultCell
import Derived.Laws.Rows
import Derived.Laws.Slices
import Derived.Lay
import Derived.Lib.AppendStr
import Derived.Lib.AppendZerosOnto
import Derived.Lib.ConvBytes
import Derived.Lib.CutLaws
import Derived.Lib.Hide
import Derived.Lib.ItoaLen
import Derived.Lib.ItoaNum
import Derived.Lib.Join
import Derived.Lib.JoinLaws
import Derived.Lib.LaidTab
import Derived.Lib.LaidU8
import Derived.Lib.Overlaps
import Derived.Lib.RowBridge
import Derived.Lib.SlBytesConst
import Derived.Lib.SliceRun
import Derived.MapKept
import Derived.Maps.AppendAt
import Derived.OpenShut
import Derived.OrdersHeld
import Derived.Outline
import Derived.OwnWalk
import Derived.ProofKit
import Derived.RowKit
import Derived.RowKit3
import Derived.SevenTiedAt
import Derived.Shelf.Vars
import Derived.StillTail
import Derived.StillTailTactics
import Derived.Stop.Joined
import Derived.Tactics
import Derived.WalkKit
import Derived.WideLaws
import Derived.Test.YtandhagfhppgaaaGreatDoorRows
set_option linter.all false
set_option maxRecDepth 100000
set_option maxHeartbeats 16000000
namespace Go.Proofs.YtandhagfhppgaaaGreatDoor
section
theorem Vh:(Rows.topSubmitsRow.plainKeys==Tryz.prog.plainKeys)=true:=by kernel_rfl
theorem Vj:(Rows.topSubmitsRow.inPlace==Tryz.prog.inPlace 4)=true:=by kernel_rfl
end
end Go.Proofs.YtandhagfhppgaaaGreatDoor
