/- Part of the proof of Card. -/
import Derived.Deep.RegionHeld3
import Derived.Deep.DeepCutAuto
import Derived.Deep.LoopGhost
import Derived.Laws.Rows
import Derived.Laws.Tables
import Derived.Laws.CopyOwn
import Derived.Deep.WholeRow
import Derived.RegionTactic
import Derived.ChangeAlike
import Derived.BigRegion
import Derived.BigQuiet
import Derived.Deep.QuietTactic
import Derived.Test.YtakickbnjbedfaaDoorRankScaleP0
import Derived.Test.YtakickbnjbedfaaDoorRankScaleNum
namespace Go.Proofs.YtakickbnjbedfaaDoor.PB
open Go.Proofs.YtakickbnjbedfaaDoor.PA Go.Proofs.YtakickbnjbedfaaDoor.Num
open Go.RowKit Go.Proofs.YtakickbnjbedfaaDoorW.PrintWords Go.Proofs.YtakickbnjbedfaaDoorW.PrintLast Go.Proofs.YtakickbnjbedfaaDoorW.PrintMore
set_option linter.unusedVariables false
set_option linter.unusedSimpArgs false
def Blk (w : World) (b : Nat) (o : Obj) : Prop := w.heap[b]? = some o
theorem hbP {w w1 : World} (hb : Below w.heap.size w w1) : (∀ b o, b < w.heap.size → Blk w1 b o = Blk w b o) ∧ (∀ b, b < w.heap.size → b < w1.heap.size) ∧ (∀ b o, b < w.heap.size → w1.cell? ⟨b, o, none⟩ = w.cell? ⟨b, o, none⟩) :=
  ⟨fun b o h => by unfold Blk; rw [hb.block b h], fun b h => Nat.lt_of_lt_of_le h hb.size, fun b o h => hb.cell (p := ⟨b, o, none⟩) h⟩
theorem lt1 (w : World) (o : Obj) : w.heap.size < (w.alloc o).heap.size := by simp
theorem lt2 (w : World) (o o' : Obj) : w.heap.size < ((w.alloc o).alloc o').heap.size := by simp; omega
theorem hh {a b : Nat} (h : a < b) : a < b ∧ a ≤ b ∧ a ≠ b ∧ b ≠ a ∧ a ≠ b + 1 ∧ b + 1 ≠ a ∧ a < b + 1 := by omega
def cmpI (a b : Int) : Int := if a < b then -1 else if b < a then 1 else 0
end Go.Proofs.YtakickbnjbedfaaDoor.PB
