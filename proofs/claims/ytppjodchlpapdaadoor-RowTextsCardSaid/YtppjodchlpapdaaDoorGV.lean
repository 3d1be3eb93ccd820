/- What the package-level variables of strconv and bytealg hold stays so wherever old memory stays. No conditions. -/
import Derived.Test.YtppjodchlpapdaaDoorShelf
import Derived.Lib.SmallJoins
import Derived.WalkLawsBesides
namespace Go.Proofs.YtppjodchlpapdaaDoor.PB
open Go.RowKit Go.Proofs
set_option linter.unusedVariables false

def VarsOk (w : World) : Prop :=
  Lib.TabIs Tryd.prog w "internal/strconv.uint64pow10" .u64 Lib.pow10Tab ∧
  (∃ tp p, w.var? Tryd.prog "strconv.ErrSyntax" = some #[.iface tp p]) ∧
  (∃ tp p, w.var? Tryd.prog "strconv.ErrRange" = some #[.iface tp p]) ∧
  (∃ m : Int, w.cell? ⟨0, 0, none⟩ = some (.int .i64 m))

theorem gPow : Tryd.prog.globalNamed "internal/strconv.uint64pow10" = some 3 := by kernel_rfl
theorem gSyn : Tryd.prog.globalNamed "strconv.ErrSyntax" = some 1 := by kernel_rfl
theorem gRng : Tryd.prog.globalNamed "strconv.ErrRange" = some 2 := by kernel_rfl

theorem VarsOk.below {w w1 : World} (h : VarsOk w) (hb : Below w.heap.size w w1) : VarsOk w1 := by
  obtain ⟨h1, ⟨tp, p, h2⟩, ⟨tq, q, h3⟩, m, h4⟩ := h
  exact ⟨Joins.tab_stays gPow h1 hb (Nat.le_refl _), ⟨tp, p, Joins.var_stays gSyn h2 hb (Nat.le_refl _)⟩, ⟨tq, q, Joins.var_stays gRng h3 hb (Nat.le_refl _)⟩, m, by rw [hb.cell (World.block_lt_of_cell? _ _ h4)]; exact h4⟩

end Go.Proofs.YtppjodchlpapdaaDoor.PB
