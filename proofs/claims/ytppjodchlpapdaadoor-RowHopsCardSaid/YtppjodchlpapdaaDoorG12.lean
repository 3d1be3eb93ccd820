/- The law RowHops, as printed, answers true at every hop. Conditions: the numbers are of their kinds. -/
import Derived.Test.YtppjodchlpapdaaDoorG11
import Derived.Test.YtppjodchlpapdaaDoorPBx66
namespace Go.Proofs.YtppjodchlpapdaaDoor.PB
open Go.RowKit Go.Sort Go.Lib Go.Proofs Go.Proofs.YtppjodchlpapdaaDoor Go.Proofs.YtppjodchlpapdaaDoorW.PrintWords
set_option linter.unusedVariables false
set_option linter.unusedSimpArgs false

theorem RowHops_true (a b c d e : Int) (ha : U32 a) (hb : I64 b) (hc : U32 c) (hd : I64 d) (he : I64 e) : interregnumlaw21_RowHops.f 20 a b c d e = some true := by
  unfold interregnumlaw21_RowHops.f
  rw [row_Hop_eq a b c d e ha hb hc hd he]
  simp only [Option.bind_some]
  rw [ReadHop_eq a b c d e ha hb hc hd he, answers_true]
  simp only [Option.bind_some]
  rw [ref_Hop_eq a b c d e ha hb hc hd he]
  simp

end Go.Proofs.YtppjodchlpapdaaDoor.PB
