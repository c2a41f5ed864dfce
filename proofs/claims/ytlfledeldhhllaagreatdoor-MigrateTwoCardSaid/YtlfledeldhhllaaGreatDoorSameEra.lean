/- WALK: the document's Same at rostrum/api.Era. Condition: both slices can be read. -/
import Derived.Test.YtlfledeldhhllaaGreatDoorSame0
import Derived.Test.YtlfledeldhhllaaGreatDoorEp1
namespace Go.Proofs.YtlfledeldhhllaaGreatDoor
open Go Go.RowKit Go.Shelf Go.Extern.Stop Go.Stop Go.Extern
attribute [local go_sem] Oper.semAt_some wide_fn wide_depth

theorem take_eqEra {la lb : List EraD} {k : Nat} {x y : EraD} (h : la.take k = lb.take k) (hx : la[k]? = some x) (hy : lb[k]? = some y) (he : x = y) : la.take (k + 1) = lb.take (k + 1) := by
  rw [List.take_add_one, List.take_add_one, h, hx, hy, he]

end Go.Proofs.YtlfledeldhhllaaGreatDoor
