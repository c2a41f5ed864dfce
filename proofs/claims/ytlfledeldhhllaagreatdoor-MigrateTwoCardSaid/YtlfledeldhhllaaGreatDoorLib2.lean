/- ONE FRAME BEHIND ALL WAYS THROUGH A PIECE OF CODE, in the form that a region with guards takes too. No condition. -/
import Derived.Test.YtlfledeldhhllaaGreatDoorLib
namespace Go.Proofs.YtlfledeldhhllaaGreatDoor
open Go Go.RowKit
/-- The piece ends normally, in this frame, in such a world. -/
def SameAt (A : Act) (Wp : World → Prop) : Exit → Act → World → Prop
  | .normal, a, w => a = A ∧ Wp w
  | _, _, _ => False
theorem sameAt {A : Act} {Wp : World → Prop} {w : World} (h : Wp w) : SameAt A Wp .normal A w := ⟨rfl, h⟩
variable {F : Fence} {n : Nat} {P : Program}
theorem wpIn_one {c : Code} {Q : Exit → Act → World → Prop} {a A : Act} {w : World} {Wp : World → Prop} (h : c.wpIn F n P (SameAt A Wp) a w) (h2 : ∀ w', Wp w' → Q .normal A w') : c.wpIn F n P Q a w :=
  wpIn_mono h (fun e a' w' hs => by
    cases e with
    | normal => obtain ⟨rfl, hw⟩ := hs; exact h2 w' hw
    | _ => exact hs.elim)
theorem wp_one {c : Code} {Q : Exit → Act → World → Prop} {a A : Act} {w : World} {Wp : World → Prop} (h : c.wp P (SameAt A Wp) a w) (h2 : ∀ w', Wp w' → Q .normal A w') : c.wp P Q a w :=
  wp_mono h (fun e a' w' hs => by
    cases e with
    | normal => obtain ⟨rfl, hw⟩ := hs; exact h2 w' hw
    | _ => exact hs.elim)
end Go.Proofs.YtlfledeldhhllaaGreatDoor
