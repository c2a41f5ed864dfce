/- WORDS for eras in memory. No condition. -/
import Derived.Test.YtlfledeldhhllaaGreatDoorIds1
namespace Go.Proofs.YtlfledeldhhllaaGreatDoor
open Go Go.RowKit
def eraV (e : EraD) : Value := .agg #[.int .u32 e.1, .int .i64 e.2.1, .int .i64 e.2.2]
def eraCells (e : EraD) : List Value := [.int .u32 e.1, .int .i64 e.2.1, .int .i64 e.2.2]
end Go.Proofs.YtlfledeldhhllaaGreatDoor
