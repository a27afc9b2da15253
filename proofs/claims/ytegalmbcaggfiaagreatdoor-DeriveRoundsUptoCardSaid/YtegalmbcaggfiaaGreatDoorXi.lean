/- The law DeriveRoundsUptoCardSaid: part 9 of 14 of the proof. No condition. -/
import Derived.Test.YtegalmbcaggfiaaGreatDoorXh
set_option maxRecDepth 100000
open Bool renaming false->ab
namespace Go
namespace AM
open Go.Law Go.Proofs
theorem aqB:PR C 18 [.agg (cP ab ab pC),eS ab (cF ab) hF,.agg (cF ab (hE 1 [97] [99]))] (.aB [.sl ab [[I 0,I 0,I 0],[I 1,I 0,I 0],[I 2,I 0,I 0],[I 2,I 1,I 0],[I 2,I 2,I 0],[I 4,I 2,I 4],[I 4,I 2,I 3],[I 4,I 2,I 6],[I 3,I 2,I 7]],I 5,I 0]):=AL (.cons I0 (.cons OC (.cons OD .nil))) (by kernel_rfl)
end AM
end Go
