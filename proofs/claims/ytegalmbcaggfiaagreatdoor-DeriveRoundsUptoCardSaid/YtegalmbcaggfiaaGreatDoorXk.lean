/- The law DeriveRoundsUptoCardSaid: part 11 of 14 of the proof. No condition. -/
import Derived.Test.YtegalmbcaggfiaaGreatDoorXj
set_option maxRecDepth 100000
open Bool renaming false->ab
namespace Go
namespace AM
open Go.Law Go.Proofs
theorem aqD:PR C 18 [.agg (cP ab ab pC),eS ab (cF ab) hF,.agg (cF ab (hE 1 [99] [97]))] (.aB [.sl ab [[I 0,I 0,I 0],[I 1,I 0,I 0]],I 0,I 0]):=AL (.cons I0 (.cons OC (.cons OD .nil))) (by kernel_rfl)
end AM
end Go
