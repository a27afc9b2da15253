/- The law DeriveRoundsUptoCardSaid: part 12 of 14 of the proof. No condition. -/
import Derived.Test.YtegalmbcaggfiaaGreatDoorXk
set_option maxRecDepth 100000
open Bool renaming false->ab
namespace Go
namespace AM
open Go.Law Go.Proofs
theorem q7:PR C 7 [.agg (cP ab ab pC),eS ab (cF ab) hF] (.aB [eS ab (cF ab) (hF++rb),eS ab cI [0,0,0,2,1,2,1,2,1],I 0]):=AL (.cons I0 (.cons aqx (.cons aqy (.cons aqz .nil)))) (by kernel_rfl)
end AM
end Go
