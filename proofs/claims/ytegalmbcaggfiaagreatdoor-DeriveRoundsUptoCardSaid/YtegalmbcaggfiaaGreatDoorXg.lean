/- The law DeriveRoundsUptoCardSaid: part 7 of 14 of the proof. No condition. -/
import Derived.Test.YtegalmbcaggfiaaGreatDoorXf
set_option maxRecDepth 100000
open Bool renaming false->ab
namespace Go
namespace AM
open Go.Law Go.Proofs
def aaD:List l3:=[([fN [97],fN [98]],[]),([fN [98],fN [97]],[]),([fN [98],fN [99]],[])]
theorem OC:PR C 107 [.agg (cP ab ab pC),eS ab (cF ab) (hF++rb),.agg (aS ab Cq)] (.aB [eS ab EK aaD,eS ab EL aaD]):=AL .nil (by kernel_rfl)
end AM
end Go
