/- The law DeriveRoundsUptoCardSaid: part 8 of 14 of the proof. No condition. -/
import Derived.Test.YtegalmbcaggfiaaGreatDoorXg
set_option maxRecDepth 100000
open Bool renaming false->ab
namespace Go
namespace AM
open Go.Law Go.Proofs
def aaE:List l3:=[([fN [97],fN [97],fN [98]],[]),([fN [97],fN [98],fN [97]],[]),([fN [97],fN [98],fN [99]],[]),([fN [98],fN [97],fN [98]],[]),([fN [98],fN [98],fN [97]],[]),([fN [98],fN [98],fN [99]],[])]
theorem OD:PR C 107 [.agg (cP ab ab pC),eS ab (cF ab) (hF++rb),.agg (aS ab hX)] (.aB [eS ab EK aaE,eS ab EL aaE]):=AL .nil (by kernel_rfl)
end AM
end Go
