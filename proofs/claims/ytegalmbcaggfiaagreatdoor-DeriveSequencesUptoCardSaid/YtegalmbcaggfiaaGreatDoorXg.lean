/- The law DeriveSequencesUptoCardSaid: part 7 of 14 of the proof. No condition. -/
import Derived.Test.YtegalmbcaggfiaaGreatDoorXf
set_option maxRecDepth 100000
open Bool renaming false->ab
namespace Go
namespace AM
open Go.Law Go.Proofs
def aaw:List l2:=[([fK [97],fK [98]],[]),([fK [98],fK [97]],[]),([fK [98],fK [99]],[])]
theorem Oh:PR C 107 [.agg (cP ab ab pC),eS ab (cF ab) (hB++q3),.agg (aS ab Cd)] (.aB [eS ab EB aaw,eS ab EC aaw]):=Ay .nil (by kernel_rfl)
end AM
end Go
