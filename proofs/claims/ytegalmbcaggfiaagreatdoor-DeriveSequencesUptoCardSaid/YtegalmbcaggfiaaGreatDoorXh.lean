/- The law DeriveSequencesUptoCardSaid: part 8 of 14 of the proof. No condition. -/
import Derived.Test.YtegalmbcaggfiaaGreatDoorXg
set_option maxRecDepth 100000
open Bool renaming false->ab
namespace Go
namespace AM
open Go.Law Go.Proofs
def aax:List l2:=[([fK [97],fK [97],fK [98]],[]),([fK [97],fK [98],fK [97]],[]),([fK [97],fK [98],fK [99]],[]),([fK [98],fK [97],fK [98]],[]),([fK [98],fK [98],fK [97]],[]),([fK [98],fK [98],fK [99]],[])]
theorem Oi:PR C 107 [.agg (cP ab ab pC),eS ab (cF ab) (hB++q3),.agg (aS ab hV)] (.aB [eS ab EB aax,eS ab EC aax]):=Ay .nil (by kernel_rfl)
end AM
end Go
