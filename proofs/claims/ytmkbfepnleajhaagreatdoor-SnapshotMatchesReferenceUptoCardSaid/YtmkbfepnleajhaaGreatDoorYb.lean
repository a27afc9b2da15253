/- SnapshotMatchesReference, 9 of 11 -/
import Derived.Test.YtmkbfepnleajhaaGreatDoorYa
set_option maxRecDepth 100000
open Option renaming some->T
open Bool renaming true->ab,false->aa
namespace Go
namespace AM
open Go.Law Go.Proofs
theorem q17:PR C 17 [.agg (cP aa aa pC),eS aa cI [1],eS aa (cF aa) js] (eS aa (cF aa) [ga 1 [97] [98],ga 1 [98] [97]]):=aol (by kernel_rfl)
theorem q19:PR C 19 [.agg (cP aa aa pC),eS ab (cF aa) gx,.agg (aP aa gL)] (.aE [eS aa J3 qI,eS aa J4 qI]):=aol (by kernel_rfl)
theorem aoU:PR C 23 [.agg (cP aa aa pC),eS ab (cF aa) gx] (tz 1):=aol (by kernel_rfl)
theorem q23:PR C 23 [.agg (cP aa aa pC),eS aa (cF aa) js] (BL (T gx)):=aol (by kernel_rfl)
end AM
end Go
