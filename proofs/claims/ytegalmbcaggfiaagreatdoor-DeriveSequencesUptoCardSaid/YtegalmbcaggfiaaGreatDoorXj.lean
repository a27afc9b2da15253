/- The law DeriveSequencesUptoCardSaid: part 10 of 14 of the proof. No condition. -/
import Derived.Test.YtegalmbcaggfiaaGreatDoorXi
set_option maxRecDepth 100000
open Bool renaming false->ab
namespace Go
namespace AM
open Go.Law Go.Proofs
theorem aqs:PR C 18 [.agg (cP ab ab pC),eS ab (cF ab) hB,.agg (cF ab (hz 1 [97] [97]))] (.aB [.sl ab [[I 0,I 0,I 0],[I 1,I 0,I 0],[I 2,I 0,I 0],[I 2,I 1,I 0],[I 2,I 2,I 0],[I 4,I 2,I 3]],I 5,I 0]):=Ay (.cons IN (.cons Oh (.cons Oi .nil))) (by kernel_rfl)
end AM
end Go
