/- CrcTables: each of the table's numbers is what the reference says, and a table that is turned is its own no more, for every input (all is in the walk: nothing is left to say here). -/
import Derived.Test.YtdmlkjenopmdlaaPCrcTablesx1
namespace Go.Proofs.Ytdmlkjenopmdlaa.Pure
open Go.Proofs.Ytdmlkjenopmdlaa.PCrcTables
theorem CrcTables : bollardlaw03_CrcTables.Pure := trivial
end Go.Proofs.Ytdmlkjenopmdlaa.Pure
