/- Walks: fit.Place; PlaceError, PlaceOf (of the reference). -/
import Derived.Test.YtibpmogmeoappacGreatJFitC
import Derived.Test.YtibpmogmeoappacGreatJPlnH
namespace Go.Proofs.YtibpmogmeoappacGreat
open Go.RowKit

end Go.Proofs.YtibpmogmeoappacGreat
