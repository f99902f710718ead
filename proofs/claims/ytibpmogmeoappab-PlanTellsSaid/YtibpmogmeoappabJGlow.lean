/- glow: a frame of five passes. -/
import Derived.Test.YtibpmogmeoappabJFrmM
import Derived.Test.YtibpmogmeoappabJFrmN
import Derived.Test.YtibpmogmeoappabJFrmU
namespace Go.Proofs.Ytibpmogmeoappab
open Go.RowKit

end Go.Proofs.Ytibpmogmeoappab
