/- Walks: passError, the class 'two'. (Printed by gen_passerr.py.) -/
import Derived.Test.YtibpmogmeoappacGreatJFrmA
namespace Go.Proofs.YtibpmogmeoappacGreat
open Go.RowKit

end Go.Proofs.YtibpmogmeoappacGreat
