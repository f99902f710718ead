/- Walks: the references of One: OneSize, OneOf. (The six cases are printed by gen_oneof.py.) -/
import Derived.Test.YtibpmogmeoappacGreatJImgA
namespace Go.Proofs.YtibpmogmeoappacGreat
open Go.RowKit

end Go.Proofs.YtibpmogmeoappacGreat
