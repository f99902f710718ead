/- Walks: SourcesOf. -/
import Derived.Test.YtibpmogmeoappacGreatJFrmC
import Derived.Test.YtibpmogmeoappacGreatJMem
import Derived.Deep.DeepCutAuto
namespace Go.Proofs.YtibpmogmeoappacGreat
open Go.RowKit

theorem Tryz.infoRow : (Tryz.prog.info? 25).map (fun i => (i.zero, i.size, i.bytes)) = some (some (.slice none 0 0), 1, 24) := by kernel_rfl
def RetRows (w : World) (L : List (List Int)) (e : Ending) (w' : World) : Prop :=
  ∃ (A : Option Addr) (n c : Nat), e = .returned (.slice A n c) ∧ L.length = n ∧ IntRows w' A L ∧ Below w.heap.size w w'
end Go.Proofs.YtibpmogmeoappacGreat
