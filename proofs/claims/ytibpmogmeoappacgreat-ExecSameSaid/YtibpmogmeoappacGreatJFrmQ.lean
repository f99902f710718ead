/- Walks: Images. -/
import Derived.Test.YtibpmogmeoappacGreatJFrmO
import Derived.Test.YtibpmogmeoappacGreatJFrmN
import Derived.Test.YtibpmogmeoappacGreatJMem
namespace Go.Proofs.YtibpmogmeoappacGreat
open Go.RowKit

/-- images that pass k takes -/
def takes (f : Frm) (k : Nat) : List Img := (srcs f k).map (imgOf (frImgs f k))
/-- a slice of images, whose numbers lie in blocks from B0 on -/
def ImgsN (w : World) (A : Option Addr) (L : List Img) (B0 : Nat) : Prop :=
  ∀ (i : Nat) (x : Img), L[i]? = some x → ∃ b o B m d, A = some ⟨b, o, none⟩ ∧ b < w.heap.size ∧ w.cell? ⟨b, o + i * 3, none⟩ = some (.int .i64 x.W) ∧ w.cell? ⟨b, o + i * 3 + 1, none⟩ = some (.int .i64 x.H) ∧ w.cell? ⟨b, o + i * 3 + 2, none⟩ = some (.slice B m d) ∧ x.P.length = m ∧ Ints w B x.P ∧ (x.P.map (Value.int .i64) ≠ [] → NewFrom B0 B)
/-- what comes is a list of images -/
def RetImgs (w : World) (L : List Img) (e : Ending) (w' : World) : Prop := ∃ (A : Option Addr) (n c : Nat), e = .returned (.slice A n c) ∧ L.length = n ∧ ImgsN w' A L w.heap.size ∧ Below w.heap.size w w'
end Go.Proofs.YtibpmogmeoappacGreat
