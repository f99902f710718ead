/- Walks: Two.  -/
import Derived.Test.YtibpmogmeoappaaJImgJ
namespace Go.Proofs.Ytibpmogmeoappaa
open Go.RowKit
def TwoBoxes (w : World) (W H : Int) (A : Option Addr) (n c : Nat) (W' H' : Int) (B : Option Addr) (m d : Nat) (w1 : World) : Prop :=
 ImgBox w1 w.heap.size W H A n c ∧ ImgBox w1 (w.heap.size + 1) W' H' B m d ∧ Blk w1 (w.heap.size + 1 + 1) 24 [.int .i64 0,.int .i64 0,.slice none 0 0] ∧ Below w.heap.size w w1
section
variable {w : World} {W H : Int} {A : Option Addr} {n c : Nat} {W' H' : Int} {B : Option Addr} {m d : Nat} {w1 w2 : World}
theorem TwoBoxes.keep (h : TwoBoxes w W H A n c W' H' B m d w1) (hb : Below w1.heap.size w1 w2) : TwoBoxes w W H A n c W' H' B m d w2 :=
 ⟨Blk.keep h.1 hb,Blk.keep h.2.1 hb,h.2.2.1.keep hb,h.2.2.2.trans (hb.mono h.2.2.2.size)⟩
theorem TwoBoxes.cells (h : TwoBoxes w W H A n c W' H' B m d w1) :
 w.heap.size + 1 + 1 < w1.heap.size ∧ w1.cell? ⟨w.heap.size,0,none⟩ = some (.int .i64 W) ∧ w1.cell? ⟨w.heap.size,1,none⟩ = some (.int .i64 H) ∧ w1.cell? ⟨w.heap.size,2,none⟩ = some (.slice A n c) ∧
 w1.cell? ⟨w.heap.size + 1,0,none⟩ = some (.int .i64 W') ∧ w1.cell? ⟨w.heap.size + 1,1,none⟩ = some (.int .i64 H') ∧ w1.cell? ⟨w.heap.size + 1,2,none⟩ = some (.slice B m d) ∧
 w1.cell? ⟨w.heap.size + 1 + 1,0,none⟩ = some (.int .i64 0) ∧ w1.cell? ⟨w.heap.size + 1 + 1,1,none⟩ = some (.int .i64 0) ∧ w1.cell? ⟨w.heap.size + 1 + 1,2,none⟩ = some (.slice none 0 0) ∧
 w1.frozen? ⟨w.heap.size + 1 + 1,0,none⟩ = false ∧ w1.frozen? ⟨w.heap.size + 1 + 1,1,none⟩ = false ∧ w1.frozen? ⟨w.heap.size + 1 + 1,2,none⟩ = false :=
 ⟨h.2.2.1.lt,by rw [Blk.cell h.1]; rfl,by rw [Blk.cell h.1]; rfl,by rw [Blk.cell h.1]; rfl,by rw [Blk.cell h.2.1]; rfl,by rw [Blk.cell h.2.1]; rfl,by rw [Blk.cell h.2.1]; rfl,by rw [h.2.2.1.cell]; rfl,by rw [h.2.2.1.cell]; rfl,by rw [h.2.2.1.cell]; rfl,h.2.2.1.frozen 0,h.2.2.1.frozen 1,h.2.2.1.frozen 2⟩
end
end Go.Proofs.Ytibpmogmeoappaa
namespace Go.Proofs.Ytibpmogmeoappaa
open Go.RowKit
end Go.Proofs.Ytibpmogmeoappaa
