/- Walks: area, meet, InOrder. -/
import Derived.Test.YtibpmogmeoappacGreatJPlnA
import Derived.Test.YtibpmogmeoappacGreatJPlnE
import Derived.Test.YtibpmogmeoappacGreatJNeed2
import Derived.Deep.RegionHeld3
import Derived.BigQuiet
namespace Go.Proofs.YtibpmogmeoappacGreat
open Go.RowKit

end Go.Proofs.YtibpmogmeoappacGreat

/- Walks: SpansOf, PlanError. -/
namespace Go.Proofs.YtibpmogmeoappacGreat
open Go.RowKit

/-- what comes is a list of spans -/
def RetSpns (w : World) (L : List Spn) (e : Ending) (w' : World) : Prop :=
  ∃ (A : Option Addr) (n c : Nat), e = .returned (.slice A n c) ∧ L.length = n ∧ Spns w' A L ∧ Below w.heap.size w w'
theorem plan_box {w : World} {OA QA : Option Addr} {on oc qn qc : Nat} {g : Nat} (h : Blk w g 27 [.slice OA on oc, .slice QA qn qc]) : g < w.heap.size ∧ w.cell? ⟨g, 0, none⟩ = some (.slice OA on oc) ∧ w.cell? ⟨g, 1, none⟩ = some (.slice QA qn qc) := ⟨h.lt, (h.cell 0).trans rfl, (h.cell 1).trans rfl⟩

end Go.Proofs.YtibpmogmeoappacGreat

/- Sizes' and places' bounds. -/
namespace Go.Proofs.YtibpmogmeoappacGreat
open Go.RowKit

/-- pass k's size, its cells and its area -/
theorem size_cells {w : World} {A : Option Addr} {f : Frm} (hok : FrmOk f) (h : Sizes w A (frSizes f)) {k : Nat} (hk : k < f.P.length) : ∃ b o, A = some ⟨b, o, none⟩ ∧ b < w.heap.size ∧ w.cell? ⟨b, o + k * 2, none⟩ = some (.int .i64 (frSize f k).W) ∧ w.cell? ⟨b, o + k * 2 + 1, none⟩ = some (.int .i64 (frSize f k).H) := by
  obtain ⟨b, o, e, h1, h2, h3⟩ := Sizes.at_ h (i := k) (by rw [sizes_len hok]; exact hk)
  rw [size_at hok hk] at h2 h3
  exact ⟨b, o, e, h1, h2, h3⟩
theorem place_of {f : Frm} {p : Pln} (h : InOrder f p) {k : Nat} (hk : k < f.P.length) : p.pl k = -1 ∨ (0 ≤ p.pl k ∧ p.pl k ≤ 4096) := by
  have hd := h.pass k hk
  by_cases hs : 0 ≤ stepOf p.Order (k : Int)
  · exact .inr (hd.2.1 hs)
  · exact .inl (hd.2.2 hs)
end Go.Proofs.YtibpmogmeoappacGreat
