/- A region that draws its order, walked once, in the order of the text: each operation yields one value in every world of a class. -/
import Derived.Deep.QuietTactic
namespace Go.Proofs.YtibpmogmeoappaaGreatDoor
structure CalmAt (P : Program) (ops : Array Oper) (C : World → Prop) (Q : Act → Prop) (l : List Oper) (a : Act) : Prop where
 out : wpQuiet P ops C Q l a
section
variable {P : Program} {ops : Array Oper} {C : World → Prop} {Q : Act → Prop} {o : Oper} {rest : List Oper} {a : Act}
theorem calm_one (h : ∀ K : Act → Prop, (∀ a, CalmAt P ops C Q rest a → K a) → Region.wanted o (yielded ops a.tmps) = true ∧ ∃ v, (∀ w, C w → o.quietAt P a C w v) ∧ K (a.put o.dst v)) : CalmAt P ops C Q (o :: rest) a := by
 refine ⟨wpQuiet_step fun K hK => ?_⟩;obtain ⟨h1, v, h2, h3⟩ := h K (fun a h => hK a h.out);rw [if_pos h1];exact ⟨v, h2, h3⟩
theorem calm_not (h : ∀ K : Act → Prop, (∀ a, CalmAt P ops C Q rest a → K a) → Region.wanted o (yielded ops a.tmps) = false ∧ K (a.put o.dst undef)) : CalmAt P ops C Q (o :: rest) a := by
 refine ⟨wpQuiet_step fun K hK => ?_⟩;obtain ⟨h1, h2⟩ := h K (fun a h => hK a h.out);rw [if_neg (by rw [h1]; simp)];exact h2
theorem calm_nil (h : Q a) : CalmAt P ops C Q [] a := ⟨wpQuiet_nil h⟩
theorem calm_region {id : Nat} {l : List Oper} {Q : Exit → Act → World → Prop} {w : World} (C : World → Prop) (hm : P.follows .mixedOrders = true) (hB : Region.lexB .any l.toArray = true) (hC : C w.drew)
 (h : CalmAt P l.toArray C (fun a' => ∀ w', C w' → Q .normal a' w') l a) : (Code.region id l.toArray true).wp P Q a w :=
 wp_region_quiet hm hB hC (by simpa using h.out)
end
end Go.Proofs.YtibpmogmeoappaaGreatDoor
