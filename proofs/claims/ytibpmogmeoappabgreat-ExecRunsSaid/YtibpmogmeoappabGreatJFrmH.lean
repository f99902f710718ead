/- Walks: fields (all classes); what step keeps. -/
import Derived.Test.YtibpmogmeoappabGreatJFrmG1
set_option maxRecDepth 100000
set_option maxHeartbeats 2000000
namespace Go.Proofs.YtibpmogmeoappabGreat
open Go.RowKit
theorem fields_kind (g : Nat) (W H S O : Int) (PA : Option Addr) (n c : Nat) (SA : Option Addr) (N cN : Nat) (MA : Option Addr) (M cM : Nat) (p : Pas) (LA : Option Addr) (m d : Nat) (w : World)
 (hG : WalkBox w g W H S O PA n c SA N cN MA M cM) (hL : Lamps w LA p.L) (h0 : inR p.Op 1 13 = false) :
 Calls Tryz.prog 91 #[.pointer (some ⟨g,0,none⟩),.agg #[.int .i64 p.Op,.int .i64 p.To,.int .i64 p.A,.int .i64 p.B,.int .i64 p.K,.slice LA m d]] w (RetE w (fieldsErr S p)):=by
 rw [fe_kind h0];have HOF:=hide (fun (W0 : World)=>of_any p.Op W0);have HK:=hide (fieldMem_start (p:=p) hG hL m d);obtain ⟨op,to,a,b,k,L⟩:=p;simp only at *;unfold RetOf at HOF;rw [h0] at HOF;simp only [Bool.false_and] at HOF;clear h0 hG hL;go_enter Tryz.func91,Tryz.ntmps91
 go_wp2_with fail;refine ((unhide HOF) _).mono ?_;rintro e w1 ⟨rfl,hE⟩;have HB:=hide ((HK.out.keep hE).2.2.2.2);clear hE HK;go_wp2_with fail;go_ret;exact ⟨rfl,HB.out.alloc HB.out.size _⟩
theorem fields_any (g : Nat) (W H S O : Int) (PA : Option Addr) (n c : Nat) (SA : Option Addr) (N cN : Nat) (MA : Option Addr) (M cM : Nat) (p : Pas) (LA : Option Addr) (m d : Nat) (w : World)
 (hS : 1 ≤ S ∧ S ≤ 8) (hG : WalkBox w g W H S O PA n c SA N cN MA M cM) (hm : p.L.length = m) (hL : Lamps w LA p.L) (hl : m ≤ 9223372036854775807) :
 Calls Tryz.prog 91 #[.pointer (some ⟨g,0,none⟩),.agg #[.int .i64 p.Op,.int .i64 p.To,.int .i64 p.A,.int .i64 p.B,.int .i64 p.K,.slice LA m d]] w (RetE w (fieldsErr S p)):=by
 cases h0 : inR p.Op 1 13 with
 | false=>exact fields_kind g W H S O PA n c SA N cN MA M cM p LA m d w hG hL h0
 | true =>
   rcases op_class h0 with ⟨a,b,k,l,_⟩ | ⟨a,b,k,l,_⟩ | ⟨a,b,k,l,_⟩ | ⟨a,b,k,l,_⟩ | ⟨a,b,k,l,_⟩
   ·exact fields_fill g W H S O PA n c SA N cN MA M cM p LA m d w hS hG hm hL hl h0 a b k l
   ·exact fields_one g W H S O PA n c SA N cN MA M cM p LA m d w hS hG hm hL hl h0 a b k l
   ·exact fields_cut g W H S O PA n c SA N cN MA M cM p LA m d w hS hG hm hL hl h0 a b k l
   ·exact fields_two g W H S O PA n c SA N cN MA M cM p LA m d w hS hG hm hL hl h0 a b k l
   ·exact fields_lit g W H S O PA n c SA N cN MA M cM p LA m d w hS hG hm hL hl h0 a b k l
structure StepMem (w : World) (g : Nat) (wc : List Value) (p : Pas) (LA : Option Addr) (m d : Nat) (SA : Option Addr) (st : List Sz) (MA : Option Addr) (mk : List Int) (W' : World) : Prop where
 walk : Blk W' g 128 wc
 pas : PasBox W' w.heap.size p LA m d
 res : Blk W' (w.heap.size + 1) 53 [.int .i64 0,.int .i64 0]
 lamps : Lamps W' LA p.L
 sizes : Sizes W' SA st
 made : Ints W' MA mk
 below : Below w.heap.size w W'
theorem StepMem.keep {w : World} {g : Nat} {wc : List Value} {p : Pas} {LA : Option Addr} {m d : Nat} {SA : Option Addr} {st : List Sz} {MA : Option Addr} {mk : List Int} {w1 w2 : World} (h : StepMem w g wc p LA m d SA st MA mk w1) (hb : Below w1.heap.size w1 w2) : StepMem w g wc p LA m d SA st MA mk w2 :=
 ⟨h.walk.keep hb,Blk.keep h.pas hb,h.res.keep hb,h.lamps.keep hb,Cells.keep h.sizes hb,h.made.keep hb,h.below.trans (hb.mono h.below.size)⟩
theorem stepMem_start {w : World} {g : Nat} {wc : List Value} {p : Pas} {LA : Option Addr} {SA : Option Addr} {st : List Sz} {MA : Option Addr} {mk : List Int} (hg : Blk w g 128 wc) (hL : Lamps w LA p.L) (hs : Sizes w SA st) (hM : Ints w MA mk) (m d : Nat) :
 StepMem w g wc p LA m d SA st MA mk ((w.alloc (.cells (passCells p LA m d).toArray 72)).alloc (.cells #[.int .i64 0,.int .i64 0] 53)):=by
 have hb : Below w.heap.size w ((w.alloc (.cells (passCells p LA m d).toArray 72)).alloc (.cells #[.int .i64 0,.int .i64 0] 53)):=((Below.refl _ _).alloc (Nat.le_refl _) _).alloc (by simp) _;have b1:=Blk.new (w.alloc (.cells (passCells p LA m d).toArray 72)) 53 [.int .i64 0,.int .i64 0];simp only [World.size_alloc] at b1;exact ⟨hg.keep hb,(Blk.new w 72 (passCells p LA m d)).alloc _,b1,hL.keep hb,Cells.keep hs hb,hM.keep hb,hb⟩
theorem StepMem.resCells {w : World} {g : Nat} {wc : List Value} {p : Pas} {LA : Option Addr} {m d : Nat} {SA : Option Addr} {st : List Sz} {MA : Option Addr} {mk : List Int} {w1 : World} (h : StepMem w g wc p LA m d SA st MA mk w1) :
 w.heap.size + 1 < w1.heap.size ∧ w1.cell? ⟨w.heap.size + 1,0,none⟩ = some (.int .i64 0) ∧ w1.cell? ⟨w.heap.size + 1,1,none⟩ = some (.int .i64 0) ∧ w1.frozen? ⟨w.heap.size + 1,0,none⟩ = false ∧ w1.frozen? ⟨w.heap.size + 1,1,none⟩ = false :=
 ⟨h.res.lt,(h.res.cell 0).trans rfl,(h.res.cell 1).trans rfl,h.res.frozen 0,h.res.frozen 1⟩
def RetStep (w : World) (s : Sz) (z : Int) (e : Ending) (w' : World) : Prop:=e = .returned (.tuple #[.agg #[.int .i64 s.W,.int .i64 s.H],.int .i64 z]) ∧ Below w.heap.size w w'
theorem retStep {w w1 : World} {s : Sz} {z : Int} {u v : Value} (hb : Below w.heap.size w w1) :
 RetStep w s z (.returned (.tuple #[.agg #[.int .i64 s.W,.int .i64 s.H],.int .i64 z])) ((w1.setCell ⟨w.heap.size + 1,0,none⟩ u).setCell ⟨w.heap.size + 1,1,none⟩ v) :=
 ⟨rfl,(hb.setCell (p:=⟨w.heap.size + 1,0,none⟩) (by simp) _).setCell (p:=⟨w.heap.size + 1,1,none⟩) (by simp) _⟩
theorem step_bad (g : Nat) (W H S O : Int) (PA : Option Addr) (n c : Nat) (SA : Option Addr) (N cN : Nat) (MA : Option Addr) (M cM : Nat) (st : List Sz) (mk : List Int) (p : Pas) (LA : Option Addr) (m d : Nat) (w : World)
 (hS : 1 ≤ S ∧ S ≤ 8) (hG : WalkBox w g W H S O PA n c SA N cN MA M cM) (hs : Sizes w SA st) (hM : Ints w MA mk) (hm : p.L.length = m) (hL : Lamps w LA p.L) (hl : m ≤ 9223372036854775807) (hf : fieldsErr S p ≠ 0) :
 Calls Tryz.prog 70 #[.pointer (some ⟨g,0,none⟩),.agg #[.int .i64 p.Op,.int .i64 p.To,.int .i64 p.A,.int .i64 p.B,.int .i64 p.K,.slice LA m d]] w (RetStep w ⟨0,0⟩ (passErr S p st)):=by
 have HF:=hide (fun (W0 : World) (h1 : WalkBox W0 g W H S O PA n c SA N cN MA M cM) (h2 : Lamps W0 LA p.L)=>fields_any g W H S O PA n c SA N cN MA M cM p LA m d W0 hS h1 hm h2 hl);have HK:=hide (stepMem_start (p:=p) hG hL hs hM m d);have hpe : passErr S p st = fieldsErr S p:=pe_of rfl hf;rw [hpe];generalize fieldsErr S p = z at *;have hz : (z != 0) = true:=by simpa using hf
 obtain ⟨op,to,a,b,k,L⟩:=p;simp only at *;clear hS hG hs hM hm hL hpe hf;go_enter Tryz.func70,Tryz.ntmps70
 go_wp2_with fail;refine ((unhide HF) _ HK.out.walk HK.out.lamps).mono ?_;rintro e w1 ⟨rfl,hE⟩;have HK1:=hide (HK.out.keep hE);obtain ⟨r0,r1,r2,r3,r4⟩:=HK1.out.resCells;clear hE HK;go_wp2_with fail;refine bodyPost_ret (v:=.tuple #[.agg #[.int .i64 0,.int .i64 0],.int .i64 z]) (by simp [results,Tryz.results70,go_sem,r1,r2]) rfl ?_;exact retStep (s:=⟨0,0⟩) HK1.out.below
end Go.Proofs.YtibpmogmeoappabGreat
