/- Frames in memory; walks of the small references: within, has, kFine. -/
import Derived.Test.YtibpmogmeoappabGreatJPlain
import Derived.Test.YtibpmogmeoappabGreatJLitA
import Derived.Test.YtibpmogmeoappabGreatJImgJ
import Derived.Laws.StructEq
set_option maxHeartbeats 400000
namespace Go.Proofs.YtibpmogmeoappabGreat
open Go.RowKit
def passCells (p : Pas) (LA : Option Addr) (m d : Nat) : List Value:=[.int .i64 p.Op,.int .i64 p.To,.int .i64 p.A,.int .i64 p.B,.int .i64 p.K,.slice LA m d]
def Passes (w : World) (A : Option Addr) (ps : List Pas) : Prop :=
 ∀ i, i < ps.length → ∃ b o LA m d, A = some ⟨b, o, none⟩ ∧ b < w.heap.size ∧ (∀ j, j < 6 → w.cell? ⟨b, o + i * 6 + j, none⟩ = some ((passCells (ps.getD i noPas) LA m d).getD j undef)) ∧
   (ps.getD i noPas).L.length = m ∧ Lamps w LA (ps.getD i noPas).L ∧ m ≤ 9223372036854775807
section
variable {w w' : World} {A : Option Addr} {ps : List Pas}
theorem Passes.keep (h : Passes w A ps) (hb : Below w.heap.size w w') : Passes w' A ps:=by
 intro i hi;obtain ⟨b,o,LA,m,d,hA,hlt,hc,hm,hL,hl⟩:=h i hi;exact ⟨b,o,LA,m,d,hA,Nat.lt_of_lt_of_le hlt hb.size,fun j hj=>by rw [(bcell hb).1 b _ hlt]; exact hc j hj,hm,hL.keep hb,hl⟩
theorem Keeps.lampsK {ls : List Lamp} (h : Lamps w A ls) : Keeps w (fun W=>Lamps W A ls):=⟨h,fun _ hb=>h.keep hb⟩
theorem Keeps.passes (h : Passes w A ps) : Keeps w (fun W=>Passes W A ps):=⟨h,fun _ hb=>h.keep hb⟩
theorem Passes.at_ (h : Passes w A ps) (i : Nat) (hi : i < ps.length) :
 ∃ b o LA m d p, A = some ⟨b, o, none⟩ ∧ b < w.heap.size ∧ ps.getD i noPas = p ∧ w.cell? ⟨b, o + i * 6, none⟩ = some (.int .i64 p.Op) ∧ w.cell? ⟨b, o + i * 6 + 1, none⟩ = some (.int .i64 p.To) ∧ w.cell? ⟨b, o + i * 6 + 2, none⟩ = some (.int .i64 p.A) ∧
   w.cell? ⟨b,o + i * 6 + 3,none⟩ = some (.int .i64 p.B) ∧ w.cell? ⟨b,o + i * 6 + 4,none⟩ = some (.int .i64 p.K) ∧ w.cell? ⟨b,o + i * 6 + 5,none⟩ = some (.slice LA m d) ∧ p.L.length = m ∧ Lamps w LA p.L ∧ m ≤ 9223372036854775807:=by
 obtain ⟨b,o,LA,m,d,hA,hlt,hc,hm,hL,hl⟩:=h i hi;exact ⟨b,o,LA,m,d,_,hA,hlt,rfl,hc 0 (by omega),hc 1 (by omega),hc 2 (by omega),hc 3 (by omega),hc 4 (by omega),hc 5 (by omega),hm,hL,hl⟩
end
def PasBox (w : World) (g : Nat) (p : Pas) (LA : Option Addr) (m d : Nat) : Prop:=Blk w g 72 (passCells p LA m d)
theorem PasBox.cells {w : World} {g : Nat} {p : Pas} {LA : Option Addr} {m d : Nat} (h : PasBox w g p LA m d) :
 g < w.heap.size ∧ w.cell? ⟨g,0,none⟩ = some (.int .i64 p.Op) ∧ w.cell? ⟨g,1,none⟩ = some (.int .i64 p.To) ∧ w.cell? ⟨g,2,none⟩ = some (.int .i64 p.A) ∧ w.cell? ⟨g,3,none⟩ = some (.int .i64 p.B) ∧ w.cell? ⟨g,4,none⟩ = some (.int .i64 p.K) ∧ w.cell? ⟨g,5,none⟩ = some (.slice LA m d) :=
 ⟨h.lt,by rw [Blk.cell h]; rfl,by rw [Blk.cell h]; rfl,by rw [Blk.cell h]; rfl,by rw [Blk.cell h]; rfl,by rw [Blk.cell h]; rfl,by rw [Blk.cell h]; rfl⟩
def frmCells (W H S O : Int) (PA : Option Addr) (n c : Nat) : List Value:=[.int .i64 W,.int .i64 H,.int .i64 S,.int .i64 O,.slice PA n c]
def FrmBox (w : World) (g : Nat) (W H S O : Int) (PA : Option Addr) (n c : Nat) : Prop:=Blk w g 24 (frmCells W H S O PA n c)
theorem FrmBox.cells {w : World} {g : Nat} {W H S O : Int} {PA : Option Addr} {n c : Nat} (h : FrmBox w g W H S O PA n c) :
 g < w.heap.size ∧ w.cell? ⟨g,0,none⟩ = some (.int .i64 W) ∧ w.cell? ⟨g,1,none⟩ = some (.int .i64 H) ∧ w.cell? ⟨g,2,none⟩ = some (.int .i64 S) ∧ w.cell? ⟨g,3,none⟩ = some (.int .i64 O) ∧ w.cell? ⟨g,4,none⟩ = some (.slice PA n c) :=
 ⟨h.lt,by rw [Blk.cell h]; rfl,by rw [Blk.cell h]; rfl,by rw [Blk.cell h]; rfl,by rw [Blk.cell h]; rfl,by rw [Blk.cell h]; rfl⟩
def szCells (s : Sz) : List Value:=[.int .i64 s.W,.int .i64 s.H]
def Sizes (w : World) (A : Option Addr) (st : List Sz) : Prop:=Cells w A (st.flatMap szCells)
theorem Sizes.at_ {w : World} {A : Option Addr} {st : List Sz} (h : Sizes w A st) {i : Nat} (hi : i < st.length) :
 ∃ b o,A = some ⟨b,o,none⟩ ∧ b < w.heap.size ∧ w.cell? ⟨b,o + i * 2,none⟩ = some (.int .i64 (szAt st i).W) ∧ w.cell? ⟨b,o + i * 2 + 1,none⟩ = some (.int .i64 (szAt st i).H):=by
 obtain ⟨b,o,h1,h2,h3⟩:=cells_flat (k:=2) (fun x=>rfl) h hi (by omega);have e : szAt st (i : Int) = st[i]:=by unfold szAt; rw [Int.toNat_natCast,List.getD_eq_getElem?_getD,List.getElem?_eq_getElem hi]; rfl
 rw [e];exact ⟨b,o,h1,h2,h3 0 (by omega),h3 1 (by omega)⟩
theorem within_any (x lo hi : Int) (w : World) : Calls Tryz.prog 32 #[.int .i64 x,.int .i64 lo,.int .i64 hi] w fun e w'=>e = .returned (.bool (inR x lo hi)) ∧ w = w':=by
 by_cases h : lo ≤ x
 all_goals
  go_enter Tryz.func32,Tryz.ntmps32
  go_wp2
  go_ret;exact ⟨ret_bool (by unfold inR; simp; omega),rfl⟩
theorem results_tmp4 {fn : Func} {t u v x : Tmp} (h : fn.results = #[.tmp t,.tmp u,.tmp v,.tmp x]) (tmps : Array Value) (P : Program) (w : World) :
 (results fn tmps).run P w = .ok (.tuple #[tmps.getD t undef,tmps.getD u undef,tmps.getD v undef,tmps.getD x undef]) w:=by simp [results,h]
theorem isTwoR (op : Int) (w : World) : Calls Tryz.prog 57 #[.int .i64 op] w fun e w'=>e = .returned (.bool (hasB op)) ∧ w = w':=isTwo_any op w
def RetHas (op : Int) (w : World) (e : Ending) (w' : World) : Prop:=e = .returned (.tuple #[.bool (hasA op),.bool (hasB op),.bool (hasK op),.bool (hasL op)]) ∧ w = w'
theorem has_any (op : Int) (w : World) : Calls Tryz.prog 55 #[.int .i64 op] w (RetHas op w):=by
 by_cases hk : op = 1 ∨ op = 2 ∨ op = 8 ∨ op = 9 ∨ op = 13
 ·rcases hk with rfl | rfl | rfl | rfl | rfl
  all_goals
   go_enter Tryz.func55,Tryz.ntmps55
   go_wp2_with (first | (go_at_call 32; refine (within_any _ _ _ _).mono ?_; rintro e w1 ⟨rfl,rfl⟩) | (go_at_call 57; refine (isTwoR _ _).mono ?_; rintro e w1 ⟨rfl,rfl⟩))
   refine bodyPost_ret (v:=.tuple #[_,_,_,_]) (results_tmp4 rfl _ _ _) rfl ?_;exact ⟨rfl,rfl⟩
 ·have e1 : (op == 1) = false:=by simp; omega
  have e2 : (op == 2) = false:=by simp; omega
  have e3 : (op == 8) = false:=by simp; omega
  have e4 : (op == 9) = false:=by simp; omega
  have e5 : (op == 13) = false:=by simp; omega
  have h1 : hasK op = false:=decide_eq_false hk;have h2 : hasL op = false:=decide_eq_false (by omega);have H1:=hide h1;have H2:=hide h2;clear h1 h2 hk;go_enter Tryz.func55,Tryz.ntmps55
  go_wp2_with fail;refine (within_any _ _ _ _).mono ?_;rintro e w1 ⟨rfl,he⟩;subst he;go_wp2_with fail;refine (isTwoR _ _).mono ?_;rintro e w1 ⟨rfl,he⟩;subst he;go_wp2_with fail;refine bodyPost_ret (v:=.tuple #[_,_,_,_]) (results_tmp4 rfl _ _ _) rfl ?_;refine ⟨?_,rfl⟩;rw [H1.out,H2.out];rfl
def RetK (op k : Int) (w : World) (e : Ending) (w' : World) : Prop:=e = .returned (.bool (kFineB op k)) ∧ Below w.heap.size w w'
theorem kFine_any (p : Pas) (LA : Option Addr) (m d : Nat) (w : World) :
 Calls Tryz.prog 62 #[.agg #[.int .i64 p.Op,.int .i64 p.To,.int .i64 p.A,.int .i64 p.B,.int .i64 p.K,.slice LA m d]] w (RetK p.Op p.K w):=by
 obtain ⟨op,to,a,b,k,L⟩:=p;simp only;by_cases hk : op = 1 ∨ op = 2 ∨ op = 8 ∨ op = 9 ∨ op = 13
 ·rcases hk with rfl | rfl | rfl | rfl | rfl
  all_goals
   go_enter Tryz.func62,Tryz.ntmps62
   go_wp2_with (first | (go_at_call 32; refine (within_any _ _ _ _).mono ?_; rintro e w1 ⟨rfl,rfl⟩))
   go_ret;exact ⟨rfl,(Below.refl _ _).alloc (Nat.le_refl _) _⟩
 ·have e1 : (op == 1) = false:=by simp; omega
  have e2 : (op == 2) = false:=by simp; omega
  have e3 : (op == 8) = false:=by simp; omega
  have e4 : (op == 9) = false:=by simp; omega
  have e5 : (op == 13) = false:=by simp; omega
  have H1 : Hid (kFineB op k = true):=hide (by unfold kFineB; rw [if_neg (by omega),if_neg (by omega),if_neg (by omega)]);clear hk;go_enter Tryz.func62,Tryz.ntmps62
  go_wp2_with fail;go_ret;exact ⟨ret_bool H1.out.symm,(Below.refl _ _).alloc (Nat.le_refl _) _⟩
end Go.Proofs.YtibpmogmeoappabGreat
namespace Go.Proofs.YtibpmogmeoappabGreat
open Go.RowKit
def RetE (w : World) (z : Int) (e : Ending) (w' : World) : Prop:=e = .returned (.int .i64 z) ∧ Below w.heap.size w w'
theorem slot_any (S : Int) (g : Nat) (W H O : Int) (PA : Option Addr) (n c : Nat) (x : Int) (w : World) (hS : 1 ≤ S ∧ S ≤ 8) (hB : FrmBox w g W H S O PA n c) :
 Calls Tryz.prog 61 #[.int .i64 x,.pointer (some ⟨g,0,none⟩)] w fun e w'=>e = .returned (.bool (slotIn S x)) ∧ w = w':=by
 obtain ⟨q0,q1,q2,q3,q4,q5⟩:=hB.cells;clear hB;go_enter Tryz.func61,Tryz.ntmps61
 go_wp2_with fail;refine (within_any _ _ _ _).mono ?_;rintro e w1 ⟨rfl,he⟩;subst he;go_wp2_with fail;go_ret;exact ⟨rfl,rfl⟩
def PassMem (w : World) (W H S O : Int) (PA : Option Addr) (n c : Nat) (p : Pas) (LA : Option Addr) (m d : Nat) (SA : Option Addr) (st : List Sz) (W' : World) : Prop :=
 FrmBox W' w.heap.size W H S O PA n c ∧ PasBox W' (w.heap.size + 1) p LA m d ∧ Lamps W' LA p.L ∧ Sizes W' SA st ∧ Below w.heap.size w W'
theorem PassMem.keep {w : World} {W H S O : Int} {PA : Option Addr} {n c : Nat} {p : Pas} {LA : Option Addr} {m d : Nat} {SA : Option Addr} {st : List Sz} {w1 w2 : World} (h : PassMem w W H S O PA n c p LA m d SA st w1) (hb : Below w1.heap.size w1 w2) : PassMem w W H S O PA n c p LA m d SA st w2 :=
 ⟨Blk.keep h.1 hb,Blk.keep h.2.1 hb,h.2.2.1.keep hb,Cells.keep h.2.2.2.1 hb,h.2.2.2.2.trans (hb.mono h.2.2.2.2.size)⟩
theorem passMem_start {w : World} {p : Pas} {LA SA : Option Addr} {st : List Sz} (hL : Lamps w LA p.L) (hs : Sizes w SA st) (W H S O : Int) (PA : Option Addr) (n c m d : Nat) :
 PassMem w W H S O PA n c p LA m d SA st ((w.alloc (.cells (frmCells W H S O PA n c).toArray 24)).alloc (.cells (passCells p LA m d).toArray 72)):=by
 have hb : Below w.heap.size w ((w.alloc (.cells (frmCells W H S O PA n c).toArray 24)).alloc (.cells (passCells p LA m d).toArray 72)):=((Below.refl _ _).alloc (Nat.le_refl _) _).alloc (by simp) _;have b1:=Blk.new (w.alloc (.cells (frmCells W H S O PA n c).toArray 24)) 72 (passCells p LA m d);simp only [World.size_alloc] at b1;exact ⟨(Blk.new w 24 (frmCells W H S O PA n c)).alloc _,b1,hL.keep hb,Cells.keep hs hb,hb⟩
theorem slot_bd {S x : Int} (h : slotIn S x = true) : 0 ≤ x ∧ x ≤ S - 1:=by unfold slotIn at h; exact inR_iff.1 h
theorem sizes_at {w : World} {SA : Option Addr} {st : List Sz} {N : Nat} {S x : Int} (h : Sizes w SA st) (hst : st.length = N) (hN : (N : Int) = S) (hx : slotIn S x = true) :
 ∃ b o,SA = some ⟨b,o,none⟩ ∧ b < w.heap.size ∧ w.cell? ⟨b,o + x.toNat * 2,none⟩ = some (.int .i64 (szAt st x).W) ∧ w.cell? ⟨b,o + x.toNat * 2 + 1,none⟩ = some (.int .i64 (szAt st x).H):=by
 obtain ⟨h1,h2⟩:=slot_bd hx;obtain ⟨b,o,h3,h4,h5,h6⟩:=h.at_ (i:=x.toNat) (by omega);rw [Int.toNat_of_nonneg h1] at h5 h6;exact ⟨b,o,h3,h4,h5,h6⟩
end Go.Proofs.YtibpmogmeoappabGreat
