/- Plans worked out in an arena, as plain Lean. -/
import Derived.Test.YtibpmogmeoappaaJPlain
import Derived.Test.YtibpmogmeoappaaJPure
import Derived.Test.YtibpmogmeoappaaJMem
import Derived.Laws.CopyOwn
namespace Go.Proofs.Ytibpmogmeoappaa
def badN (x : Int) : Bool:=decide (x < 0 ∨ 65535 < x)
def execErr (f : Frm) (p : Pln) (l : List Int) : Int:=if pckErr f p l.length ≠ 0 then pckErr f p l.length else if l.any badN = true then 3 else 0
def lieAt (l : List Int) (f : Frm) (p : Pln) (k : Nat) : Img:=⟨(frSize f k).W,(frSize f k).H,(l.drop (p.pl k).toNat).take (areaOf f k).toNat⟩
def lieOf (l : List Int) (f : Frm) (p : Pln) (j : Int) : Img:=if j < 0 then Img.none else lieAt l f p j.toNat
def putAt (l : List Int) (i : Nat) (vs : List Int) : List Int:=l.take i ++ vs ++ l.drop (i + vs.length)
def doImg (f : Frm) (p : Pln) (l : List Int) (k : Nat) : Img:=passImg f.W f.H (f.pas k) (lieOf l f p (writerTo f k (f.pas k).A)) (lieOf l f p (writerTo f k (f.pas k).B))
def stepAr (f : Frm) (p : Pln) (l : List Int) (k : Nat) : List Int:=putAt l (p.pl k).toNat (doImg f p l k).P
def runTo (f : Frm) (p : Pln) (l : List Int) : Nat → List Int
 | 0=>l
 | i + 1=>stepAr f p (runTo f p l i) (p.ord i).toNat
def runImg (f : Frm) (p : Pln) (l : List Int) : Img:=lieAt (runTo f p l p.Order.length) f p (frLast f).toNat
def stepErr (f : Frm) (p : Pln) (l : List Int) (n : Int) : Int:=if execErr f p l ≠ 0 then execErr f p l else if n < 0 ∨ (p.Order.length : Int) ≤ n then 3 else 0
def stepAns (f : Frm) (p : Pln) (l : List Int) (n : Int) : List Int:=if stepErr f p l n = 0 then stepAr f p l (p.ord n.toNat).toNat else []
def runAns (f : Frm) (p : Pln) (l : List Int) : Img:=if execErr f p l = 0 then runImg f p l else Img.none
structure ArOk (f : Frm) (p : Pln) (l : List Int) : Prop where
 frm : FrmOk f
 ord : InOrder f p
 fits : Fits f p l.length
 room : l.length ≤ 4096
 fine : ∀ x ∈ l,0 ≤ x ∧ x ≤ 65535
theorem frSize_bd {f : Frm} (h : FrmOk f) {k : Nat} (hk : k < f.P.length) : ((1 ≤ (frSize f k).W ∧ (frSize f k).W ≤ 16) ∧ (1 ≤ (frSize f k).H ∧ (frSize f k).H ≤ 16)) ∧ 1 ≤ areaOf f k ∧ areaOf f k ≤ 256:=by
 have hs:=frImg_fine h k hk;have hw:=hs.1.1;have hh:=hs.1.2.1;rw [hs.2.1] at hw;rw [hs.2.2] at hh;exact ⟨⟨hw,hh⟩,mul_bd hw.1 hw.2 hh.1 hh.2⟩
theorem ArOk.place {f : Frm} {p : Pln} {l : List Int} (h : ArOk f p l) {k : Nat} (hk : k < f.P.length) (hd : 0 ≤ stepOf p.Order k) : 0 ≤ p.pl k ∧ p.pl k + areaOf f k ≤ l.length:=by
 have hp:=(h.ord.pass k hk).2.1 hd;rcases h.fits k hk with e | ⟨e,-⟩
 ·omega
 ·omega
theorem lieAt_len {f : Frm} {p : Pln} {l : List Int} (h : ArOk f p l) {k : Nat} (hk : k < f.P.length) (hd : 0 ≤ stepOf p.Order k) : ((lieAt l f p k).P.length : Int) = areaOf f k:=by
 have hp:=h.place hk hd;have ha:=(frSize_bd h.frm hk).2;simp only [lieAt,List.length_take,List.length_drop];omega
theorem lieAt_fine {f : Frm} {p : Pln} {l : List Int} (h : ArOk f p l) {k : Nat} (hk : k < f.P.length) (hd : 0 ≤ stepOf p.Order k) : Sized (lieAt l f p k) (frSize f k):=by
 have hb:=frSize_bd h.frm hk;exact ⟨⟨hb.1.1,hb.1.2,lieAt_len h hk hd,fun x hx=>h.fine x (List.mem_of_mem_drop (List.mem_of_mem_take hx))⟩,rfl,rfl⟩
theorem ArOk.srcDone {f : Frm} {p : Pln} {l : List Int} (h : ArOk f p l) {k : Nat} (hd : 0 ≤ stepOf p.Order k) {j : Int} (hj : j ∈ srcs f k) : 0 ≤ stepOf p.Order j:=by
 rcases stepOf_cases p.Order k with ⟨h1,_⟩ | ⟨i,h1,h2,h3⟩
 ·omega
 ·have hi : i < p.Order.length:=by
   by_cases e : i < p.Order.length
   ·exact e
   ·rw [List.getElem?_eq_none (by omega)] at h2; cases h2
  have e : p.ord i = k:=by unfold Pln.ord; rw [List.getD_eq_getElem?_getD,h2]; rfl
  have hs:=(h.ord.step i hi).2.2;rw [e,Int.toNat_natCast] at hs;exact (hs j hj).1
theorem srcA_mem {f : Frm} {k : Nat} (h : hasA (f.pas k).Op = true) : writerTo f k (f.pas k).A ∈ srcs f k:=by unfold srcs; rw [if_pos h]; simp
theorem srcB_mem {f : Frm} {k : Nat} (h : hasB (f.pas k).Op = true) : writerTo f k (f.pas k).B ∈ srcs f k:=by unfold srcs; rw [if_pos h]; simp
theorem lieOf_fine {f : Frm} {p : Pln} {l : List Int} (h : ArOk f p l) {k : Nat} (hk : k < f.P.length) (hd : 0 ≤ stepOf p.Order k) {s : Int} (hs : slotIn f.S s = true) (hw : (szAt (frSt f k) s).W ≠ 0) (hm : writerTo f k s ∈ srcs f k) : Sized (lieOf l f p (writerTo f k s)) (szAt (frSt f k) s):=by
 have h1:=wr_ok h.frm.bounds (h.frm.err (Nat.le_of_lt hk)) hs hw;rw [writer_size (h.frm.err (Nat.le_of_lt hk)) hs h1.1];unfold lieOf;rw [if_neg (by omega)];refine lieAt_fine h (by omega) ?_;rw [Int.toNat_of_nonneg h1.1];exact h.srcDone hd hm
theorem doMade {f : Frm} {p : Pln} {l : List Int} (h : ArOk f p l) {k : Nat} (hk : k < f.P.length) (hd : 0 ≤ stepOf p.Order k) : MadeOk f.W f.H (f.pas k) (lieOf l f p (writerTo f k (f.pas k).A)) (lieOf l f p (writerTo f k (f.pas k).B)):=by
 have ho:=h.frm.pass hk;exact madeOk_of h.frm.bounds ho (fun e=>lieOf_fine h hk hd (slot_iff.2 (ho.a e)) (ho.wa e) (srcA_mem e)) (fun e=>lieOf_fine h hk hd (slot_iff.2 (ho.b e)) (ho.wb e) (srcB_mem e))
theorem doImg_fine {f : Frm} {p : Pln} {l : List Int} (h : ArOk f p l) {k : Nat} (hk : k < f.P.length) (hd : 0 ≤ stepOf p.Order k) : Sized (doImg f p l k) (frSize f k):=by
 have ho:=h.frm.pass hk;exact (doMade h hk hd).fine (fun e=>lieOf_fine h hk hd (slot_iff.2 (ho.a e)) (ho.wa e) (srcA_mem e))
theorem doImg_len {f : Frm} {p : Pln} {l : List Int} (h : ArOk f p l) {k : Nat} (hk : k < f.P.length) (hd : 0 ≤ stepOf p.Order k) : ((doImg f p l k).P.length : Int) = areaOf f k:=by
 have hs:=doImg_fine h hk hd;rw [hs.1.2.2.1,hs.2.1,hs.2.2];rfl
theorem putAt_len {l vs : List Int} {i : Nat} (h : i + vs.length ≤ l.length) : (putAt l i vs).length = l.length:=by
 simp only [putAt,List.length_append,List.length_take,List.length_drop];omega
theorem mem_putAt {l vs : List Int} {i : Nat} {x : Int} (h : x ∈ putAt l i vs) : x ∈ l ∨ x ∈ vs:=by
 unfold putAt at h;rw [List.mem_append,List.mem_append] at h;rcases h with (h | h) | h
 ·exact .inl (List.mem_of_mem_take h)
 ·exact .inr h
 ·exact .inl (List.mem_of_mem_drop h)
theorem stepAr_len {f : Frm} {p : Pln} {l : List Int} (h : ArOk f p l) {k : Nat} (hk : k < f.P.length) (hd : 0 ≤ stepOf p.Order k) : (stepAr f p l k).length = l.length:=by
 have hp:=h.place hk hd;have hl:=doImg_len h hk hd;exact putAt_len (by omega)
theorem ArOk.next {f : Frm} {p : Pln} {l : List Int} (h : ArOk f p l) {k : Nat} (hk : k < f.P.length) (hd : 0 ≤ stepOf p.Order k) : ArOk f p (stepAr f p l k):=by
 have hl:=stepAr_len h hk hd;refine ⟨h.frm,h.ord,by rw [hl]; exact h.fits,by rw [hl]; exact h.room,fun x hx=>?_⟩;rcases mem_putAt hx with hx | hx
 ·exact h.fine x hx
 ·exact (doImg_fine h hk hd).1.2.2.2 x hx
theorem ArOk.last {f : Frm} {p : Pln} {l : List Int} (h : ArOk f p l) : (0 ≤ frLast f ∧ frLast f < f.P.length) ∧ 0 ≤ stepOf p.Order (((frLast f).toNat : Nat) : Int):=by
 have hl:=h.frm.last;exact ⟨hl,(h.ord.pass (frLast f).toNat (by omega)).1 (keptL_marks h.frm).last⟩
end Go.Proofs.Ytibpmogmeoappaa
namespace Go.Proofs.Ytibpmogmeoappaa
open Go.RowKit
def Ar (w : World) (g : Nat) (l : List Int) (ex : List Value) : Prop:=Blk w g 3 (l.map (Value.int .i64) ++ ex)
section
variable {w w' : World} {g base B : Nat} {l : List Int} {ex : List Value} {A : Option Addr} {n c : Nat}
theorem Ar.ints (h : Ar w g l ex) : Ints w (some ⟨g,0,none⟩) l:=by
 intro i hi;rw [List.length_map] at hi;refine ⟨g,0,rfl,Blk.lt h,?_⟩;rw [Nat.zero_add,Blk.cell h,List.getElem?_append_left (by simpa using hi),List.getD_eq_getElem?_getD,List.getElem?_map,List.getElem?_eq_getElem hi];rfl
theorem Ar.of_own (h : Own w base 3 1 A n c (l.map (Value.int .i64))) (h0 : 0 < n) : ∃ g ex,A = some ⟨g,0,none⟩ ∧ base ≤ g ∧ Ar w g l ex ∧ n ≤ c:=by
 rcases h.2 with ⟨_,e⟩ | ⟨g,cap,cur,hv,hb,hg,h1,h2,h3,h4⟩
 ·omega
 ·injection hv with e1 e2 e3
  subst e1 e3;rw [Nat.mul_one] at h4;refine ⟨g,cur.toList.drop n,rfl,hb,?_,h1⟩;unfold Ar Blk;rw [← h4,List.take_append_drop]
  simpa using hg
theorem Ints.part {b o : Nat} (h : Ints w (some ⟨b,o,none⟩) l) (i n : Nat) (hn : i + n ≤ l.length) : Ints w (some ⟨b,o + i,none⟩) ((l.drop i).take n):=by
 intro j hj;simp only [List.length_map,List.length_take,List.length_drop] at hj;obtain ⟨b',o',e,hlt,hc⟩:=h (i + j) (by rw [List.length_map]; omega);cases e;refine ⟨b,o + i,rfl,hlt,?_⟩;rw [Nat.add_assoc,hc];simp only [List.getD_eq_getElem?_getD,List.getElem?_map,List.getElem?_take,List.getElem?_drop];rw [if_pos (by omega)]
theorem grown_ofB (h : Below w.heap.size w w') (row : Option Nat) : w.grownBy w' row:=⟨h.os,h.tape,h.output,h.size,fun k hk _=>h.block k hk⟩
theorem grown_trB {w1 : World} {row : Option Nat} (h1 : w.grownBy w1 row) (h2 : w1.grownBy w' row) : w.grownBy w' row :=
 ⟨h2.os.trans h1.os,h2.tape.trans h1.tape,h2.output.trans h1.output,Nat.le_trans h1.size h2.size,fun k hk hn=>(h2.block k (Nat.lt_of_lt_of_le hk h1.size) hn).trans (h1.block k hk hn)⟩
theorem below_of_grown (h : w.grownBy w' (some g)) (hB : B ≤ w.heap.size) (hg : B ≤ g) : Below B w w' :=
 ⟨h.os,h.tape,h.output,h.size,fun k hk=>h.block k (by omega) (fun e=>by injection e with e; omega)⟩
theorem Cells.but {ds : List Value} (h : Cells w A ds) (hg : w.grownBy w' (some g)) (hA : ds ≠ [] → ∀ a,A = some a → a.block ≠ g) : Cells w' A ds:=by
 intro i hi;obtain ⟨b,o,e1,hlt,hc⟩:=h i hi;refine ⟨b,o,e1,Nat.lt_of_lt_of_le hlt hg.size,?_⟩;have hne : b ≠ g:=hA (fun e=>by subst e; simp at hi) _ e1;rw [World.cell?_of_block (w:=w) (hg.block b hlt (fun e=>hne (by injection e)))];exact hc
theorem Ints.but (h : Ints w A l) (hg : w.grownBy w' (some g)) (hA : l ≠ [] → ∀ a,A = some a → a.block ≠ g) : Ints w' A l :=
 Cells.but h hg fun hne=>hA fun e=>hne (by rw [e]; rfl)
theorem Blk.but {b : Nat} {t : TypeId} {cs : List Value} (h : Blk w b t cs) (hg : w.grownBy w' (some g)) (hb : b ≠ g) : Blk w' b t cs :=
 (hg.block b h.lt (fun e=>hb (by injection e))).trans h
theorem IntRowsN.but {L : List (List Int)} (h : IntRowsN w A L base) (hg : w.grownBy w' (some g)) (hlt : g < base) : IntRowsN w' A L base:=fun i x hi=>by
 obtain ⟨b,o,B,m,d,h1,h2,h3,h4,h5,h6,h7⟩:=h i x hi;refine ⟨b,o,B,m,d,h1,h2,Nat.lt_of_lt_of_le h3 hg.size,?_,h5,Ints.but h6 hg (fun hne a ha=>by have:=h7 hne a ha; omega),h7⟩;rw [World.cell?_of_block (w:=w) (hg.block b h3 (fun e=>by injection e with e; omega))];exact h4
end
end Go.Proofs.Ytibpmogmeoappaa
