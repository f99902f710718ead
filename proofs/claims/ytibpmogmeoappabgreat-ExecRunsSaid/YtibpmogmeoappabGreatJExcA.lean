/- Plans worked out in an arena, as plain Lean. -/
import Derived.Test.YtibpmogmeoappabGreatJPlain
import Derived.Test.YtibpmogmeoappabGreatJPure
import Derived.Test.YtibpmogmeoappabGreatJMem
import Derived.Laws.CopyOwn
import Derived.Test.YtibpmogmeoappabGreatJNeed2
import Derived.Laws.Cover3
import Derived.Test.YtibpmogmeoappabGreatJPlnK
import Derived.Test.YtibpmogmeoappabGreatJFrmO
set_option maxRecDepth 100000
set_option maxHeartbeats 8000000
namespace Go.Proofs.YtibpmogmeoappabGreat
def badN (x : Int) : Bool:=decide (x < 0 ∨ 65535 < x)
theorem badN_any {l : List Int} : l.any badN = true ↔ ∃ x ∈ l,¬ (0 ≤ x ∧ x ≤ 65535):=by
 rw [List.any_eq_true]
 constructor
 ·rintro ⟨x,hx,h⟩
  exact ⟨x,hx,by have:=of_decide_eq_true h; omega⟩
 ·rintro ⟨x,hx,h⟩
  exact ⟨x,hx,decide_eq_true (by omega)⟩
def execErr (f : Frm) (p : Pln) (l : List Int) : Int:=if pckErr f p l.length ≠ 0 then pckErr f p l.length else if l.any badN = true then 3 else 0
def lieAt (l : List Int) (f : Frm) (p : Pln) (k : Nat) : Img:=⟨(frSize f k).W,(frSize f k).H,(l.drop (p.pl k).toNat).take (areaOf f k).toNat⟩
def lieOf (l : List Int) (f : Frm) (p : Pln) (j : Int) : Img:=if j < 0 then Img.none else lieAt l f p j.toNat
def putAt (l : List Int) (i : Nat) (vs : List Int) : List Int:=l.take i ++ vs ++ l.drop (i + vs.length)
def doImg (f : Frm) (p : Pln) (l : List Int) (k : Nat) : Img:=passImg f.W f.H (f.pas k) (lieOf l f p (writerTo f k (f.pas k).A)) (lieOf l f p (writerTo f k (f.pas k).B))
def stepAr (f : Frm) (p : Pln) (l : List Int) (k : Nat) : List Int:=putAt l (p.pl k).toNat (doImg f p l k).P
def runTo (f : Frm) (p : Pln) (l : List Int) : Nat → List Int
 | 0=>l
 | i + 1=>stepAr f p (runTo f p l i) (p.ord i).toNat
def runImg (f : Frm) (p : Pln) (l : List Int) : Img:=lieAt (runTo f p l p.Order.length) f p (frLast f).toNat
def stepErr (f : Frm) (p : Pln) (l : List Int) (n : Int) : Int:=if execErr f p l ≠ 0 then execErr f p l else if n < 0 ∨ (p.Order.length : Int) ≤ n then 3 else 0
def stepAns (f : Frm) (p : Pln) (l : List Int) (n : Int) : List Int:=if stepErr f p l n = 0 then stepAr f p l (p.ord n.toNat).toNat else []
def runAns (f : Frm) (p : Pln) (l : List Int) : Img:=if execErr f p l = 0 then runImg f p l else Img.none
structure ArOk (f : Frm) (p : Pln) (l : List Int) : Prop where
 frm : FrmOk f
 ord : InOrder f p
 fits : Fits f p l.length
 room : l.length ≤ 4096
 fine : ∀ x ∈ l,0 ≤ x ∧ x ≤ 65535
theorem execErr_zero {f : Frm} {p : Pln} {l : List Int} : execErr f p l = 0 ↔ ArOk f p l:=by
 unfold execErr pckErr
 constructor
 ·intro h
  by_cases h1 : frErr f = 0
  ·rw [if_neg (show ¬ frErr f ≠ 0 from fun e=>e h1)] at h
   by_cases h2 : 0 ≤ (l.length : Int) ∧ (l.length : Int) ≤ 4096
   ·rw [if_neg (show ¬ ¬ _ from fun e=>e h2)] at h
    by_cases h3 : InOrder f p
    ·rw [if_neg (show ¬ ¬ _ from fun e=>e h3)] at h
     by_cases h4 : Fits f p l.length
     ·rw [if_neg (show ¬ ¬ _ from fun e=>e h4)] at h
      rw [if_neg (show ¬ (0 : Int) ≠ 0 from fun e=>e rfl)] at h;by_cases h5 : l.any badN = true
      ·rw [if_pos h5] at h; omega
      ·refine ⟨frErr_zero.1 h1,h3,h4,by omega,fun x hx=>?_⟩
       by_cases e : 0 ≤ x ∧ x ≤ 65535
       ·exact e
       ·exact absurd (badN_any.2 ⟨x,hx,e⟩) h5
     ·rw [if_pos h4] at h; simp at h
    ·rw [if_pos h3] at h; simp at h
   ·rw [if_pos h2] at h; simp at h
  ·rw [if_pos h1,if_pos h1] at h; exact absurd h h1
 ·rintro ⟨h1,h3,h4,h2,h5⟩
  have h1:=frErr_zero.2 h1
  have e : (if frErr f ≠ 0 then frErr f else if ¬ (0 ≤ (l.length : Int) ∧ (l.length : Int) ≤ 4096) then 3 else if ¬ InOrder f p then 1 else if ¬ Fits f p l.length then 7 else 0) = (0 : Int):=by
   rw [if_neg (show ¬ frErr f ≠ 0 from fun e=>e h1),if_neg (by omega),if_neg (show ¬ ¬ _ from fun e=>e h3),if_neg (show ¬ ¬ _ from fun e=>e h4)]
  rw [e,if_neg (show ¬ (0 : Int) ≠ 0 from fun e=>e rfl),if_neg];intro h;obtain ⟨x,hx,e⟩:=badN_any.1 h;exact e (h5 x hx)
theorem frSize_bd {f : Frm} (h : FrmOk f) {k : Nat} (hk : k < f.P.length) : ((1 ≤ (frSize f k).W ∧ (frSize f k).W ≤ 16) ∧ (1 ≤ (frSize f k).H ∧ (frSize f k).H ≤ 16)) ∧ 1 ≤ areaOf f k ∧ areaOf f k ≤ 256:=by
 have hs:=frImg_fine h k hk;have hw:=hs.1.1;have hh:=hs.1.2.1;rw [hs.2.1] at hw;rw [hs.2.2] at hh;exact ⟨⟨hw,hh⟩,mul_bd hw.1 hw.2 hh.1 hh.2⟩
theorem ArOk.place {f : Frm} {p : Pln} {l : List Int} (h : ArOk f p l) {k : Nat} (hk : k < f.P.length) (hd : 0 ≤ stepOf p.Order k) : 0 ≤ p.pl k ∧ p.pl k + areaOf f k ≤ l.length:=by
 have hp:=(h.ord.pass k hk).2.1 hd;rcases h.fits k hk with e | ⟨e,-⟩
 ·omega
 ·omega
theorem lieAt_len {f : Frm} {p : Pln} {l : List Int} (h : ArOk f p l) {k : Nat} (hk : k < f.P.length) (hd : 0 ≤ stepOf p.Order k) : ((lieAt l f p k).P.length : Int) = areaOf f k:=by
 have hp:=h.place hk hd;have ha:=(frSize_bd h.frm hk).2;simp only [lieAt,List.length_take,List.length_drop];omega
theorem lieAt_fine {f : Frm} {p : Pln} {l : List Int} (h : ArOk f p l) {k : Nat} (hk : k < f.P.length) (hd : 0 ≤ stepOf p.Order k) : Sized (lieAt l f p k) (frSize f k):=by
 have hb:=frSize_bd h.frm hk;exact ⟨⟨hb.1.1,hb.1.2,lieAt_len h hk hd,fun x hx=>h.fine x (List.mem_of_mem_drop (List.mem_of_mem_take hx))⟩,rfl,rfl⟩
theorem ArOk.srcDone {f : Frm} {p : Pln} {l : List Int} (h : ArOk f p l) {k : Nat} (hd : 0 ≤ stepOf p.Order k) {j : Int} (hj : j ∈ srcs f k) : 0 ≤ stepOf p.Order j:=by
 rcases stepOf_cases p.Order k with ⟨h1,_⟩ | ⟨i,h1,h2,h3⟩
 ·omega
 ·have hi : i < p.Order.length:=by
   by_cases e : i < p.Order.length
   ·exact e
   ·rw [List.getElem?_eq_none (by omega)] at h2; cases h2
  have e : p.ord i = k:=by unfold Pln.ord; rw [List.getD_eq_getElem?_getD,h2]; rfl
  have hs:=(h.ord.step i hi).2.2;rw [e,Int.toNat_natCast] at hs;exact (hs j hj).1
theorem srcA_mem {f : Frm} {k : Nat} (h : hasA (f.pas k).Op = true) : writerTo f k (f.pas k).A ∈ srcs f k:=by unfold srcs; rw [if_pos h]; simp
theorem srcB_mem {f : Frm} {k : Nat} (h : hasB (f.pas k).Op = true) : writerTo f k (f.pas k).B ∈ srcs f k:=by unfold srcs; rw [if_pos h]; simp
theorem lieOf_fine {f : Frm} {p : Pln} {l : List Int} (h : ArOk f p l) {k : Nat} (hk : k < f.P.length) (hd : 0 ≤ stepOf p.Order k) {s : Int} (hs : slotIn f.S s = true) (hw : (szAt (frSt f k) s).W ≠ 0) (hm : writerTo f k s ∈ srcs f k) : Sized (lieOf l f p (writerTo f k s)) (szAt (frSt f k) s):=by
 have h1:=wr_ok h.frm.bounds (h.frm.err (Nat.le_of_lt hk)) hs hw;rw [writer_size (h.frm.err (Nat.le_of_lt hk)) hs h1.1];unfold lieOf;rw [if_neg (by omega)];refine lieAt_fine h (by omega) ?_;rw [Int.toNat_of_nonneg h1.1];exact h.srcDone hd hm
theorem doMade {f : Frm} {p : Pln} {l : List Int} (h : ArOk f p l) {k : Nat} (hk : k < f.P.length) (hd : 0 ≤ stepOf p.Order k) : MadeOk f.W f.H (f.pas k) (lieOf l f p (writerTo f k (f.pas k).A)) (lieOf l f p (writerTo f k (f.pas k).B)):=by
 have ho:=h.frm.pass hk;exact madeOk_of h.frm.bounds ho (fun e=>lieOf_fine h hk hd (slot_iff.2 (ho.a e)) (ho.wa e) (srcA_mem e)) (fun e=>lieOf_fine h hk hd (slot_iff.2 (ho.b e)) (ho.wb e) (srcB_mem e))
theorem doImg_fine {f : Frm} {p : Pln} {l : List Int} (h : ArOk f p l) {k : Nat} (hk : k < f.P.length) (hd : 0 ≤ stepOf p.Order k) : Sized (doImg f p l k) (frSize f k):=by
 have ho:=h.frm.pass hk;exact (doMade h hk hd).fine (fun e=>lieOf_fine h hk hd (slot_iff.2 (ho.a e)) (ho.wa e) (srcA_mem e))
theorem doImg_len {f : Frm} {p : Pln} {l : List Int} (h : ArOk f p l) {k : Nat} (hk : k < f.P.length) (hd : 0 ≤ stepOf p.Order k) : ((doImg f p l k).P.length : Int) = areaOf f k:=by
 have hs:=doImg_fine h hk hd;rw [hs.1.2.2.1,hs.2.1,hs.2.2];rfl
theorem putAt_len {l vs : List Int} {i : Nat} (h : i + vs.length ≤ l.length) : (putAt l i vs).length = l.length:=by
 simp only [putAt,List.length_append,List.length_take,List.length_drop];omega
theorem mem_putAt {l vs : List Int} {i : Nat} {x : Int} (h : x ∈ putAt l i vs) : x ∈ l ∨ x ∈ vs:=by
 unfold putAt at h;rw [List.mem_append,List.mem_append] at h;rcases h with (h | h) | h
 ·exact .inl (List.mem_of_mem_take h)
 ·exact .inr h
 ·exact .inl (List.mem_of_mem_drop h)
theorem stepAr_len {f : Frm} {p : Pln} {l : List Int} (h : ArOk f p l) {k : Nat} (hk : k < f.P.length) (hd : 0 ≤ stepOf p.Order k) : (stepAr f p l k).length = l.length:=by
 have hp:=h.place hk hd;have hl:=doImg_len h hk hd;exact putAt_len (by omega)
theorem ArOk.next {f : Frm} {p : Pln} {l : List Int} (h : ArOk f p l) {k : Nat} (hk : k < f.P.length) (hd : 0 ≤ stepOf p.Order k) : ArOk f p (stepAr f p l k):=by
 have hl:=stepAr_len h hk hd;refine ⟨h.frm,h.ord,by rw [hl]; exact h.fits,by rw [hl]; exact h.room,fun x hx=>?_⟩;rcases mem_putAt hx with hx | hx
 ·exact h.fine x hx
 ·exact (doImg_fine h hk hd).1.2.2.2 x hx
theorem ArOk.ordAt {f : Frm} {p : Pln} {l : List Int} (h : ArOk f p l) {i : Nat} (hi : i < p.Order.length) : (0 ≤ p.ord i ∧ p.ord i < f.P.length) ∧ 0 ≤ stepOf p.Order (((p.ord i).toNat : Nat) : Int):=by
 have hs:=h.ord.step i hi;refine ⟨by have:=hs.1; omega,?_⟩;rw [Int.toNat_of_nonneg hs.1.1,hs.2.1];omega
theorem runTo_ok {f : Frm} {p : Pln} {l : List Int} (h : ArOk f p l) {i : Nat} (hi : i ≤ p.Order.length) : ArOk f p (runTo f p l i) ∧ (runTo f p l i).length = l.length:=by
 induction i with
 | zero=>exact ⟨h,rfl⟩
 | succ i ih =>
   obtain ⟨h1,h2⟩:=ih (by omega);have ho:=h.ordAt (i:=i) (by omega);exact ⟨h1.next (by omega) ho.2,by rw [← h2]; exact stepAr_len h1 (by omega) ho.2⟩
theorem ArOk.last {f : Frm} {p : Pln} {l : List Int} (h : ArOk f p l) : (0 ≤ frLast f ∧ frLast f < f.P.length) ∧ 0 ≤ stepOf p.Order (((frLast f).toNat : Nat) : Int):=by
 have hl:=h.frm.last;exact ⟨hl,(h.ord.pass (frLast f).toNat (by omega)).1 (keptL_marks h.frm).last⟩
theorem ArOk.pos {f : Frm} {p : Pln} {l : List Int} (h : ArOk f p l) : 0 < l.length:=by
 have hl:=h.last;have hp:=h.place (k:=(frLast f).toNat) (by omega) hl.2;have ha:=(frSize_bd h.frm (k:=(frLast f).toNat) (by omega)).2;omega
end Go.Proofs.YtibpmogmeoappabGreat
namespace Go.Proofs.YtibpmogmeoappabGreat
open Go.RowKit
def Ar (w : World) (g : Nat) (l : List Int) (ex : List Value) : Prop:=Blk w g 3 (l.map (Value.int .i64) ++ ex)
section
variable {w w' : World} {g base B : Nat} {l : List Int} {ex : List Value} {A : Option Addr} {n c : Nat}
theorem Ar.ints (h : Ar w g l ex) : Ints w (some ⟨g,0,none⟩) l:=by
 intro i hi;rw [List.length_map] at hi;refine ⟨g,0,rfl,Blk.lt h,?_⟩;rw [Nat.zero_add,Blk.cell h,List.getElem?_append_left (by simpa using hi),List.getD_eq_getElem?_getD,List.getElem?_map,List.getElem?_eq_getElem hi];rfl
theorem Ar.of_own (h : Own w base 3 1 A n c (l.map (Value.int .i64))) (h0 : 0 < n) : ∃ g ex,A = some ⟨g,0,none⟩ ∧ base ≤ g ∧ Ar w g l ex ∧ n ≤ c:=by
 rcases h.2 with ⟨_,e⟩ | ⟨g,cap,cur,hv,hb,hg,h1,h2,h3,h4⟩
 ·omega
 ·injection hv with e1 e2 e3
  subst e1 e3;rw [Nat.mul_one] at h4;refine ⟨g,cur.toList.drop n,rfl,hb,?_,h1⟩;unfold Ar Blk;rw [← h4,List.take_append_drop]
  simpa using hg
theorem splice_put (l vs : List Int) (ex : List Value) (i : Nat) (h : i + vs.length ≤ l.length) : splice (l.map (Value.int .i64) ++ ex) i (vs.map (Value.int .i64)) = (putAt l i vs).map (Value.int .i64) ++ ex:=by
 unfold splice putAt;rw [List.take_append_of_le_length (by rw [List.length_map]; omega),List.length_map,List.drop_append_of_le_length (by rw [List.length_map]; omega),List.map_append,List.map_append,List.map_take,List.map_drop];simp only [List.append_assoc]
theorem Ints.part {b o : Nat} (h : Ints w (some ⟨b,o,none⟩) l) (i n : Nat) (hn : i + n ≤ l.length) : Ints w (some ⟨b,o + i,none⟩) ((l.drop i).take n):=by
 intro j hj;simp only [List.length_map,List.length_take,List.length_drop] at hj;obtain ⟨b',o',e,hlt,hc⟩:=h (i + j) (by rw [List.length_map]; omega);cases e;refine ⟨b,o + i,rfl,hlt,?_⟩;rw [Nat.add_assoc,hc];simp only [List.getD_eq_getElem?_getD,List.getElem?_map,List.getElem?_take,List.getElem?_drop];rw [if_pos (by omega)]
theorem grown_ofB (h : Below w.heap.size w w') (row : Option Nat) : w.grownBy w' row:=⟨h.os,h.tape,h.output,h.size,fun k hk _=>h.block k hk⟩
theorem grown_trB {w1 : World} {row : Option Nat} (h1 : w.grownBy w1 row) (h2 : w1.grownBy w' row) : w.grownBy w' row :=
 ⟨h2.os.trans h1.os,h2.tape.trans h1.tape,h2.output.trans h1.output,Nat.le_trans h1.size h2.size,fun k hk hn=>(h2.block k (Nat.lt_of_lt_of_le hk h1.size) hn).trans (h1.block k hk hn)⟩
theorem below_of_grown (h : w.grownBy w' (some g)) (hB : B ≤ w.heap.size) (hg : B ≤ g) : Below B w w' :=
 ⟨h.os,h.tape,h.output,h.size,fun k hk=>h.block k (by omega) (fun e=>by injection e with e; omega)⟩
theorem Cells.but {ds : List Value} (h : Cells w A ds) (hg : w.grownBy w' (some g)) (hA : ds ≠ [] → ∀ a,A = some a → a.block ≠ g) : Cells w' A ds:=by
 intro i hi;obtain ⟨b,o,e1,hlt,hc⟩:=h i hi;refine ⟨b,o,e1,Nat.lt_of_lt_of_le hlt hg.size,?_⟩;have hne : b ≠ g:=hA (fun e=>by subst e; simp at hi) _ e1;rw [World.cell?_of_block (w:=w) (hg.block b hlt (fun e=>hne (by injection e)))];exact hc
theorem Ints.but (h : Ints w A l) (hg : w.grownBy w' (some g)) (hA : l ≠ [] → ∀ a,A = some a → a.block ≠ g) : Ints w' A l :=
 Cells.but h hg fun hne=>hA fun e=>hne (by rw [e]; rfl)
theorem Blk.but {b : Nat} {t : TypeId} {cs : List Value} (h : Blk w b t cs) (hg : w.grownBy w' (some g)) (hb : b ≠ g) : Blk w' b t cs :=
 (hg.block b h.lt (fun e=>hb (by injection e))).trans h
theorem IntRowsN.but {L : List (List Int)} (h : IntRowsN w A L base) (hg : w.grownBy w' (some g)) (hlt : g < base) : IntRowsN w' A L base:=fun i x hi=>by
 obtain ⟨b,o,B,m,d,h1,h2,h3,h4,h5,h6,h7⟩:=h i x hi;refine ⟨b,o,B,m,d,h1,h2,Nat.lt_of_lt_of_le h3 hg.size,?_,h5,Ints.but h6 hg (fun hne a ha=>by have:=h7 hne a ha; omega),h7⟩;rw [World.cell?_of_block (w:=w) (hg.block b h3 (fun e=>by injection e with e; omega))];exact h4
end
theorem step_copyB {P : Program} {ops : Array Oper} {o : Oper} {a : Act} {w : World} {K : Act → World → Prop} {Q : Exit → Act → World → Prop} {E : Prop} (hgd : o.guard = none) (d s : Operand) (dT sT : TypeId)
 (ho : o.op = .call { callee:=.builtin .copy,args:=#[d,s],argTypes:=#[dT,sT] }) (elem : TypeId) (hu : P.underlying dT = some (.slice elem)) (hsz : (P.info? elem).map (·.size) = some 1)
 (g off dLen dCap sLen sCap : Nat) (sp : Option Addr) (hd : a.eval d = .slice (some ⟨g,off,none⟩) dLen dCap) (hs : a.eval s = .slice sp sLen sCap)
 (cur : List Value) (t : TypeId) (hg : Blk w g t cur) (cs : List Value) (hn : cs.length = Nat.min sLen dLen) (h0 : 0 < cs.length) (hc : Cells w sp cs)
 (hfit : off + cs.length ≤ cur.length) (h1 : ∀ v ∈ cs,v.oneCell' = true)
 (h : ∀ w',Hid (Blk w' g t (splice cur off cs)) → w.grownBy w' (some g) → K (a.put o.dst (goInt cs.length)) w') :
 if Region.wanted o (yielded ops a.tmps) = true then Oper.wp P o a w K Q else E:=by
 have hw : Region.wanted o (yielded ops a.tmps) = true:=by simp [Region.wanted,hgd]
 rw [if_pos hw];obtain ⟨sb,so,rfl,-,-⟩:=hc 0 h0
 have hsrc : ∀ j v,cs[j]? = some v → w.cell? ((⟨sb,so,none⟩ : Addr).add j) = some v:=fun j u hu=>by
  obtain ⟨b',o',e',-,hcc⟩:=hc j (List.getElem?_eq_some_iff.1 hu).1;cases e';rw [Addr.add_lit,hcc,List.getD_eq_getElem?_getD,hu]; rfl
 have hrun:=run_copy_row (P:=P) w dT sT o.type elem g off dLen dCap ⟨sb,so,none⟩ sLen sCap cur.toArray t cs hu hsz hg hn hsrc (by simpa using hfit) h1;unfold Oper.wp;simp [execOp,ho,resolve,invoke,builtin,hd,hs,hrun,Result.andThen]
 refine h _ (show _ = _ by simpa [splice] using setRow_heap w g _ _ t _ hg) ⟨rfl,rfl,rfl,by simp [World.setRow],fun k _ hk=>setRow_other w g k _ (fun e=>hk (by rw [e]))⟩
theorem step_copyO {P : Program} (w : World) {ops : Array Oper} {o : Oper} {a : Act} {K : Act → World → Prop} {Q : Exit → Act → World → Prop} {E : Prop} (hgd : o.guard = none) (s x : Operand) (t : TypeId)
 (hop : o.op = Op.call { callee:=Callee.builtin Builtin.append,args:=#[s,x],argTypes:=#[t,t] })
 (base : Nat) (e : TypeId) (i : TypeInfo) (z : Value) (size bytes : Nat) (h1 : P.underlying t = some (.slice e)) (h2 : P.info? e = some i) (h3 : i.zero = some z) (h4 : i.size = size) (h5 : i.bytes = bytes) (h6 : z.cells.size = size) (h7 : 0 < size)
 (b : Nat) (hs : a.eval s = .slice (some ⟨b,0,none⟩) 0 0) (hb : Blk w b e []) (hbb : base ≤ b)
 (L : Option Addr) (m d : Nat) (news : List Value) (hx : a.eval x = .slice L m d) (hn : news.length = m * size) (hc : Cells w L news) (h1c : ∀ u ∈ news,u.oneCell' = true)
 (h0 : 0 < m) (b1 : m ≤ maxLen) (b2 : m * bytes ≤ 140737488355328)
 (hK : ∀ A' c' w',Own w' base e size A' m c' news → Below base w w' → K (a.put o.dst (.slice A' m c')) w') :
 if Region.wanted o (yielded ops a.tmps) = true then Oper.wp P o a w K Q else E:=by
 have hpos : 0 < news.length:=by rw [hn]; exact Nat.mul_pos h0 h7
 obtain ⟨lb,lo,rfl,-,-⟩:=hc 0 hpos
 have hl : ∀ j u,news[j]? = some u → w.cell? ((⟨lb,lo,none⟩ : Addr).add j) = some u:=fun j u hu=>by
  obtain ⟨b',o',e',-,hcc⟩:=hc j (List.getElem?_eq_some_iff.1 hu).1;cases e';rw [Addr.add_lit,hcc,List.getD_eq_getElem?_getD,hu]; rfl
 have hlt:=hb.lt;refine step_append_lies w hgd s x t hop base e i z size bytes h1 h2 h3 h4 h5 h6 h7 (.slice (some ⟨b,0,none⟩) 0 0) 0 [] hs ⟨by simp,.inr ⟨b,0,#[],rfl,hbb,hb,Nat.le_refl _,by unfold maxLen; omega,by simp,by simp⟩⟩ ⟨lb,lo,none⟩ m d news hx hn hl h1c h0 (by omega) (by rw [Nat.zero_add]; exact b2) (by omega) w.heap.size rfl ?_;intro g cap w' hown hg _ _;rw [Nat.zero_add,List.nil_append] at hown;have:=hK (some ⟨g,0,none⟩) cap w' hown (below_of_grown hg (by omega) hbb)
 simpa using this
end Go.Proofs.YtibpmogmeoappabGreat
namespace Go.Proofs.YtibpmogmeoappabGreat
open Go.RowKit
theorem wpList_copyO {P : Program} (w : World) {ops : Array Oper} {rest : List Oper} {o : Oper} {a : Act} {Q : Exit → Act → World → Prop} (hgd : o.guard = none) (s x : Operand) (t : TypeId)
 (hop : o.op = Op.call { callee:=Callee.builtin Builtin.append,args:=#[s,x],argTypes:=#[t,t] })
 (e : TypeId) (i : TypeInfo) (z : Value) (size bytes : Nat) (h1 : P.underlying t = some (.slice e)) (h2 : P.info? e = some i) (h3 : i.zero = some z) (h4 : i.size = size) (h5 : i.bytes = bytes) (h6 : z.cells.size = size) (h7 : 0 < size)
 (b : Addr) (hs : a.eval s = .slice (some b) 0 0)
 (L : Option Addr) (m d : Nat) (news : List Value) (hx : a.eval x = .slice L m d) (hn : news.length = m * size) (hc : Cells w L news) (h1c : ∀ u ∈ news,u.oneCell' = true)
 (h0 : 0 < m) (b1 : m ≤ maxLen) (b2 : m * bytes ≤ 140737488355328)
 (hK : ∀ A' c' w',Own w' w.heap.size e size A' m c' news → Below w.heap.size w w' → wpList P ops Q rest (a.put o.dst (.slice A' m c')) w') :
 wpList P ops Q (o :: rest) a w:=by
 have hpos : 0 < news.length:=by rw [hn]; exact Nat.mul_pos (h0) h7
 obtain ⟨lb,lo,rfl,-,-⟩:=hc 0 hpos
 have hl : ∀ j u,news[j]? = some u → w.cell? ((⟨lb,lo,none⟩ : Addr).add j) = some u:=fun j u hu=>by
  obtain ⟨b',o',e',-,hcc⟩:=hc j (List.getElem?_eq_some_iff.1 hu).1;cases e';rw [Addr.add_lit,hcc,List.getD_eq_getElem?_getD,hu]; rfl
 refine wpList_append_grows w hgd s x t hop e i z size bytes h1 h2 h3 h4 h5 h6 h7 (some b) 0 0 [] hs (fun h=>by cases h) (by simp) (fun b' _ j u hu=>by simp at hu) ⟨lb,lo,none⟩ m d news hx hn hl h1c (by omega) (by omega) (by rw [Nat.zero_add]; exact b2) ?_;intro v' w' hown hg;rw [Nat.zero_add,List.nil_append] at hown;obtain ⟨-,⟨-,hz⟩ | ⟨g,cap,cur,rfl,k1,-⟩⟩:=id hown
 ·omega
 ·have:=hK (some ⟨g,0,none⟩) cap w' hown (Below.grownNone (Below.refl _ _) hg (Nat.le_refl _))
  simpa using this
theorem run_eq_nilI (A : Option Addr) (n c : Nat) (w : World) : (binOp .eql 25 (.slice A n c) (.slice none 0 0)).run Tryz.prog w = .ok (.bool A.isNone) w:=by
 simp only [binOp];simp [run_equal_slice_nil w 25 3 A n c Tryz.underlying25]
def RetOwnI (w : World) (l : List Int) (e : Ending) (w' : World) : Prop:=∃ (A : Option Addr) (c : Nat),e = .returned (.slice A l.length c) ∧ Own w' w.heap.size 3 1 A l.length c (l.map (Value.int .i64)) ∧ Below w.heap.size w w'
theorem cloneInts_any (A : Option Addr) (m d : Nat) (l : List Int) (w : World) (hm : l.length = m) (h0 : 0 < m) (hI : Ints w A l) (hb : m ≤ 65536) :
 Calls Tryz.prog 26 #[.slice A m d] w (RetOwnI w l):=by
 subst hm;have hnl:=run_eq_nilI;obtain ⟨b,o,rfl,-,-⟩:=hI 0 (by simpa using h0);obtain ⟨i0,hi0,hz0,hz1,hz2⟩:=info_parts Tryz.info3;have hal:=(Below.refl w.heap.size w).alloc (Nat.le_refl _) (.cells #[] 3);have HC:=hide (Ints.keep hI hal);have HAL:=hide hal;clear hI hal;go_enter Tryz.func26,Tryz.ntmps26
 go_wp2_with (at_builtin; go_loud (refine wpList_copyO (w.alloc (.cells #[] 3)) rfl _ _ 25 rfl 3 i0 _ 1 8 Tryz.underlying25 hi0 hz0 hz1 hz2 rfl (by omega) _ rfl (some ⟨b,o,none⟩) l.length d (l.map (Value.int .i64)) rfl (by simp) HC.out (ints_one l) h0 (by simp only [maxLen]; omega) (by omega) ?_; intro A9 c9 w9 ho9 hb9))
 go_ret;exact ⟨A9,c9,rfl,ho9.mono (by simp),HAL.out.trans (hb9.mono HAL.out.size)⟩
theorem begin1_any (x : Int) (w : World) : Calls Tryz.prog 25 #[.int .i64 x] w fun e w'=>e = .returned (.bool (badN x)) ∧ w = w':=by
 by_cases h1 : x < 0
 ·have hb:=hide (show badN x = true from decide_eq_true (.inl h1))
  go_enter Tryz.func25,Tryz.ntmps25
  go_wp2_with fail;go_ret;exact ⟨ret_bool hb.out.symm,rfl⟩
 ·by_cases h2 : 65535 < x
  ·have hb:=hide (show badN x = true from decide_eq_true (.inr h2))
   go_enter Tryz.func25,Tryz.ntmps25
   go_wp2_with fail;go_ret;exact ⟨ret_bool hb.out.symm,rfl⟩
  ·have hb:=hide (show badN x = false from decide_eq_false (by omega))
   go_enter Tryz.func25,Tryz.ntmps25
   go_wp2_with fail;go_ret;exact ⟨ret_bool hb.out.symm,rfl⟩
def RetIdx (w : World) (l : List Int) (e : Ending) (w' : World) : Prop:=∃ i : Int,e = .returned (.int .i64 i) ∧ (0 ≤ i ↔ ∃ x ∈ l,badN x = true) ∧ w = w'
theorem indexInts_any (A : Option Addr) (n c : Nat) (l : List Int) (w : World) (hn : l.length = n) (hI : Ints w A l) (hl : n ≤ 9223372036854775807) :
 Calls Tryz.prog 43 #[.slice A n c,.func (.func 25) #[] #[]] w (RetIdx w l):=by
 have HN:=hide hn;have HI:=hide hI;have heg:=enters_of Tryz.func25 (by kernel_rfl) rfl;clear hn hI;go_enter Tryz.func43,Tryz.ntmps43
 go_wp2_with fail;go_loop [5,8] (fun _ i=>∃ j : Nat,j ≤ n ∧ i = .int .i64 j ∧ Hid (∀ x ∈ l.take j,badN x = false)) (fun _ i=>n - (intOf i).toNat)
 case atStart=>exact ⟨0,Nat.zero_le _,rfl,hide (fun x hx=>by simp at hx)⟩
 case round =>
  obtain ⟨j,hj,rfl,HJ⟩:=hrel;by_cases hlt : j < n
  ·have hj0 : (0 : Int) ≤ (j : Int):=by omega
   have hj1 : (j : Int) < (n : Int):=by omega
   have hjl : j < l.length:=by rw [HN.out]; exact hlt
   obtain ⟨b,o,hA,hb,cv⟩:=HI.out j (by rw [List.length_map]; exact hjl);obtain rfl:=hA;obtain ⟨v,hv⟩ : ∃ v,l[j] = v:=⟨_,rfl⟩
   have ev : (l.map (Value.int .i64)).getD j undef = .int .i64 v:=by
    rw [List.getD_eq_getElem?_getD,List.getElem?_map,List.getElem?_eq_getElem hjl,hv];rfl
   rw [ev] at cv;have HV:=hide hv;clear ev hv;obtain ⟨bd,hbd⟩ : ∃ bd,badN v = bd:=⟨_,rfl⟩;have hcl:=fun W0=>begin1_any v W0;rw [hbd] at hcl;have HCL:=hide hcl;have HBD:=hide hbd;clear hcl hbd
   cases bd with
   | true =>
     go_wp2_with (go_at_call 25; refine ((unhide HCL) _).mono ?_; rintro e w1 ⟨rfl,rfl⟩)
     go_ret;exact ⟨j,rfl,⟨fun _=>⟨v,by rw [← HV.out]; exact List.getElem_mem hjl,HBD.out⟩,fun _=>hj0⟩,rfl⟩
   | false =>
     go_wp2_with (go_at_call 25; refine ((unhide HCL) _).mono ?_; rintro e w1 ⟨rfl,rfl⟩)
     go_round
     case rel =>
      refine ⟨j + 1,by omega,by go_num,hide (fun x hx=>?_)⟩;rw [List.take_add_one,List.getElem?_eq_getElem hjl] at hx;rcases List.mem_append.1 hx with h | h
      ·exact HJ.out x h
      ·simp only [Option.toList_some,List.mem_singleton] at h
       rw [h,HV.out]; exact HBD.out
     case measure=>simp [intOf]; omega
  ·obtain rfl : j = n:=by omega
   go_wp2_with fail;go_ret;refine ⟨-1,rfl,⟨fun h=>by omega,fun ⟨x,hx,hb⟩=>?_⟩,rfl⟩;have h1:=HJ.out x (by rw [List.take_of_length_le (by rw [HN.out]; exact Nat.le_refl _)]; exact hx);rw [hb] at h1;cases h1
theorem containsInts_any (A : Option Addr) (n c : Nat) (l : List Int) (w : World) (hn : l.length = n) (hI : Ints w A l) (hl : n ≤ 9223372036854775807) :
 Calls Tryz.prog 24 #[.slice A n c,.func (.func 25) #[] #[]] w fun e w'=>e = .returned (.bool (l.any badN)) ∧ w = w':=by
 have HX:=hide (indexInts_any A n c l w hn hI hl);go_enter Tryz.func24,Tryz.ntmps24
 go_wp2_with fail;refine (unhide HX).mono ?_;rintro e w1 ⟨i,rfl,hi,rfl⟩
 have HA:=hide (show decide (0 ≤ i) = l.any badN from by
  by_cases h : 0 ≤ i
  ·rw [decide_eq_true h]
   obtain ⟨x,hx,hb⟩:=hi.1 h;exact (List.any_eq_true.2 ⟨x,hx,hb⟩).symm
  ·rw [decide_eq_false h]
   symm
   rw [Bool.eq_false_iff]
   exact fun e=>h (hi.2 (by obtain ⟨x,hx,hb⟩:=List.any_eq_true.1 e; exact ⟨x,hx,hb⟩)))
 clear hi;go_wp2_with fail;go_ret;exact ⟨ret_bool HA.out,rfl⟩
end Go.Proofs.YtibpmogmeoappabGreat
namespace Go.Proofs.YtibpmogmeoappabGreat
open Go.RowKit
def workCells (W H S O : Int) (PA : Option Addr) (n c : Nat) (OA : Option Addr) (on oc : Nat) (QA : Option Addr) (qn qc : Nat) (GA : Option Addr) (m d : Nat) (SA : Option Addr) (sn sc : Nat) (RA : Option Addr) (rn rc : Nat) : List Value :=
 [.int .i64 W,.int .i64 H,.int .i64 S,.int .i64 O,.slice PA n c,.slice OA on oc,.slice QA qn qc,.slice GA m d,.slice SA sn sc,.slice RA rn rc]
abbrev WorkBox (w : World) (b : Nat) (W H S O : Int) (PA : Option Addr) (n c : Nat) (OA : Option Addr) (on oc : Nat) (QA : Option Addr) (qn qc : Nat) (GA : Option Addr) (m d : Nat) (SA : Option Addr) (sn sc : Nat) (RA : Option Addr) (rn rc : Nat) : Prop :=
 Blk w b 65 (workCells W H S O PA n c OA on oc QA qn qc GA m d SA sn sc RA rn rc)
theorem work_at {w : World} {b : Nat} {W H S O : Int} {PA : Option Addr} {n c : Nat} {OA : Option Addr} {on oc : Nat} {QA : Option Addr} {qn qc : Nat} {GA : Option Addr} {m d : Nat} {SA : Option Addr} {sn sc : Nat} {RA : Option Addr} {rn rc : Nat} (h : WorkBox w b W H S O PA n c OA on oc QA qn qc GA m d SA sn sc RA rn rc) :
 b < w.heap.size ∧ w.cell? ⟨b,0,none⟩ = some (.int .i64 W) ∧ w.cell? ⟨b,1,none⟩ = some (.int .i64 H) ∧ w.cell? ⟨b,2,none⟩ = some (.int .i64 S) ∧ w.cell? ⟨b,3,none⟩ = some (.int .i64 O) ∧ w.cell? ⟨b,4,none⟩ = some (.slice PA n c) ∧ w.cell? ⟨b,5,none⟩ = some (.slice OA on oc) ∧ w.cell? ⟨b,6,none⟩ = some (.slice QA qn qc) ∧ w.cell? ⟨b,7,none⟩ = some (.slice GA m d) ∧ w.cell? ⟨b,8,none⟩ = some (.slice SA sn sc) ∧ w.cell? ⟨b,9,none⟩ = some (.slice RA rn rc):=by
 refine ⟨h.lt,?_,?_,?_,?_,?_,?_,?_,?_,?_,?_⟩ <;> (rw [Blk.cell h]; rfl)
structure WorkAt (w : World) (b g B0 : Nat) (f : Frm) (PA : Option Addr) (n c : Nat) (OA : Option Addr) (on oc : Nat) (QA : Option Addr) (qn qc d : Nat) (SA : Option Addr) (sc : Nat) (RA : Option Addr) (rc : Nat) (l : List Int) (ex : List Value) : Prop where
 box : WorkBox w b f.W f.H f.S f.O PA n c OA on oc QA qn qc (some ⟨g,0,none⟩) l.length d SA n sc RA n rc
 ar : Ar w g l ex
 szs : Sizes w SA (frSizes f)
 new : NewFrom B0 SA
 src : IntRowsN w RA (frSources f) B0
 lt : g < B0
 ne : b ≠ g
 room : l.length ≤ d
section
variable {w w' : World} {b g B0 : Nat} {f : Frm} {PA : Option Addr} {n c : Nat} {OA : Option Addr} {on oc : Nat} {QA : Option Addr} {qn qc d : Nat} {SA : Option Addr} {sc : Nat} {RA : Option Addr} {rc : Nat} {l l' : List Int} {ex : List Value}
theorem WorkAt.keep (h : WorkAt w b g B0 f PA n c OA on oc QA qn qc d SA sc RA rc l ex) (hb : Below w.heap.size w w') : WorkAt w' b g B0 f PA n c OA on oc QA qn qc d SA sc RA rc l ex :=
 ⟨Blk.keep h.box hb,Blk.keep h.ar hb,Cells.keep h.szs hb,h.new,h.src.keep hb,h.lt,h.ne,h.room⟩
theorem WorkAt.next (h : WorkAt w b g B0 f PA n c OA on oc QA qn qc d SA sc RA rc l ex) (hg : w.grownBy w' (some g)) (ha : Ar w' g l' ex) (hl : l'.length = l.length) : WorkAt w' b g B0 f PA n c OA on oc QA qn qc d SA sc RA rc l' ex :=
 ⟨by rw [hl]; exact Blk.but h.box hg h.ne,ha,Cells.but h.szs hg (fun _ a e=>by have:=h.new a e; have:=h.lt; omega),h.new,h.src.but hg h.lt,h.lt,h.ne,by rw [hl]; exact h.room⟩
end
def RetWork (w : World) (f : Frm) (p : Pln) (PA : Option Addr) (n c : Nat) (OA : Option Addr) (on oc : Nat) (QA : Option Addr) (qn qc : Nat) (l : List Int) (e : Ending) (w' : World) : Prop :=
 Below w.heap.size w w' ∧ ((execErr f p l ≠ 0 ∧ e = .returned (.tuple #[.pointer none,.int .i64 (execErr f p l)])) ∨ (ArOk f p l ∧ ∃ (b g B0 d : Nat) (SA : Option Addr) (sc : Nat) (RA : Option Addr) (rc : Nat) (ex : List Value),w.heap.size ≤ b ∧ w.heap.size ≤ g ∧ e = .returned (.tuple #[.pointer (some ⟨b,0,none⟩),.int .i64 0]) ∧ WorkAt w' b g B0 f PA n c OA on oc QA qn qc d SA sc RA rc l ex))
theorem execBegin_any (W H S O : Int) (PA : Option Addr) (n c : Nat) (ps : List Pas) (OA : Option Addr) (on oc : Nat) (QA : Option Addr) (qn qc : Nat) (p : Pln) (GA : Option Addr) (gn gc : Nat) (l : List Int) (w : World) (hn : ps.length = n) (hP : Passes w PA ps)
 (hO : Ints w OA p.Order) (hon : p.Order.length = on) (hol : on ≤ 9223372036854775807) (hoc : on ≤ oc) (hQ : Ints w QA p.Places) (hqn : p.Places.length = qn) (hql : qn ≤ 9223372036854775807) (hG : Ints w GA l) (hgn : l.length = gn) (hgl : gn ≤ 9223372036854775807) :
 Calls Tryz.prog 9 #[.agg #[.int .i64 W,.int .i64 H,.int .i64 S,.int .i64 O,.slice PA n c],.agg #[.slice OA on oc,.slice QA qn qc],.slice GA gn gc] w (RetWork w ⟨W,H,S,O,ps⟩ p PA n c OA on oc QA qn qc l):=by
 have hb:=((Below.refl w.heap.size w).alloc (Nat.le_refl _) (.cells #[.int .i64 W,.int .i64 H,.int .i64 S,.int .i64 O,.slice PA n c] 24)).alloc (by simp) (.cells #[.slice OA on oc,.slice QA qn qc] 27);have hbx:=(show FrmBox (w.alloc (.cells #[.int .i64 W,.int .i64 H,.int .i64 S,.int .i64 O,.slice PA n c] 24)) w.heap.size W H S O PA n c from Blk.new w 24 (frmCells W H S O PA n c)).alloc (.cells #[.slice OA on oc,.slice QA qn qc] 27);have hpx : Blk ((w.alloc (.cells #[.int .i64 W,.int .i64 H,.int .i64 S,.int .i64 O,.slice PA n c] 24)).alloc (.cells #[.slice OA on oc,.slice QA qn qc] 27)) (w.heap.size + 1) 27 [.slice OA on oc,.slice QA qn qc]:=Blk.newE (by simp);have hck:=fun (W0 : World) (h1 : Passes W0 PA ps) (h2 : Ints W0 OA p.Order) (h3 : Ints W0 QA p.Places)=>planCheck_any W H S O PA n c ps OA on oc QA qn qc p (gn : Int) W0 hn h1 h2 hon hol hoc h3 hqn hql;have hsi:=fun (W0 : World) (h1 : Passes W0 PA ps)=>sizes_new W H S O PA n c ps W0 hn h1;have hso:=fun (W0 : World) (h1 : Passes W0 PA ps)=>sources_new W H S O PA n c ps W0 hn h1;have hio:=hO.keep hb;have hiq:=hQ.keep hb;have hig:=hG.keep hb;have hpp:=hP.keep hb;obtain ⟨f,hf⟩ : ∃ f : Frm,f = ⟨W,H,S,O,ps⟩:=⟨_,rfl⟩;have HFW:=hide (show f.W = W ∧ f.H = H ∧ f.S = S ∧ f.O = O ∧ f.P.length = n from by rw [hf]; exact ⟨rfl,rfl,rfl,rfl,hn⟩);rw [← hf] at hck hsi hso ⊢;obtain ⟨w1,hw1⟩ : ∃ w1,(w.alloc (.cells #[.int .i64 W,.int .i64 H,.int .i64 S,.int .i64 O,.slice PA n c] 24)).alloc (.cells #[.slice OA on oc,.slice QA qn qc] 27) = w1:=⟨_,rfl⟩;rw [hw1] at hb hbx hpx hio hiq hig hpp;have HB:=hide hb;have HBX:=hide (Keeps.blk hbx);have HPX:=hide (Keeps.blk hpx);have HIO:=hide (Keeps.ints hio);have HIQ:=hide (Keeps.ints hiq);have HIG:=hide (Keeps.ints hig);have HP:=hide (Keeps.passes hpp);have HSI:=hide hsi;have HSO:=hide hso;have HGN:=hide hgn;obtain ⟨z,hz⟩ : ∃ z,pckErr f p (gn : Int) = z:=⟨_,rfl⟩;rw [hz] at hck;have HCK:=hide (hck w1 hpp hio hiq);have hs1:=hb.size;obtain ⟨x,q0,q1,q2,q3,q4⟩:=FrmBox.cells (show FrmBox _ _ W H S O PA n c from hbx);obtain ⟨y,r0,r1⟩:=plan_box hpx;clear hn hP hO hQ hG hbx hpx hb hio hiq hig hpp hck hsi hso hf hon hqn hgn;by_cases h0 : z = 0
 ·have hzz : (z != 0) = false:=by simpa using h0
  have HZ:=hide (hz.trans h0);obtain ⟨bd,hbd⟩ : ∃ bd,l.any badN = bd:=⟨_,rfl⟩;have hcn:=fun (W0 : World) (h1 : Ints W0 GA l)=>containsInts_any GA gn gc l W0 HGN.out h1 hgl;rw [hbd] at hcn;have HCN:=hide hcn;have HBD:=hide hbd;clear hz h0 hcn hbd;go_enter Tryz.func9,Tryz.ntmps9
  go_wp2_with fail;refine (unhide HCK).mono ?_;rintro e w2 ⟨rfl,hE2⟩;have HB2:=hide (HB.out.trans (hE2.mono HB.out.size));have HE2:=hide hE2;clear hE2 hw1 x q0 q1 q2 q3 q4 y r0 r1 HCK
  cases bd with
  | true =>
    have hne : execErr f p l = 3:=by
     unfold execErr;rw [HGN.out,if_neg (fun h=>h HZ.out),if_pos HBD.out]
    have HR:=hide hne;clear hne;go_wp2_with (go_at_call 24; refine ((unhide HCN) _ (HIG.out.later _ HE2.out)).mono ?_; rintro e w3 ⟨rfl,rfl⟩)
    go_ret2;exact ⟨HB2.out,.inl ⟨by rw [HR.out]; decide,by rw [HR.out]; rfl⟩⟩
  | false =>
    have hok : ArOk f p l:=execErr_zero.1 (by
     unfold execErr
     rw [HGN.out,if_neg (fun h=>h HZ.out),if_neg (by rw [HBD.out]; simp)])
    have HOK:=hide hok;have hgpos : 0 < gn:=by have:=hok.pos; have:=HGN.out; omega
    have hgrm : gn ≤ 4096:=by have:=hok.room; have:=HGN.out; omega
    have hfe : frErr f = 0:=frErr_zero.2 hok.frm;have HSI2:=hide (fun (W0 : World) (h1 : Passes W0 PA ps)=>(show frErr f = 0 → Calls Tryz.prog 27 #[.agg #[.int .i64 W,.int .i64 H,.int .i64 S,.int .i64 O,.slice PA n c]] W0 (RetSzsN W0 (frSizes f) 0) from fun e=>by have:=(unhide HSI) W0 h1; rw [e] at this; exact this) hfe);have HSO2:=hide (fun (W0 : World) (h1 : Passes W0 PA ps)=>(show frErr f = 0 → Calls Tryz.prog 28 #[.agg #[.int .i64 W,.int .i64 H,.int .i64 S,.int .i64 O,.slice PA n c]] W0 (RetSrcsN W0 (frSources f) 0) from fun e=>by have:=(unhide HSO) W0 h1; rw [e] at this; exact this) hfe);have HSL:=hide (show (frSizes f).length = n from by rw [sizes_len hok.frm]; exact HFW.out.2.2.2.2);have HRL:=hide (show (frSources f).length = n from by rw [show frSources f = srcsTo f f.P.length from if_pos hfe]; simp [srcsTo,HFW.out.2.2.2.2]);have HCL:=hide (fun (W0 : World) (h1 : Ints W0 GA l)=>cloneInts_any GA gn gc l W0 HGN.out hgpos h1 (by omega));clear hok hfe HSI HSO;have HBX2:=hide (HBX.out.move HE2.out);have HPX2:=hide (HPX.out.move HE2.out);have HP2:=hide (HP.out.move HE2.out);have HIG2:=hide (HIG.out.move HE2.out);obtain ⟨x,q0,q1,q2,q3,q4⟩:=FrmBox.cells (show FrmBox _ _ W H S O PA n c from HBX2.out.now);obtain ⟨y,r0,r1⟩:=plan_box HPX2.out.now;have HCS:=hide (show Keeps w2 (fun w'=>w'.cell? ⟨w.heap.size,0,none⟩ = some (.int .i64 W) ∧ w'.cell? ⟨w.heap.size,1,none⟩ = some (.int .i64 H) ∧ w'.cell? ⟨w.heap.size,2,none⟩ = some (.int .i64 S) ∧ w'.cell? ⟨w.heap.size,3,none⟩ = some (.int .i64 O) ∧ w'.cell? ⟨w.heap.size,4,none⟩ = some (.slice PA n c) ∧ w'.cell? ⟨w.heap.size + 1,0,none⟩ = some (.slice OA on oc) ∧ w'.cell? ⟨w.heap.size + 1,1,none⟩ = some (.slice QA qn qc)) from ⟨⟨q0,q1,q2,q3,q4,r0,r1⟩,fun _ hb=>⟨keepC hb q0,keepC hb q1,keepC hb q2,keepC hb q3,keepC hb q4,keepC hb r0,keepC hb r1⟩⟩);clear HB HBX HPX HIO HIQ HIG HP HE2;go_wp2_with (go_at_call 24; refine ((unhide HCN) _ HIG2.out.now).mono ?_; rintro e w3 ⟨rfl,rfl⟩)
    clear x q0 q1 q2 q3 q4 y r0 r1 HCN
    go_region_held3 (fun w'=>w'.cell? ⟨w.heap.size,0,none⟩ = some (.int .i64 W) ∧ w'.cell? ⟨w.heap.size,1,none⟩ = some (.int .i64 H) ∧ w'.cell? ⟨w.heap.size,2,none⟩ = some (.int .i64 S) ∧ w'.cell? ⟨w.heap.size,3,none⟩ = some (.int .i64 O) ∧ w'.cell? ⟨w.heap.size,4,none⟩ = some (.slice PA n c) ∧ w'.cell? ⟨w.heap.size + 1,0,none⟩ = some (.slice OA on oc) ∧ w'.cell? ⟨w.heap.size + 1,1,none⟩ = some (.slice QA qn qc))
     (first | exact HCS.out.later _ (hB4.alloc hB4.size _) | exact HCS.out.later _ hB4 | exact HCS.out.later _ (Below.refl _ _).drew)
     (first
       | (go_simp; go_at_call 26; refine ((unhide HCL) _ (HIG2.out.later _ (Below.refl _ _).drew)).mono ?_; rintro e w4 ⟨A4,c4,rfl,hO4,hE4⟩; have hB4 : Below w2.heap.size w2 w4:=(Below.refl _ _).drew.trans hE4))
    obtain ⟨g,ex,rfl,hgb,hAr,hgc⟩:=Ar.of_own hO4 (by rw [HGN.out]; exact hgpos);have hs4:=hB4.size;have hal : Below w4.heap.size w4 (w4.alloc (.cells #[.int .i64 W,.int .i64 H,.int .i64 S,.int .i64 O,.slice PA n c,.slice OA on oc,.slice QA qn qc,.slice (some ⟨g,0,none⟩) l.length c4,.slice none 0 0,.slice none 0 0] 65)):=(Below.refl _ _).alloc (Nat.le_refl _) _;have hbw : WorkBox (w4.alloc (.cells #[.int .i64 W,.int .i64 H,.int .i64 S,.int .i64 O,.slice PA n c,.slice OA on oc,.slice QA qn qc,.slice (some ⟨g,0,none⟩) l.length c4,.slice none 0 0,.slice none 0 0] 65)) w4.heap.size W H S O PA n c OA on oc QA qn qc (some ⟨g,0,none⟩) l.length c4 none 0 0 none 0 0:=Blk.new w4 _ (workCells W H S O PA n c OA on oc QA qn qc (some ⟨g,0,none⟩) l.length c4 none 0 0 none 0 0);have HA5:=hide (Keeps.blk (Blk.keep hAr hal));have HY5:=hide (hB4.trans (hal.mono hs4));have hglt : g < w4.heap.size:=Blk.lt hAr;have HW5:=hide (Keeps.blk hbw);obtain ⟨x,q0,q1,q2,q3,q4⟩:=FrmBox.cells (show FrmBox _ _ W H S O PA n c from HBX2.out.later _ HY5.out);have HGC:=hide hgc;have HGB:=hide hgb;clear hO4 hE4 hB4 hAr hal hbw HCS HCL HPX2 HIG2 hgb hgc;go_wp2_with fail;refine ((unhide HSI2) _ (HP2.out.later _ HY5.out)).mono ?_;rintro e w6 ⟨SA,sn,sc,rfl,hsn,hSZ,hSN,hE6⟩;obtain rfl : n = sn:=by rw [← hsn]; exact HSL.out.symm
    have hw6:=HW5.out.later _ hE6;have hs6:=hE6.size;simp only [World.size_alloc] at hs6 hSN;obtain ⟨x',t0,t1,t2,t3,t4,t5,t6,t7,t8,t9⟩:=work_at (show WorkBox _ _ W H S O PA n c OA on oc QA qn qc (some ⟨g,0,none⟩) l.length c4 none 0 0 none 0 0 from hw6);have tf:=Blk.frozen hw6 8;have HY7:=hide ((HY5.out.trans (hE6.mono HY5.out.size)).setCell (p:=⟨w4.heap.size,8,none⟩) hs4 (.slice SA n sc));have HW7:=hide (show WorkBox (w6.setCell ⟨w4.heap.size,8,none⟩ (.slice SA n sc)) w4.heap.size W H S O PA n c OA on oc QA qn qc (some ⟨g,0,none⟩) l.length c4 SA n sc none 0 0 from Blk.set_ hw6 8 (.slice SA n sc));have HA7:=hide (show Ar (w6.setCell ⟨w4.heap.size,8,none⟩ (.slice SA n sc)) g l ex from Blk.far (HA5.out.later _ hE6) (p:=⟨w4.heap.size,8,none⟩) (by simp only; omega) (.slice SA n sc));have HS7:=hide (show Sizes (w6.setCell ⟨w4.heap.size,8,none⟩ (.slice SA n sc)) SA (frSizes f) from Cells.far hSZ hSN (p:=⟨w4.heap.size,8,none⟩) (by simp only; omega) (.slice SA n sc));have HSN:=hide hSN;have hs7 : (w6.setCell ⟨w4.heap.size,8,none⟩ (.slice SA n sc)).heap.size = w6.heap.size:=by simp [World.setCell]
    clear x q0 q1 q2 q3 q4 hSZ hSN hsn hE6 HY5 HA5 HW5 HSI2 hw6;obtain ⟨x,q0,q1,q2,q3,q4⟩:=FrmBox.cells (show FrmBox _ _ W H S O PA n c from HBX2.out.later _ HY7.out);go_wp2_with fail;refine ((unhide HSO2) _ (HP2.out.later _ HY7.out)).mono ?_;rintro e w8 ⟨RA,rn,rc,rfl,hrn,hRI,hE8⟩;obtain rfl : n = rn:=by rw [← hrn]; exact HRL.out.symm
    have hw8:=HW7.out.keep hE8;obtain ⟨x'',v0,v1,v2,v3,v4,v5,v6,v7,v8,v9⟩:=work_at (show WorkBox _ _ W H S O PA n c OA on oc QA qn qc (some ⟨g,0,none⟩) l.length c4 SA n sc none 0 0 from hw8);have vf:=Blk.frozen hw8 9;have HY9:=hide ((HY7.out.trans (hE8.mono HY7.out.size)).setCell (p:=⟨w4.heap.size,9,none⟩) hs4 (.slice RA n rc))
    have HW9:=hide (show WorkAt (w8.setCell ⟨w4.heap.size,9,none⟩ (.slice RA n rc)) w4.heap.size g (w4.heap.size + 1) f PA n c OA on oc QA qn qc c4 SA sc RA rc l ex from
     ⟨by rw [HFW.out.1, HFW.out.2.1, HFW.out.2.2.1, HFW.out.2.2.2.1]; exact Blk.set_ hw8 9 (.slice RA n rc),
       Blk.far (Blk.keep HA7.out hE8) (p:=⟨w4.heap.size,9,none⟩) (by simp only; omega) (.slice RA n rc),
       Cells.far (Cells.keep HS7.out hE8) HSN.out (p:=⟨w4.heap.size,9,none⟩) (by simp only; omega) (.slice RA n rc),
       HSN.out,
       rowsN_ne (grown_put w8 ⟨w4.heap.size,9,none⟩ (.slice RA n rc)) (base:=w4.heap.size + 1) (by simp only; omega) (hRI.mono (by rw [hs7]; omega)),
       by omega,by omega,HGC.out⟩)
    clear x q0 q1 q2 q3 q4 x' t0 t1 t2 t3 t4 t5 t6 t7 t8 t9 tf hE8 hw8 hRI hrn HW7 HA7 HS7 HSO2;go_wp2_with fail;go_ret2;exact ⟨HB2.out.trans (HY9.out.mono HB2.out.size),.inr ⟨HOK.out,w4.heap.size,g,w4.heap.size + 1,c4,SA,sc,RA,rc,ex,by have:=HB2.out.size; omega,by have:=HB2.out.size; have:=HGB.out; simp only [World.size_drew] at this; omega,rfl,HW9.out⟩⟩
 ·have hzz : (z != 0) = true:=by simpa using h0
  have HR:=hide (show execErr f p l = z from by
   unfold execErr
   rw [HGN.out,hz,if_pos h0])
  have HZ:=hide h0;clear hz h0;go_enter Tryz.func9,Tryz.ntmps9
  go_wp2_with fail;refine (unhide HCK).mono ?_;rintro e w2 ⟨rfl,hE2⟩;have HB2:=hide (HB.out.trans (hE2.mono HB.out.size));clear hE2 hw1 x q0 q1 q2 q3 q4 y r0 r1 HCK;go_wp2_with fail;go_ret2;exact ⟨HB2.out,.inl ⟨by rw [HR.out]; exact HZ.out,by rw [HR.out]; rfl⟩⟩
end Go.Proofs.YtibpmogmeoappabGreat
namespace Go.Proofs.YtibpmogmeoappabGreat
open Go.RowKit
theorem run_part (g o a m d : Nat) (lo hi : Int) (hlo : lo = (o : Int)) (hhi : hi = lo + (a : Int)) (h0 : 0 < a) (hd : o + a ≤ d) (w : World) :
 (Instr.slice 25 (.slice (some ⟨g,0,none⟩) m d) (some (.int .i64 lo)) (some (.int .i64 hi)) none).run Tryz.prog w = .ok (.slice (some ⟨g,o,none⟩) a (d - o)) w:=by
 subst hlo hhi
 have hsz : ∀ W : World,(sizeOf (Tryz.prog.elem 25)).run Tryz.prog W = .ok 1 W:=fun W=>by
  rw [show Tryz.prog.elem 25 = 3 from by kernel_rfl];simp [sizeOf]
  rfl
 rw [run_slice_lh w _ _ _ _ (by rw [show Tryz.prog.elem 25 = 3 from by kernel_rfl]; exact Tryz.underlying25) .i64 .i64 (o : Int) ((o : Int) + (a : Int)) (by omega) (by omega) (by omega),hsz];have h1 : ((o : Int) + (a : Int)).toNat = o + a:=by omega
 simp only [Result.andThen,sliced,Int.toNat_natCast,h1];rw [if_neg (by omega : ¬ d = o)];simp [Addr.add]
 try omega
theorem retPutO {w w9 : World} {r base : Nat} {sw sh : Int} {P : List Int} {A : Option Addr} {n c : Nat} (hl : P.length = n) (hO : Own w9 base 3 1 A n c (P.map (Value.int .i64))) (hlt : r < base) (hwr : w.heap.size ≤ r) (hB : Below w.heap.size w w9) (u0 u1 u2 : Value) :
 RetImg w ⟨sw,sh,P⟩ (.returned (.agg #[.int .i64 sw,.int .i64 sh,.slice A n c])) (((w9.setCell ⟨r,0,none⟩ u0).setCell ⟨r,1,none⟩ u1).setCell ⟨r,2,none⟩ u2):=by
 have hI : Ints w9 A P:=hO.cells;have hA : Mine w9 base A:=Mine.of_own hO;exact ⟨sw,sh,P,A,n,c,rfl,hl,rfl,((hI.far hA.new (p:=⟨r,0,none⟩) hlt u0).far hA.new (p:=⟨r,1,none⟩) hlt u1).far hA.new (p:=⟨r,2,none⟩) hlt u2,(((hA.far (p:=⟨r,0,none⟩) hlt u0).far (p:=⟨r,1,none⟩) hlt u1).far (p:=⟨r,2,none⟩) hlt u2).mono (by omega),((hB.setCell (p:=⟨r,0,none⟩) hwr u0).setCell (p:=⟨r,1,none⟩) hwr u1).setCell (p:=⟨r,2,none⟩) hwr u2⟩
theorem workImage_any {w : World} {b g B0 : Nat} {f : Frm} {p : Pln} {PA : Option Addr} {n c : Nat} {OA : Option Addr} {on oc : Nat} {QA : Option Addr} {qn qc d : Nat} {SA : Option Addr} {sc : Nat} {RA : Option Addr} {rc : Nat} {l : List Int} {ex : List Value}
 (hW : WorkAt w b g B0 f PA n c OA on oc QA qn qc d SA sc RA rc l ex) (hok : ArOk f p l) (hn : f.P.length = n) (hQ : Ints w QA p.Places) (hqn : p.Places.length = qn) (k : Nat) (hk : k < n) (hd : 0 ≤ stepOf p.Order k) :
 Calls Tryz.prog 12 #[.pointer (some ⟨b,0,none⟩),.int .i64 (k : Int)] w (RetImg w (lieAt l f p k)):=by
 have hkf : k < f.P.length:=by rw [hn]; exact hk
 have hpl:=hok.place hkf hd;have hsz:=frSize_bd hok.frm hkf;have hlen:=lieAt_len hok hkf hd;have h12:=hok.frm.many;have hroom:=hok.room;have hqf : p.Places.length = f.P.length:=hok.ord.places;obtain ⟨sw,hsw⟩ : ∃ sw,(frSize f k).W = sw:=⟨_,rfl⟩;obtain ⟨sh,hsh⟩ : ∃ sh,(frSize f k).H = sh:=⟨_,rfl⟩;obtain ⟨o,ho⟩ : ∃ o : Nat,p.pl k = (o : Int):=⟨(p.pl k).toNat,by omega⟩;obtain ⟨a,ha⟩ : ∃ a : Nat,areaOf f k = (a : Int):=⟨(areaOf f k).toNat,by omega⟩;have har : sw * sh = (a : Int):=by rw [← ha]; unfold areaOf; rw [hsw,hsh]
 have hlie : lieAt l f p k = ⟨sw,sh,(l.drop o).take a⟩:=by unfold lieAt; rw [hsw,hsh,ho,ha]; rfl
 rw [hlie] at hlen;rw [ha] at hlen hpl hsz;rw [ho] at hpl;simp only at hlen;have hdl:=hW.room;obtain ⟨pk,hpk⟩ : ∃ pk : Int,pk = (o : Int):=⟨_,rfl⟩;obtain ⟨hi,hhi⟩ : ∃ hi : Int,hi = pk + (a : Int):=⟨_,rfl⟩;have hwr1 : IntKind.i64.wrap (sw * sh) = (a : Int):=by rw [har]; exact IntWalk.i64_in _ (by omega)
 have hwr2 : IntKind.i64.wrap (pk + (a : Int)) = hi:=by rw [← hhi]; exact IntWalk.i64_in _ (by omega)
 have hsl:=fun W0 : World=>run_part g o a l.length d pk hi hpk hhi (by omega) (by omega) W0;have HCL:=hide (fun (W0 : World) (h1 : Ints W0 (some ⟨g,0,none⟩) l)=>(show Calls Tryz.prog 26 #[.slice (some ⟨g,o,none⟩) a (d - o)] W0 (RetOwnI W0 ((l.drop o).take a)) from cloneInts_any (some ⟨g,o,none⟩) a (d - o) ((l.drop o).take a) W0 (by omega) (by omega) (by have:=h1.part o a (by omega); rwa [Nat.zero_add] at this) (by omega)));have HLEN:=hide hlen;have hbA : Below w.heap.size w (w.alloc (.cells #[.int .i64 0,.int .i64 0,.slice none 0 0] 29)):=(Below.refl _ _).alloc (Nat.le_refl _) _;obtain ⟨bl,v0,v1,v2,v3,v4,v5,v6,v7,v8,v9⟩:=work_at (hW.keep hbA).box;obtain ⟨zb,zo,hZA,hzb,cz0,cz1⟩:=Sizes.at_ (hW.keep hbA).szs (i:=k) (by rw [sizes_len hok.frm]; exact hkf);obtain rfl:=hZA;rw [size_at hok.frm hkf] at cz0 cz1;rw [hsw] at cz0;rw [hsh] at cz1;obtain ⟨qb,qo,rfl,hqb,cq⟩:=(hQ.keep hbA) k (by rw [List.length_map,hqf]; exact hkf)
 have eq : (p.Places.map (Value.int .i64)).getD k undef = .int .i64 pk:=by
  rw [List.getD_eq_getElem?_getD,List.getElem?_map,List.getElem?_eq_getElem (by rw [hqf]; exact hkf)];simp only [Option.map_some,Option.getD_some];rw [hpk,← ho]
  congr 1
  unfold Pln.pl;rw [List.getD_eq_getElem?_getD,List.getElem?_eq_getElem (by rw [hqf]; exact hkf)];rfl
 rw [eq] at cq;have hk0 : (0 : Int) ≤ (k : Int):=by omega
 have hk1 : (k : Int) < (n : Int):=by omega
 have hk2 : (k : Int) < (qn : Int):=by omega
 have HL:=hide hlie;rw [hlie];have HAR:=hide (Keeps.ints (hW.keep hbA).ar.ints);have HRS:=hide (show Blk (w.alloc (.cells #[.int .i64 0,.int .i64 0,.slice none 0 0] 29)) w.heap.size 29 [.int .i64 0,.int .i64 0,.slice none 0 0] from Blk.new w _ _);have hal : Below (w.alloc (.cells #[.int .i64 0,.int .i64 0,.slice none 0 0] 29)).heap.size (w.alloc (.cells #[.int .i64 0,.int .i64 0,.slice none 0 0] 29)) ((w.alloc (.cells #[.int .i64 0,.int .i64 0,.slice none 0 0] 29)).alloc (.cells #[.int .i64 sw,.int .i64 sh] 53)):=(Below.refl _ _).alloc (Nat.le_refl _) _;have hbs : Blk ((w.alloc (.cells #[.int .i64 0,.int .i64 0,.slice none 0 0] 29)).alloc (.cells #[.int .i64 sw,.int .i64 sh] 53)) (w.heap.size + 1) 53 [.int .i64 sw,.int .i64 sh]:=Blk.newE (by simp);have s0 : ((w.alloc (.cells #[.int .i64 0,.int .i64 0,.slice none 0 0] 29)).alloc (.cells #[.int .i64 sw,.int .i64 sh] 53)).cell? ⟨w.heap.size + 1,0,none⟩ = some (.int .i64 sw):=by rw [hbs.cell]; rfl
 have s1 : ((w.alloc (.cells #[.int .i64 0,.int .i64 0,.slice none 0 0] 29)).alloc (.cells #[.int .i64 sw,.int .i64 sh] 53)).cell? ⟨w.heap.size + 1,1,none⟩ = some (.int .i64 sh):=by rw [hbs.cell]; rfl
 have HCS:=hide (show Keeps ((w.alloc (.cells #[.int .i64 0,.int .i64 0,.slice none 0 0] 29)).alloc (.cells #[.int .i64 sw,.int .i64 sh] 53)) (fun w' : World=>w'.cell? ⟨w.heap.size + 1,0,none⟩ = some (.int .i64 sw) ∧ w'.cell? ⟨w.heap.size + 1,1,none⟩ = some (.int .i64 sh) ∧ w'.cell? ⟨b,6,none⟩ = some (.slice (some ⟨qb,qo,none⟩) qn qc) ∧ w'.cell? ⟨b,7,none⟩ = some (.slice (some ⟨g,0,none⟩) l.length d) ∧ w'.cell? ⟨qb,qo + k,none⟩ = some (.int .i64 pk)) from ⟨⟨s0,s1,keepC hal v6,keepC hal v7,keepC hal cq⟩,fun _ hb=>⟨keepC hb s0,keepC hb s1,keepC hb (keepC hal v6),keepC hb (keepC hal v7),keepC hb (keepC hal cq)⟩⟩);have HAL:=hide hal;have HBA:=hide hbA;have hbw : b < w.heap.size:=hW.box.lt;have hqw : qb < w.heap.size:=(hQ k (by rw [List.length_map,hqf]; exact hkf)).elim fun b' h=>by obtain ⟨o',e,h,_⟩:=h; injection e with e; injection e with e; omega
 have HS3:=hide (fun (w4 : World) (hb : Below ((w.alloc (.cells #[.int .i64 0,.int .i64 0,.slice none 0 0] 29)).alloc (.cells #[.int .i64 sw,.int .i64 sh] 53)).heap.size ((w.alloc (.cells #[.int .i64 0,.int .i64 0,.slice none 0 0] 29)).alloc (.cells #[.int .i64 sw,.int .i64 sh] 53)) w4) (u0 u1 u2 : Value)=>(show (fun w' : World=>w'.cell? ⟨w.heap.size + 1,0,none⟩ = some (.int .i64 sw) ∧ w'.cell? ⟨w.heap.size + 1,1,none⟩ = some (.int .i64 sh) ∧ w'.cell? ⟨b,6,none⟩ = some (.slice (some ⟨qb,qo,none⟩) qn qc) ∧ w'.cell? ⟨b,7,none⟩ = some (.slice (some ⟨g,0,none⟩) l.length d) ∧ w'.cell? ⟨qb,qo + k,none⟩ = some (.int .i64 pk)) (((w4.setCell ⟨w.heap.size,0,none⟩ u0).setCell ⟨w.heap.size,1,none⟩ u1).setCell ⟨w.heap.size,2,none⟩ u2) from by
  obtain ⟨e0,e1,e2,e3,e4⟩:=HCS.out.later _ hb
  exact ⟨cellFar (cellFar (cellFar e0 (by simp)) (by simp)) (by simp),cellFar (cellFar (cellFar e1 (by simp)) (by simp)) (by simp),cellFar (cellFar (cellFar e2 (by simp only; omega)) (by simp only; omega)) (by simp only; omega),cellFar (cellFar (cellFar e3 (by simp only; omega)) (by simp only; omega)) (by simp only; omega),cellFar (cellFar (cellFar e4 (by simp only; omega)) (by simp only; omega)) (by simp only; omega)⟩))
 clear hW hok hQ hqn hd hkf hpl hsz hlen h12 hroom hqf hsw hsh ho ha har hlie hpk hhi hdl eq hal hbA hbs s0 s1;go_enter Tryz.func12,Tryz.ntmps12
 go_wp2_with fail;clear v0 v1 v2 v3 v4 v5 v6 v7 v8 v9 cz0 cz1 cq
 go_region_held3 (fun w' : World=>w'.cell? ⟨w.heap.size + 1,0,none⟩ = some (.int .i64 sw) ∧ w'.cell? ⟨w.heap.size + 1,1,none⟩ = some (.int .i64 sh) ∧ w'.cell? ⟨b,6,none⟩ = some (.slice (some ⟨qb,qo,none⟩) qn qc) ∧ w'.cell? ⟨b,7,none⟩ = some (.slice (some ⟨g,0,none⟩) l.length d) ∧ w'.cell? ⟨qb,qo + k,none⟩ = some (.int .i64 pk))
  (first | exact hS3 _ _ _ | exact HCS.out.later _ hB4 | exact HCS.out.later _ (Below.refl _ _).drew)
  (first
    | (go_simp; go_at_call 26; refine ((unhide HCL) _ (HAR.out.later _ HAL.out.drew)).mono ?_; rintro e w4 ⟨A4,c4,rfl,hO4,hE4⟩; have hB4 : Below ((w.alloc (.cells #[.int .i64 0,.int .i64 0,.slice none 0 0] 29)).alloc (.cells #[.int .i64 sw,.int .i64 sh] 53)).heap.size ((w.alloc (.cells #[.int .i64 0,.int .i64 0,.slice none 0 0] 29)).alloc (.cells #[.int .i64 sw,.int .i64 sh] 53)) w4:=(Below.refl _ _).drew.trans hE4; obtain ⟨r0,r1,r2,r3,r4,r5,r6⟩:=resKeep (HAL.out.trans (hB4.mono HAL.out.size)) HRS.out; have hS3:=(unhide HS3) _ hB4))
 go_wp2_with fail;refine bodyPost_ret (v:=.agg #[.int .i64 sw,.int .i64 sh,.slice A4 ((l.drop o).take a).length c4]) ?_ rfl ?_
 ·simp [results,Tryz.results12,go_sem,r1,r2,r3]
 ·exact retPutO rfl hO4 (by simp <;> omega) (Nat.le_refl _) (HBA.out.trans ((HAL.out.trans (hB4.mono HAL.out.size)).mono HBA.out.size)) _ _ _
end Go.Proofs.YtibpmogmeoappabGreat
namespace Go.Proofs.YtibpmogmeoappabGreat
open Go.RowKit
theorem run_tail (g o m d : Nat) (lo : Int) (hlo : lo = (o : Int)) (h0 : o < m) (hd : m ≤ d) (w : World) :
 (Instr.slice 25 (.slice (some ⟨g,0,none⟩) m d) (some (.int .i64 lo)) none none).run Tryz.prog w = .ok (.slice (some ⟨g,o,none⟩) (m - o) (d - o)) w:=by
 subst hlo
 have hsz : ∀ W : World,(sizeOf (Tryz.prog.elem 25)).run Tryz.prog W = .ok 1 W:=fun W=>by
  rw [show Tryz.prog.elem 25 = 3 from by kernel_rfl];simp [sizeOf]
  rfl
 rw [run_slice_l w _ _ _ _ (by rw [show Tryz.prog.elem 25 = 3 from by kernel_rfl]; exact Tryz.underlying25) .i64 (o : Int) (by omega) (by omega),hsz];simp only [Result.andThen,sliced,Int.toNat_natCast];rw [if_neg (by omega : ¬ d = o)];simp [Addr.add]
 try omega
@[go_sem] theorem run_img_nums (U V : Int) (A : Option Addr) (n c : Nat) (w : World) : (Instr.field 29 (.agg #[.int .i64 U,.int .i64 V,.slice A n c]) 2).run Tryz.prog w = .ok (.slice A n c) w:=by kernel_rfl
def lain (f : Frm) (p : Pln) (l : List Int) (k : Nat) : List Img:=(srcs f k).map (lieOf l f p)
theorem lain_a {f : Frm} {p : Pln} {l : List Int} {k : Nat} (h : hasA (f.pas k).Op = true) : (lain f p l k)[0]? = some (lieOf l f p (writerTo f k (f.pas k).A)):=by
 unfold lain srcs; rw [if_pos h]; rfl
theorem lain_b {f : Frm} {p : Pln} {l : List Int} {k : Nat} (h : hasB (f.pas k).Op = true) (hA : hasA (f.pas k).Op = true) : (lain f p l k)[1]? = some (lieOf l f p (writerTo f k (f.pas k).B)):=by
 unfold lain srcs; rw [if_pos hA,if_pos h]; rfl
theorem workPass_any {w0 w : World} {b g B0 : Nat} {f : Frm} {p : Pln} {PA : Option Addr} {n c : Nat} {OA : Option Addr} {on oc : Nat} {QA : Option Addr} {qn qc d : Nat} {SA : Option Addr} {sc : Nat} {RA : Option Addr} {rc : Nat} {l : List Int} {ex : List Value}
 (hb0 : Below w0.heap.size w0 w) (hgb : w0.heap.size ≤ g) (hW : WorkAt w b g B0 f PA n c OA on oc QA qn qc d SA sc RA rc l ex) (hok : ArOk f p l) (hn : f.P.length = n) (hP : Passes w0 PA f.P) (hQ : Ints w0 QA p.Places) (hqn : p.Places.length = qn) (k : Nat) (hk : k < n) (hd : 0 ≤ stepOf p.Order k) :
 Calls Tryz.prog 10 #[.pointer (some ⟨b,0,none⟩),.int .i64 (k : Int)] w fun e w'=>e = .returned (.tuple #[]) ∧ w.grownBy w' (some g) ∧ Ar w' g (stepAr f p l k) ex:=by
 have hkf : k < f.P.length:=by rw [hn]; exact hk
 have hpl:=hok.place hkf hd;have hsz:=frSize_bd hok.frm hkf;have hlen:=doImg_len hok hkf hd;have hroom:=hok.room;have h12:=hok.frm.many;have hqf : p.Places.length = f.P.length:=hok.ord.places;have hdl:=hW.room;have hMD:=doMade hok hkf hd;obtain ⟨o,ho⟩ : ∃ o : Nat,p.pl k = (o : Int):=⟨(p.pl k).toNat,by omega⟩;obtain ⟨pk,hpk⟩ : ∃ pk : Int,pk = (o : Int):=⟨_,rfl⟩;have hstep : stepAr f p l k = putAt l o (doImg f p l k).P:=by unfold stepAr; rw [ho]; rfl
 rw [ho] at hpl;have hfit : o + (doImg f p l k).P.length ≤ l.length:=by omega
 have hpos : 0 < (doImg f p l k).P.length:=by omega
 have hsl:=fun W0 : World=>run_tail g o l.length d pk hpk (by omega) hdl W0;obtain ⟨pb,po,LA,m,dd,ps,rfl,hpb,hps,c0,c1,c2,c3,c4,c5,hm,hL,hml⟩:=hP.at_ k hkf;have hPK : f.pas k = ps:=hps;have hA0:=lain_a (f:=f) (p:=p) (l:=l) (k:=k);have hB0:=lain_b (f:=f) (p:=p) (l:=l) (k:=k);have hdo : doImg f p l k = passImg f.W f.H (f.pas k) (lieOf l f p (writerTo f k (f.pas k).A)) (lieOf l f p (writerTo f k (f.pas k).B)):=rfl;rw [hPK] at hMD hA0 hB0 hdo;obtain ⟨di,hdi⟩ : ∃ di,doImg f p l k = di:=⟨_,rfl⟩;rw [hdi] at hdo hstep hfit hpos
 have HMD:=hide (fun (W0 : World) (IA : Option Addr) (N cN : Nat) (h1 : Lamps W0 LA ps.L) (h2 : Imgs W0 IA (lain f p l k)) (h3 : (lain f p l k).length = N)=>(show Calls Tryz.prog 29 #[.agg #[.int .i64 f.W,.int .i64 f.H,.int .i64 f.S,.int .i64 f.O,.slice (some ⟨pb,po,none⟩) n c],.agg #[.int .i64 ps.Op,.int .i64 ps.To,.int .i64 ps.A,.int .i64 ps.B,.int .i64 ps.K,.slice LA m dd],.slice IA N cN] W0 (RetImg W0 di) from by
  rw [hdo]; exact made_all f.W f.H f.S f.O (some ⟨pb,po,none⟩) n c ps LA m dd IA N cN (lain f p l k) _ _ W0 h1 hm h2 h3 hMD hA0 (fun h=>hB0 h (hasA_of_B h))))
 have HIMC:=hide (fun (W0 : World) (h1 : Below w.heap.size w W0) (j : Nat) (hj : j < n) (hdj : 0 ≤ stepOf p.Order j)=>workImage_any (hW.keep h1) hok hn (hQ.keep (hb0.trans (h1.mono hb0.size))) hqn j hj hdj);obtain ⟨bl,v0,v1,v2,v3,v4,v5,v6,v7,v8,v9⟩:=work_at hW.box;obtain ⟨qb,qo,rfl,hqb,cq⟩:=hQ k (by rw [List.length_map,hqf]; exact hkf)
 have eq : (p.Places.map (Value.int .i64)).getD k undef = .int .i64 pk:=by
  rw [List.getD_eq_getElem?_getD,List.getElem?_map,List.getElem?_eq_getElem (by rw [hqf]; exact hkf)];simp only [Option.map_some,Option.getD_some];rw [hpk,← ho]
  congr 1
  unfold Pln.pl;rw [List.getD_eq_getElem?_getD,List.getElem?_eq_getElem (by rw [hqf]; exact hkf)];rfl
 rw [eq] at cq;have hsr:=frSources_at hok.frm (k:=k) hkf;obtain ⟨rb,ro,RB,sm,sd,rfl,hrb0,hrb,cr,hsm,hsI,hsN⟩:=hW.src k _ hsr;have hs2 : sm ≤ 2:=by rw [← hsm]; exact srcs_le f k
 have HSI:=hide (Keeps.ints hsI);have HSM:=hide hsm;have hk0 : (0 : Int) ≤ (k : Int):=by omega
 have hk1 : (k : Int) < (n : Int):=by omega
 have hk2 : (k : Int) < (qn : Int):=by omega
 have HSRC:=hide (show ∀ v ∈ srcs f k,(0 ≤ v ∧ v < n) ∧ 0 ≤ stepOf p.Order v from fun v hv=>⟨by have:=hok.frm.src hkf hv; omega,hok.srcDone hd hv⟩);have HLIE:=hide (show ∀ v : Nat,lieOf l f p (v : Int) = lieAt l f p v from fun v=>by unfold lieOf; rw [if_neg (by omega),Int.toNat_natCast]);have HWA:=hide hW;have HQ0:=hide (show qb < w0.heap.size ∧ pb < w0.heap.size from ⟨hqb,hpb⟩);have HC:=hide (show Keeps w0 (fun w' : World=>w'.cell? ⟨qb,qo + k,none⟩ = some (.int .i64 pk) ∧ w'.cell? ⟨pb,po + k * 6,none⟩ = some (.int .i64 ps.Op) ∧ w'.cell? ⟨pb,po + k * 6 + 1,none⟩ = some (.int .i64 ps.To) ∧ w'.cell? ⟨pb,po + k * 6 + 2,none⟩ = some (.int .i64 ps.A) ∧ w'.cell? ⟨pb,po + k * 6 + 3,none⟩ = some (.int .i64 ps.B) ∧ w'.cell? ⟨pb,po + k * 6 + 4,none⟩ = some (.int .i64 ps.K) ∧ w'.cell? ⟨pb,po + k * 6 + 5,none⟩ = some (.slice LA m dd)) from ⟨⟨cq,c0,c1,c2,c3,c4,c5⟩,fun _ hb=>⟨keepC hb cq,keepC hb c0,keepC hb c1,keepC hb c2,keepC hb c3,keepC hb c4,keepC hb c5⟩⟩);have HLA:=hide (hL.keep hb0);have HB0:=hide hb0;have HST:=hide (show stepAr f p l k = putAt l o di.P ∧ o + di.P.length ≤ l.length ∧ 0 < di.P.length ∧ g ≠ b ∧ w0.heap.size ≤ g from ⟨hstep,hfit,hpos,fun e=>hW.ne e.symm,hgb⟩);obtain ⟨i0,hi0,hz0,hz1,hz2⟩:=info_parts Tryz.infoImg;obtain ⟨j0,hj0,jz0,jz1,jz2⟩:=info_parts Tryz.info3;have HI0:=hide hi0;have HZ0:=hide hz0;have HZ1:=hide hz1;have HZ2:=hide hz2;have HJ0:=hide (show (Tryz.prog.info? 3).map (·.size) = some 1 from by rw [hj0]; simp [jz1])
 clear hW hok hn hP hQ hqn hd hkf hpl hsz hlen hroom h12 hqf hdl hMD ho hpk hps hPK hA0 hB0 hdo hdi hstep hfit hpos hpb hqb c0 c1 c2 c3 c4 c5 hm hL hml eq cq hsr hrb0 hsI hsN hsm hi0 hz0 hz1 hz2 hj0 jz0 jz1 jz2 hb0 hgb;go_enter Tryz.func10,Tryz.ntmps10
 go_wp2_with fail;go_loopw [4,6,15] (fun s _ i wr=>∃ (j : Nat) (A : Option Addr) (dj : Nat) (es : List Sp),j ≤ sm ∧ i = .int .i64 j ∧ s = .slice A j dj ∧ Hid (GRow ImgK 3 29 wr w.heap.size A j dj ((lain f p l k).take j) es) ∧ Hid (Below w.heap.size w wr)) (fun _ _ i _=>sm - (intOf i).toNat)
 case atStart=>exact ⟨0,none,0,[],Nat.zero_le _,rfl,rfl,hide (GRow.nil _ _ _ _ _),hide (Below.refl _ _)⟩
 case round =>
  obtain ⟨j,A,dj,es,hj,rfl,rfl,HR,HB⟩:=hrel;clear v0 v1 v2 v3 v4 v5 v6 v7 v8 v9;by_cases hlt : j < sm
  ·have hj0 : (0 : Int) ≤ (j : Int):=by omega
   have hj1 : (j : Int) < (sm : Int):=by omega
   obtain ⟨sb,so,v,rfl,hsb,hv,hsc⟩:=(HSI.out.later _ HB.out).at_ j (by have:=HSM.out; omega);have hmem:=List.mem_of_getElem? hv;obtain ⟨⟨e0,e1⟩,e2⟩:=HSRC.out v hmem;obtain ⟨x,hx⟩ : ∃ x : Nat,v = (x : Int):=⟨v.toNat,by omega⟩;subst hx;have hTK : (lain f p l k)[j]? = some (lieAt l f p x):=by unfold lain; rw [List.getElem?_map,hv]; simp only [Option.map_some]; rw [HLIE.out]
   have HTK:=hide hTK;have HIM:=hide ((unhide HIMC) _ HB.out x (by omega) e2);generalize hxi : lieAt l f p x = xi at *;have HOW:=hide (fun bb (h : (Value.slice A j dj).ownBlock = some bb)=>(HR.out.own.lt h).2);clear hmem e0 e1 e2 hv hTK hxi;go_wp2_with fail;refine (unhide HIM).mono ?_;rintro e w2 ⟨W1,H1,P1,A1,n1,c1,hr,hn1,rfl,hI1,hA1,hE2⟩;have HR2:=hide (HR.out.keep hE2);have hB2:=HB.out.trans (hE2.mono HB.out.size);have hs2':=hB2.size;have HB2:=hide hB2;have HI1:=hide hI1;have HA1:=hide hA1;have HN1:=hide hn1;have HRX:=hide hr;have hi0:=HI0.out;have hz0:=HZ0.out;have hz1:=HZ1.out;have hz2:=HZ2.out;clear hB2 hI1 hA1 hE2 hn1 hr;go_wp2_with (at_builtin; go_loud (refine wpList_app1A w2 w2.heap.size rfl rfl _ _ 68 rfl w.heap.size 29 i0 _ 3 40 Tryz.underlying68 hi0 hz0 hz1 hz2 rfl (by omega) A j dj _ [.int .i64 W1,.int .i64 H1,.slice A1 n1 c1] rfl HR2.out.own rfl rfl (one_img _ _ _ _ _) (by omega) (by omega) hs2' ?_; intro A9 c9 w9 hown9 hg9 hat9))
   go_roundw
   case rel =>
    refine ⟨j + 1,A9,c9,es ++ [([.int .i64 W1,.int .i64 H1,.slice A1 n1 c1],A1,P1.map (.int .i64))],by omega,by go_num,rfl,?_,?_⟩
    ·rw [List.take_add_one,HTK.out,← HRX.out]
     refine hide (HR2.out.app (x:=⟨W1,H1,P1⟩) ⟨n1,c1,rfl,HN1.out,rfl⟩ HI1.out (fun hne a ha e=>?_) hown9 hg9 hat9);have h1:=HOW.out _ e;have h2 : wr.heap.size ≤ a.block:=HA1.out.new a ha;omega
    ·exact hide (Below.grownOwn (HB2.out.alloc HB2.out.size _) (HR2.out.own.alloc _) hg9 (by simp only [World.size_alloc]; omega) (Nat.le_refl _))
   case measure=>simp [intOf]; omega
  ·obtain rfl : j = sm:=by omega
   have HRI:=hide (show Imgs wr A (lain f p l k) from by
    have h:=HR.out.imgs;rw [List.take_of_length_le (by unfold lain; rw [List.length_map,HSM.out]; exact Nat.le_refl _)] at h
    exact h)
   have HLL:=hide (show (lain f p l k).length = j from by unfold lain; rw [List.length_map]; exact HSM.out);have hb0r:=HB0.out.trans (HB.out.mono HB0.out.size);have hWr:=HWA.out.keep HB.out;obtain ⟨bl',v0,v1,v2,v3,v4,v5,v6,v7,v8,v9⟩:=work_at hWr.box;obtain ⟨cq,c0,c1,c2,c3,c4,c5⟩:=HC.out.later _ hb0r;have HWR:=hide hWr;have HBR:=hide hb0r;have HLR:=hide (HLA.out.keep HB.out);have HKS:=hide (show Keeps wr (fun w' : World=>w'.cell? ⟨b,0,none⟩ = some (.int .i64 f.W) ∧ w'.cell? ⟨b,1,none⟩ = some (.int .i64 f.H) ∧ w'.cell? ⟨b,2,none⟩ = some (.int .i64 f.S) ∧ w'.cell? ⟨b,3,none⟩ = some (.int .i64 f.O) ∧ w'.cell? ⟨b,4,none⟩ = some (.slice (some ⟨pb,po,none⟩) n c) ∧ w'.cell? ⟨b,6,none⟩ = some (.slice (some ⟨qb,qo,none⟩) qn qc) ∧ w'.cell? ⟨b,7,none⟩ = some (.slice (some ⟨g,0,none⟩) l.length d) ∧ w'.cell? ⟨qb,qo + k,none⟩ = some (.int .i64 pk) ∧ w'.cell? ⟨pb,po + k * 6,none⟩ = some (.int .i64 ps.Op) ∧ w'.cell? ⟨pb,po + k * 6 + 1,none⟩ = some (.int .i64 ps.To) ∧ w'.cell? ⟨pb,po + k * 6 + 2,none⟩ = some (.int .i64 ps.A) ∧ w'.cell? ⟨pb,po + k * 6 + 3,none⟩ = some (.int .i64 ps.B) ∧ w'.cell? ⟨pb,po + k * 6 + 4,none⟩ = some (.int .i64 ps.K) ∧ w'.cell? ⟨pb,po + k * 6 + 5,none⟩ = some (.slice LA m dd)) from ⟨⟨v0,v1,v2,v3,v4,v6,v7,cq,c0,c1,c2,c3,c4,c5⟩,fun _ hb=>⟨keepC hb v0,keepC hb v1,keepC hb v2,keepC hb v3,keepC hb v4,keepC hb v6,keepC hb v7,keepC hb cq,keepC hb c0,keepC hb c1,keepC hb c2,keepC hb c3,keepC hb c4,keepC hb c5⟩⟩)
   have HH:=hide (fun (w2 w9 : World) (hB2 : Below wr.heap.size wr w2) (hg9 : w2.grownBy w9 (some g))=>(show (fun w' : World=>w'.cell? ⟨b,0,none⟩ = some (.int .i64 f.W) ∧ w'.cell? ⟨b,1,none⟩ = some (.int .i64 f.H) ∧ w'.cell? ⟨b,2,none⟩ = some (.int .i64 f.S) ∧ w'.cell? ⟨b,3,none⟩ = some (.int .i64 f.O) ∧ w'.cell? ⟨b,4,none⟩ = some (.slice (some ⟨pb,po,none⟩) n c) ∧ w'.cell? ⟨b,6,none⟩ = some (.slice (some ⟨qb,qo,none⟩) qn qc) ∧ w'.cell? ⟨b,7,none⟩ = some (.slice (some ⟨g,0,none⟩) l.length d) ∧ w'.cell? ⟨qb,qo + k,none⟩ = some (.int .i64 pk) ∧ w'.cell? ⟨pb,po + k * 6,none⟩ = some (.int .i64 ps.Op) ∧ w'.cell? ⟨pb,po + k * 6 + 1,none⟩ = some (.int .i64 ps.To) ∧ w'.cell? ⟨pb,po + k * 6 + 2,none⟩ = some (.int .i64 ps.A) ∧ w'.cell? ⟨pb,po + k * 6 + 3,none⟩ = some (.int .i64 ps.B) ∧ w'.cell? ⟨pb,po + k * 6 + 4,none⟩ = some (.int .i64 ps.K) ∧ w'.cell? ⟨pb,po + k * 6 + 5,none⟩ = some (.slice LA m dd)) w9 from by
    obtain ⟨_,u0,u1,u2,u3,u4,u5,u6,u7,u8,u9⟩:=work_at (Blk.but (HWR.out.keep hB2).box hg9 (fun e=>HST.out.2.2.2.1 e.symm));have hb9 : Below w0.heap.size w0 w9:=below_of_grown (grown_trB (grown_ofB (HBR.out.trans (hB2.mono HBR.out.size)) _) hg9) (Nat.le_refl _) HST.out.2.2.2.2;obtain ⟨cq,c0,c1,c2,c3,c4,c5⟩:=HC.out.later _ hb9
    exact ⟨u0,u1,u2,u3,u4,u6,u7,cq,c0,c1,c2,c3,c4,c5⟩))
   clear hWr hb0r v5 v8 v9 HR;go_wp2_with fail
   go_region_held3 (fun w' : World=>w'.cell? ⟨b,0,none⟩ = some (.int .i64 f.W) ∧ w'.cell? ⟨b,1,none⟩ = some (.int .i64 f.H) ∧ w'.cell? ⟨b,2,none⟩ = some (.int .i64 f.S) ∧ w'.cell? ⟨b,3,none⟩ = some (.int .i64 f.O) ∧ w'.cell? ⟨b,4,none⟩ = some (.slice (some ⟨pb,po,none⟩) n c) ∧ w'.cell? ⟨b,6,none⟩ = some (.slice (some ⟨qb,qo,none⟩) qn qc) ∧ w'.cell? ⟨b,7,none⟩ = some (.slice (some ⟨g,0,none⟩) l.length d) ∧ w'.cell? ⟨qb,qo + k,none⟩ = some (.int .i64 pk) ∧ w'.cell? ⟨pb,po + k * 6,none⟩ = some (.int .i64 ps.Op) ∧ w'.cell? ⟨pb,po + k * 6 + 1,none⟩ = some (.int .i64 ps.To) ∧ w'.cell? ⟨pb,po + k * 6 + 2,none⟩ = some (.int .i64 ps.A) ∧ w'.cell? ⟨pb,po + k * 6 + 3,none⟩ = some (.int .i64 ps.B) ∧ w'.cell? ⟨pb,po + k * 6 + 4,none⟩ = some (.int .i64 ps.K) ∧ w'.cell? ⟨pb,po + k * 6 + 5,none⟩ = some (.slice LA m dd))
    (first | exact hs9 | exact HKS.out.later _ hB2 | exact HKS.out.later _ (Below.refl _ _).drew)
    (first
      | (go_simp; go_at_call 29; refine ((unhide HMD) _ A j dj (HLR.out.keep (Below.refl _ _).drew) (HRI.out.keep (Below.refl _ _).drew) HLL.out).mono ?_; rintro e w2 ⟨W1,H1,P1,A1,n1,cc1,hr,hn1,rfl,hI1,hA1,hE2⟩; have hB2 : Below wr.heap.size wr w2:=(Below.refl _ _).drew.trans hE2)
      | (refine step_copyB rfl _ _ _ _ rfl 3 Tryz.underlying25 HJ0.out g o (l.length - o) (d - o) n1 cc1 A1 rfl rfl _ 3 (HWR.out.keep hB2).ar (P1.map (Value.int .i64)) (by have h:=HST.out.2.1; rw [← hr] at h; simp only at h; rw [List.length_map,hn1]; simp only [Nat.min_def]; split <;> omega) (by have h:=HST.out.2.2.1; rw [← hr] at h; simpa using h) hI1 (by have h:=HST.out.2.1; rw [← hr] at h; simp only [List.length_append,List.length_map] at h ⊢; omega) (ints_one _) ?_; intro w9 HB9 hg9; have hs9:=(unhide HH) _ _ hB2 hg9))
   go_wp2_with fail;go_end0
   refine ⟨rfl,grown_trB (grown_ofB (HB.out.trans (hB2.mono HB.out.size)) _) hg9,?_⟩;have h1:=splice_put l di.P ex o HST.out.2.1;rw [HST.out.1]
   show Blk w9 g _ _
   rw [← h1,← hr];exact HB9.out
end Go.Proofs.YtibpmogmeoappabGreat
namespace Go.Proofs.YtibpmogmeoappabGreat
open Go.RowKit
def RetIntsE (w : World) (L : List Int) (z : Int) (e : Ending) (w' : World) : Prop :=
 ∃ (A : Option Addr) (n c : Nat),e = .returned (.tuple #[.slice A n c,.int .i64 z]) ∧ L.length = n ∧ Ints w' A L ∧ Below w.heap.size w w'
theorem stepAns_no {f : Frm} {p : Pln} {l : List Int} {m : Int} (h : stepErr f p l m ≠ 0) : stepAns f p l m = []:=if_neg h
theorem execStep_any (W H S O : Int) (PA : Option Addr) (n c : Nat) (ps : List Pas) (OA : Option Addr) (on oc : Nat) (QA : Option Addr) (qn qc : Nat) (p : Pln) (GA : Option Addr) (gn gc : Nat) (l : List Int) (m : Int) (w : World) (hn : ps.length = n) (hP : Passes w PA ps)
 (hO : Ints w OA p.Order) (hon : p.Order.length = on) (hol : on ≤ 9223372036854775807) (hoc : on ≤ oc) (hQ : Ints w QA p.Places) (hqn : p.Places.length = qn) (hql : qn ≤ 9223372036854775807) (hG : Ints w GA l) (hgn : l.length = gn) (hgl : gn ≤ 9223372036854775807) :
 Calls Tryz.prog 21 #[.agg #[.int .i64 W,.int .i64 H,.int .i64 S,.int .i64 O,.slice PA n c],.agg #[.slice OA on oc,.slice QA qn qc],.slice GA gn gc,.int .i64 m] w (RetIntsE w (stepAns ⟨W,H,S,O,ps⟩ p l m) (stepErr ⟨W,H,S,O,ps⟩ p l m)):=by
 have hb:=((Below.refl w.heap.size w).alloc (Nat.le_refl _) (.cells #[.int .i64 W,.int .i64 H,.int .i64 S,.int .i64 O,.slice PA n c] 24)).alloc (by simp) (.cells #[.slice OA on oc,.slice QA qn qc] 27);have hbx:=(show FrmBox (w.alloc (.cells #[.int .i64 W,.int .i64 H,.int .i64 S,.int .i64 O,.slice PA n c] 24)) w.heap.size W H S O PA n c from Blk.new w 24 (frmCells W H S O PA n c)).alloc (.cells #[.slice OA on oc,.slice QA qn qc] 27);have hpx : Blk ((w.alloc (.cells #[.int .i64 W,.int .i64 H,.int .i64 S,.int .i64 O,.slice PA n c] 24)).alloc (.cells #[.slice OA on oc,.slice QA qn qc] 27)) (w.heap.size + 1) 27 [.slice OA on oc,.slice QA qn qc]:=Blk.newE (by simp);have hio:=hO.keep hb;have hiq:=hQ.keep hb;have hpp:=hP.keep hb;have hbg:=execBegin_any W H S O PA n c ps OA on oc QA qn qc p GA gn gc l _ hn (hP.keep hb) (hO.keep hb) hon hol hoc (hQ.keep hb) hqn hql (hG.keep hb) hgn hgl;obtain ⟨f,hf⟩ : ∃ f : Frm,f = ⟨W,H,S,O,ps⟩:=⟨_,rfl⟩;have hfp : f.P = ps:=by rw [hf]
 have hfn : f.P.length = n:=by rw [hfp]; exact hn
 rw [← hf] at hbg ⊢;rw [← hfp] at hpp;obtain ⟨w1,hw1⟩ : ∃ w1,((w.alloc (.cells #[.int .i64 W,.int .i64 H,.int .i64 S,.int .i64 O,.slice PA n c] 24)).alloc (.cells #[.slice OA on oc,.slice QA qn qc] 27)) = w1:=⟨_,rfl⟩;rw [hw1] at hb hbx hpx hio hiq hpp hbg;have HB:=hide hb;have HPX:=hide (Keeps.blk hpx);have HIO:=hide (Keeps.ints hio);have HIQ:=hide (Keeps.ints hiq);have HP:=hide (Keeps.passes hpp);have HBG:=hide hbg;have HON:=hide hon;have HQN:=hide hqn;have HFN:=hide hfn;obtain ⟨x,q0,q1,q2,q3,q4⟩:=FrmBox.cells (show FrmBox _ _ W H S O PA n c from hbx);obtain ⟨y,r0,r1⟩:=plan_box hpx;have hs1:=hb.size;clear hn hP hO hQ hG hbx hpx hb hio hiq hpp hbg hf hfp hfn hon hqn hgn;go_enter Tryz.func21,Tryz.ntmps21
 go_wp2_with fail;refine (unhide HBG).mono ?_;rintro e w2 ⟨hE2,⟨hne,rfl⟩ | ⟨hok,b,g,B0,d,SA,sc,RA,rc,ex,hbb,hgb,rfl,hW⟩⟩
 ·obtain ⟨z,hz⟩ : ∃ z,execErr f p l = z:=⟨_,rfl⟩
  have hz2 : (z != 0) = true:=by rw [← hz]; simpa using hne
  have hst : stepErr f p l m = z:=by unfold stepErr; rw [if_pos hne,hz]
  have HR:=hide hst;have HA:=hide (stepAns_no (f:=f) (p:=p) (l:=l) (m:=m) (by rw [hst,← hz]; exact hne));have HB2:=hide (HB.out.trans (hE2.mono HB.out.size));rw [hz];clear hE2 hne hz hw1 hst HBG x q0 q1 q2 q3 q4 y r0 r1;go_wp2_with fail;go_ret2;rw [HA.out,HR.out];exact ⟨none,0,0,rfl,rfl,Ints.nil _ _,HB2.out⟩
 ·have hz0:=execErr_zero.2 hok
  have HOK:=hide hok;have HZ:=hide hz0;have HW:=hide hW;have HE2:=hide hE2;have HGB:=hide hgb;have HB2:=hide (HB.out.trans (hE2.mono HB.out.size));obtain ⟨y',r0',r1'⟩:=plan_box (HPX.out.later _ hE2);clear hok hz0 hW hE2 hgb hw1 HBG x q0 q1 q2 q3 q4 y r0 r1;by_cases h1 : m < 0
  ·have hst : stepErr f p l m = 3:=by unfold stepErr; rw [if_neg (fun e=>e HZ.out),if_pos (Or.inl h1)]
   have HR:=hide hst;have HA:=hide (stepAns_no (f:=f) (p:=p) (l:=l) (m:=m) (by rw [hst]; decide));clear hst;go_wp2_with fail;all_goals try (exfalso; omega)
   go_ret2;rw [HA.out,HR.out];exact ⟨none,0,0,rfl,rfl,Ints.nil _ _,HB2.out⟩
  ·by_cases h2 : (on : Int) ≤ m
   ·have hst : stepErr f p l m = 3:=by unfold stepErr; rw [if_neg (fun e=>e HZ.out),if_pos (Or.inr (by rw [HON.out]; exact h2))]
    have HR:=hide hst;have HA:=hide (stepAns_no (f:=f) (p:=p) (l:=l) (m:=m) (by rw [hst]; decide));clear hst;go_wp2_with fail;all_goals try (exfalso; omega)
    go_ret2;rw [HA.out,HR.out];exact ⟨none,0,0,rfl,rfl,Ints.nil _ _,HB2.out⟩
   ·obtain ⟨i,hi⟩ : ∃ i : Nat,m = (i : Int):=⟨m.toNat,by omega⟩
    subst hi;have hil : i < p.Order.length:=by rw [HON.out]; omega
    have hst : stepErr f p l (i : Int) = 0:=by unfold stepErr; rw [if_neg (fun e=>e HZ.out),if_neg (by rw [HON.out]; omega)]
    obtain ⟨⟨o0,o1⟩,o2⟩:=HOK.out.ordAt hil;obtain ⟨k,hk⟩ : ∃ k : Nat,p.ord i = (k : Int):=⟨(p.ord i).toNat,by omega⟩;have hans : stepAns f p l (i : Int) = stepAr f p l k:=by unfold stepAns; rw [if_pos hst,Int.toNat_natCast,hk,Int.toNat_natCast]
    rw [hk,Int.toNat_natCast] at o2;have hkn : k < n:=by have:=HFN.out; omega
    have hlen:=stepAr_len HOK.out (k:=k) (by rw [HFN.out]; exact hkn) o2;have HPS:=hide (workPass_any HE2.out HGB.out HW.out HOK.out HFN.out HP.out.now HIQ.out.now HQN.out k hkn o2);obtain ⟨ob,oo,rfl,hob,co⟩:=(HIO.out.later _ HE2.out) i (by rw [List.length_map]; exact hil)
    have ev : (p.Order.map (Value.int .i64)).getD i undef = .int .i64 (k : Int):=by
     rw [← hk,List.getD_eq_getElem?_getD,List.getElem?_map,p.ord_at hil];rfl
    rw [ev] at co;have hi1 : (i : Int) < (on : Int):=by omega
    have HR:=hide hst;have HA:=hide hans;have HL:=hide hlen;clear hst hans hlen ev hk o0 o1 o2 hil;go_wp2_with fail;all_goals try (exfalso; omega)
    refine (unhide HPS).mono ?_;rintro e w3 ⟨rfl,hg3,hA3⟩;have hW3:=HW.out.next hg3 hA3 HL.out;obtain ⟨bl,v0,v1,v2,v3,v4,v5,v6,v7,v8,v9⟩:=work_at hW3.box;have HB3:=hide (HB.out.trans ((below_of_grown (grown_trB (grown_ofB HE2.out _) hg3) (Nat.le_refl _) HGB.out).mono HB.out.size));have HA3:=hide hA3.ints;clear hg3 hA3 hW3 HPS co r0' r1' v0 v1 v2 v3 v4 v5 v6 v8 v9;go_wp2_with fail;go_ret2;rw [HA.out,HR.out];exact ⟨_,_,_,rfl,rfl,HA3.out,HB3.out⟩
theorem execRun_any (W H S O : Int) (PA : Option Addr) (n c : Nat) (ps : List Pas) (OA : Option Addr) (on oc : Nat) (QA : Option Addr) (qn qc : Nat) (p : Pln) (GA : Option Addr) (gn gc : Nat) (l : List Int) (w : World) (hn : ps.length = n) (hP : Passes w PA ps)
 (hO : Ints w OA p.Order) (hon : p.Order.length = on) (hol : on ≤ 9223372036854775807) (hoc : on ≤ oc) (hQ : Ints w QA p.Places) (hqn : p.Places.length = qn) (hql : qn ≤ 9223372036854775807) (hG : Ints w GA l) (hgn : l.length = gn) (hgl : gn ≤ 9223372036854775807) :
 Calls Tryz.prog 4 #[.agg #[.int .i64 W,.int .i64 H,.int .i64 S,.int .i64 O,.slice PA n c],.agg #[.slice OA on oc,.slice QA qn qc],.slice GA gn gc] w (RetImgErr w (runAns ⟨W,H,S,O,ps⟩ p l) (execErr ⟨W,H,S,O,ps⟩ p l)):=by
 have hb:=(((Below.refl w.heap.size w).alloc (Nat.le_refl _) (.cells #[.int .i64 W,.int .i64 H,.int .i64 S,.int .i64 O,.slice PA n c] 24)).alloc (by simp) (.cells #[.slice OA on oc,.slice QA qn qc] 27)).alloc (by simp only [World.size_alloc]; omega) (.cells #[.int .i64 0,.int .i64 0,.slice none 0 0] 29);have hbx:=((show FrmBox (w.alloc (.cells #[.int .i64 W,.int .i64 H,.int .i64 S,.int .i64 O,.slice PA n c] 24)) w.heap.size W H S O PA n c from Blk.new w 24 (frmCells W H S O PA n c)).alloc (.cells #[.slice OA on oc,.slice QA qn qc] 27)).alloc (.cells #[.int .i64 0,.int .i64 0,.slice none 0 0] 29);have hpx : Blk (((w.alloc (.cells #[.int .i64 W,.int .i64 H,.int .i64 S,.int .i64 O,.slice PA n c] 24)).alloc (.cells #[.slice OA on oc,.slice QA qn qc] 27)).alloc (.cells #[.int .i64 0,.int .i64 0,.slice none 0 0] 29)) (w.heap.size + 1) 27 [.slice OA on oc,.slice QA qn qc]:=(show Blk ((w.alloc (.cells #[.int .i64 W,.int .i64 H,.int .i64 S,.int .i64 O,.slice PA n c] 24)).alloc (.cells #[.slice OA on oc,.slice QA qn qc] 27)) (w.heap.size + 1) 27 [.slice OA on oc,.slice QA qn qc] from Blk.newE (by simp)).alloc _;have hrx : Blk (((w.alloc (.cells #[.int .i64 W,.int .i64 H,.int .i64 S,.int .i64 O,.slice PA n c] 24)).alloc (.cells #[.slice OA on oc,.slice QA qn qc] 27)).alloc (.cells #[.int .i64 0,.int .i64 0,.slice none 0 0] 29)) (w.heap.size + 2) 29 [.int .i64 0,.int .i64 0,.slice none 0 0]:=Blk.newE (by simp);have hio:=hO.keep hb;have hiq:=hQ.keep hb;have hpp:=hP.keep hb;have hbg:=execBegin_any W H S O PA n c ps OA on oc QA qn qc p GA gn gc l _ hn (hP.keep hb) (hO.keep hb) hon hol hoc (hQ.keep hb) hqn hql (hG.keep hb) hgn hgl;have hla:=fun (W0 : World) (h1 : Passes W0 PA ps)=>last_any W H S O PA n c ps W0 hn h1;obtain ⟨f,hf⟩ : ∃ f : Frm,f = ⟨W,H,S,O,ps⟩:=⟨_,rfl⟩;have hfp : f.P = ps:=by rw [hf]
 have hfn : f.P.length = n:=by rw [hfp]; exact hn
 rw [← hf] at hbg hla ⊢;rw [← hfp] at hpp hla;obtain ⟨w1,hw1⟩ : ∃ w1,((w.alloc (.cells #[.int .i64 W,.int .i64 H,.int .i64 S,.int .i64 O,.slice PA n c] 24)).alloc (.cells #[.slice OA on oc,.slice QA qn qc] 27)).alloc (.cells #[.int .i64 0,.int .i64 0,.slice none 0 0] 29) = w1:=⟨_,rfl⟩;rw [hw1] at hb hbx hpx hrx hio hiq hpp hbg;have HB:=hide hb;have HBX:=hide (Keeps.blk hbx);have HPX:=hide (Keeps.blk hpx);have HRX:=hide hrx;have HIO:=hide (Keeps.ints hio);have HIQ:=hide (Keeps.ints hiq);have HP:=hide (Keeps.passes hpp);have HBG:=hide hbg;have HLA:=hide hla;have HON:=hide hon;have HQN:=hide hqn;have HFN:=hide hfn;obtain ⟨x,q0,q1,q2,q3,q4⟩:=FrmBox.cells (show FrmBox _ _ W H S O PA n c from hbx);obtain ⟨y,r0,r1⟩:=plan_box hpx;have hs1 : w.heap.size + 3 ≤ w1.heap.size:=by have:=hrx.lt; omega
 clear hn hP hO hQ hG hbx hpx hrx hb hio hiq hpp hbg hla hf hfp hfn hon hqn hgn;go_enter Tryz.func4,Tryz.ntmps4
 go_wp2_with fail;refine (unhide HBG).mono ?_;rintro e w2 ⟨hE2,⟨hne,rfl⟩ | ⟨hok,b,g,B0,d,SA,sc,RA,rc,ex,hbb,hgb,rfl,hW⟩⟩
 ·obtain ⟨z,hz⟩ : ∃ z,execErr f p l = z:=⟨_,rfl⟩
  have hz2 : (z != 0) = true:=by rw [← hz]; simpa using hne
  have HA:=hide (show runAns f p l = Img.none from if_neg hne);have HZZ:=hide hz;have HB2:=hide (HB.out.trans (hE2.mono HB.out.size));obtain ⟨t0,t1,t2,t3,t4,t5,t6⟩:=resKeep hE2 HRX.out;rw [hz];clear hE2 hne hz hw1 HBG x q0 q1 q2 q3 q4 y r0 r1;go_wp2_with fail;refine bodyPost_ret (v:=.tuple #[.agg #[.int .i64 0,.int .i64 0,.slice none 0 0],.int .i64 z]) ?_ rfl ?_
  ·simp [results,Tryz.results4,go_sem,t1,t2,t3]
  ·rw [HA.out,HZZ.out]
   exact ⟨0,0,[],none,0,0,rfl,rfl,rfl,Ints.nil _ _,Mine.none_ _ _,((HB2.out.setCell (p:=⟨w.heap.size + 2,0,none⟩) (by simp) _).setCell (p:=⟨w.heap.size + 2,1,none⟩) (by simp) _).setCell (p:=⟨w.heap.size + 2,2,none⟩) (by simp) _⟩
 ·have hz0:=execErr_zero.2 hok
  have hans : runAns f p l = runImg f p l:=if_pos hz0;have HOK:=hide hok;have HANS:=hide hans;have HZ:=hide hz0;have HW:=hide hW;have HE2:=hide hE2;have HGB:=hide hgb;have hbn : b ≠ w.heap.size + 2:=by omega
  obtain ⟨y',r0',r1'⟩:=plan_box (HPX.out.later _ hE2);clear hok hz0 hans hW hE2 hgb hw1 HBG x q0 q1 q2 q3 q4 y r0 r1;go_wp2_with fail;go_loopw [11,28] (fun _ s wr=>∃ i : Nat,i ≤ on ∧ s = .int .i64 i ∧ Hid (WorkAt wr b g B0 f PA n c OA on oc QA qn qc d SA sc RA rc (runTo f p l i) ex) ∧ Hid (w2.grownBy wr (some g))) (fun _ s _=>on - (intOf s).toNat)
  case atStart=>exact ⟨0,Nat.zero_le _,rfl,HW,hide (grown_rfl _ _)⟩
  case round =>
   obtain ⟨i,hi,rfl,HWR,HGR⟩:=hrel;have HBR:=hide (below_of_grown (grown_trB (grown_ofB HE2.out _) HGR.out) (Nat.le_refl _) HGB.out);clear r0' r1';by_cases hlt : i < on
   ·have hil : i < p.Order.length:=by rw [HON.out]; exact hlt
    have hRO:=(runTo_ok HOK.out (i:=i) (by omega)).1;obtain ⟨⟨o0,o1⟩,o2⟩:=hRO.ordAt hil;obtain ⟨k,hk⟩ : ∃ k : Nat,p.ord i = (k : Int):=⟨(p.ord i).toNat,by omega⟩;have hnext : runTo f p l (i + 1) = stepAr f p (runTo f p l i) k:=by simp only [runTo]; rw [hk,Int.toNat_natCast]
    rw [hk,Int.toNat_natCast] at o2;have hkn : k < n:=by have:=HFN.out; omega
    have hlen:=stepAr_len hRO (k:=k) (by rw [HFN.out]; exact hkn) o2;have HPS:=hide (workPass_any HBR.out HGB.out HWR.out hRO HFN.out HP.out.now HIQ.out.now HQN.out k hkn o2);obtain ⟨ob,oo,rfl,hob,co⟩:=(HIO.out.later _ HBR.out) i (by rw [List.length_map]; exact hil)
    have ev : (p.Order.map (Value.int .i64)).getD i undef = .int .i64 (k : Int):=by
     rw [← hk,List.getD_eq_getElem?_getD,List.getElem?_map,p.ord_at hil];rfl
    rw [ev] at co;have hi0 : (0 : Int) ≤ (i : Int):=by omega
    have hi1 : (i : Int) < (on : Int):=by omega
    have HNX:=hide hnext;have HL:=hide hlen;clear hnext hlen ev hk o0 o1 o2 hil hRO;go_wp2_with fail;refine (unhide HPS).mono ?_;rintro e w3 ⟨rfl,hg3,hA3⟩;have HW3:=hide (HWR.out.next hg3 hA3 HL.out);have HG3:=hide (grown_trB HGR.out hg3);clear hg3 hA3 HPS co;go_wp2_with fail;go_roundw
    case rel=>exact ⟨i + 1,by omega,by go_num,hide (by rw [HNX.out]; exact HW3.out),HG3⟩
    case measure=>simp [intOf]; omega
   ·obtain rfl : i = on:=by omega
    have hRO:=(runTo_ok HOK.out (i:=i) (by rw [HON.out]; exact Nat.le_refl _)).1;obtain ⟨⟨l0,l1⟩,l2⟩:=hRO.last;obtain ⟨k,hk⟩ : ∃ k : Nat,frLast f = (k : Int):=⟨(frLast f).toNat,by omega⟩;have hrun : runImg f p l = lieAt (runTo f p l i) f p k:=by unfold runImg; rw [HON.out,hk,Int.toNat_natCast]
    rw [hk,Int.toNat_natCast] at l2;have hkn : k < n:=by have:=HFN.out; omega
    have hfe:=frErr_zero.2 HOK.out.frm;have hla:=(unhide HLA) wr (HP.out.later _ HBR.out);rw [show lastAns f = frLast f from if_pos hfe,hfe,hk] at hla;have HLC:=hide hla;obtain ⟨x,q0,q1,q2,q3,q4⟩:=FrmBox.cells (show FrmBox _ _ W H S O PA n c from HBX.out.later _ HBR.out);have HRO:=hide hRO;have HL2:=hide l2;have HRUN:=hide hrun;clear hla l0 l1 l2 hk hrun hfe hRO;go_wp2_with fail;refine (unhide HLC).mono ?_;rintro e w4 ⟨rfl,hE4⟩;have HB4:=hide (HBR.out.trans (hE4.mono HBR.out.size));have HIM:=hide (workImage_any (HWR.out.keep hE4) HRO.out HFN.out (HIQ.out.later _ HB4.out) HQN.out k hkn HL2.out);rw [← HRUN.out] at HIM;clear hE4 HLC x q0 q1 q2 q3 q4;go_wp2_with fail;refine (unhide HIM).mono ?_;rintro e w5 ⟨U1,H1,P1,A1,n1,c1,hr,hn1,rfl,hI1,hA1,hE5⟩;obtain ⟨t0,t1,t2,t3,t4,t5,t6⟩:=resKeep (HB4.out.trans (hE5.mono HB4.out.size)) HRX.out;have HI1:=hide hI1;have HA1:=hide hA1;have HB5:=hide (HB.out.trans ((HB4.out.trans (hE5.mono HB4.out.size)).mono HB.out.size));have hlt4 : w.heap.size + 2 < w4.heap.size:=by have:=HB4.out.size; omega
    clear hI1 hA1 hE5 HIM;go_wp2_with fail;refine bodyPost_ret (v:=.tuple #[.agg #[.int .i64 U1,.int .i64 H1,.slice A1 n1 c1],.int .i64 0]) ?_ rfl ?_
    ·simp [results,Tryz.results4,go_sem,t1,t2,t3]
    ·rw [HANS.out,HZ.out]
     exact ⟨U1,H1,P1,A1,n1,c1,hr,hn1,rfl,((HI1.out.far HA1.out.new (p:=⟨w.heap.size + 2,0,none⟩) hlt4 _).far HA1.out.new (p:=⟨w.heap.size + 2,1,none⟩) hlt4 _).far HA1.out.new (p:=⟨w.heap.size + 2,2,none⟩) hlt4 _,
      (((HA1.out.far (p:=⟨w.heap.size + 2,0,none⟩) hlt4 _).far (p:=⟨w.heap.size + 2,1,none⟩) hlt4 _).far (p:=⟨w.heap.size + 2,2,none⟩) hlt4 _).mono (by omega),((HB5.out.setCell (p:=⟨w.heap.size + 2,0,none⟩) (by simp) _).setCell (p:=⟨w.heap.size + 2,1,none⟩) (by simp) _).setCell (p:=⟨w.heap.size + 2,2,none⟩) (by simp) _⟩
end Go.Proofs.YtibpmogmeoappabGreat
