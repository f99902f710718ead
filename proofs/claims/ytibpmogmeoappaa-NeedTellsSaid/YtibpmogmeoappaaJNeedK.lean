/- Walk: CullOf. -/
import Derived.Test.YtibpmogmeoappaaJNeed3
import Derived.Test.YtibpmogmeoappaaJNeed2
import Derived.Test.YtibpmogmeoappaaJMem
set_option maxRecDepth 100000
set_option maxHeartbeats 4000000
namespace Go.Proofs.Ytibpmogmeoappaa
open Go.RowKit
def RetFrmV (w : World) (f : Frm) (e : Ending) (w' : World) : Prop :=
 ∃ (A : Option Addr) (n c : Nat) (es : List (List Value × Option Addr × List Value)),e = .returned (.agg #[.int .i64 f.W,.int .i64 f.H,.int .i64 f.S,.int .i64 f.O,.slice A n c]) ∧ f.P.length = n ∧ GRow PasK 6 110 w' w.heap.size A n c f.P es ∧ (∀ e ∈ es,e.2.2 ≠ [] → NewFrom w.heap.size e.2.1) ∧ Below w.heap.size w w'
theorem GRow.mono {α : Type} {E : Kind α} {k : Nat} {ty : TypeId} {w : World} {base base' : Nat} {A : Option Addr} {n c : Nat} {xs : List α} {es : List (List Value × Option Addr × List Value)} (h : GRow E k ty w base A n c xs es) (hb : base' ≤ base) : GRow E k ty w base' A n c xs es:=⟨h.own.mono hb,h.spelt⟩
structure CRel2 (W H S O : Int) (w1 : World) (B L : Nat) (xs : List Pas) (es : List (List Value × Option Addr × List Value)) (A : Option Addr) (n c : Nat) (wr : World) : Prop where
 out : Blk wr B 63 (frmCells W H S O A n c)
 own : Own wr (B + 1) 110 6 A n c (es.flatMap (·.1))
 num : es.length = xs.length
 spelt : ∀ (i : Nat) (x : Pas) (e : List Value × Option Addr × List Value),xs[i]? = some x → es[i]? = some e → PasK x e.1 e.2.1 e.2.2 ∧ Cells w1 e.2.1 e.2.2
 new : ∀ e ∈ es,e.2.2 ≠ [] → NewFrom L e.2.1
 below : Below B w1 wr
 len : xs.length = n
theorem CRel2.row {W H S O : Int} {w1 : World} {B L : Nat} {xs : List Pas} {es : List (List Value × Option Addr × List Value)} {A : Option Addr} {n c : Nat} {wr : World} (h : CRel2 W H S O w1 B L xs es A n c wr) (hB : w1.heap.size ≤ B) (hL : L ≤ B + 1) :
 GRow PasK 6 110 wr L A n c xs es:=by
 refine ⟨h.own.mono hL,h.num,fun i x e h1 h2=>?_⟩;obtain ⟨hE,hC⟩:=h.spelt i x e h1 h2;refine ⟨hE,hC.keep (h.below.mono hB),fun hd a ha hc=>?_⟩;obtain ⟨b,o,e1,hlt,-⟩:=hC 0 (List.length_pos_iff.2 hd);rw [ha] at e1;cases e1;have:=(h.own.lt hc).1;simp only at this;omega
theorem CRel2.app {W H S O : Int} {w1 : World} {B L : Nat} {xs : List Pas} {es : List (List Value × Option Addr × List Value)} {A A' LB : Option Addr} {n c c' : Nat} {cs ds : List Value} {wr wx w' : World} {p : Pas} (h : CRel2 W H S O w1 B L xs es A n c wr)
 (hE : PasK p cs LB ds) (hC : Cells w1 LB ds) (hne : ds ≠ [] → NewFrom L LB) (hx : Below wr.heap.size wr wx)
 (ho : Own w' (B + 1) 110 6 A' (n + 1) c' (es.flatMap (·.1) ++ cs)) (hg : wx.grownBy w' (Value.slice A n c).ownBlock) :
 CRel2 W H S O w1 B L (xs ++ [p]) (es ++ [(cs,LB,ds)]) A' (n + 1) c' (w'.setCell ⟨B,4,none⟩ (.slice A' (n + 1) c')):=by
 have hlt:=Blk.lt h.out;have hob:=Blk.grown (Blk.keep h.out hx) (h.own.keep hx) hg (Nat.lt_succ_self B);refine ⟨hob.set_ 4 (.slice A' (n + 1) c'),Own.far (by rw [List.flatMap_append]; simpa using ho) (p:=⟨B,4,none⟩) (Nat.lt_succ_self B) _,by rw [List.length_append,List.length_append,h.num]; rfl,fun i x e h1 h2=>?_,fun e he=>?_,?_,by rw [List.length_append,h.len]; rfl⟩
 ·by_cases hi : i < xs.length
  ·rw [List.getElem?_append_left hi] at h1
   rw [List.getElem?_append_left (by rw [h.num]; exact hi)] at h2;exact h.spelt i x e h1 h2
  ·rw [List.getElem?_append_right (by omega)] at h1
   rw [List.getElem?_append_right (by rw [h.num]; omega),h.num] at h2
   have hz : i - xs.length = 0:=by
    by_cases hz : i - xs.length = 0
    ·exact hz
    ·rw [List.getElem?_eq_none (by simp; omega)] at h1; cases h1
   rw [hz] at h1 h2;simp only [List.getElem?_cons_zero,Option.some.injEq] at h1 h2;subst h1 h2;exact ⟨hE,hC⟩
 ·rcases List.mem_append.1 he with he | he
  ·exact h.new e he
  ·simp only [List.mem_singleton] at he; subst he; exact hne
 ·have hba:=h.below.trans (hx.mono (by omega))
  exact (Below.grownOwn hba (h.own.keep hx) hg (by have:=hx.size; omega) (Nat.le_succ B)).setCell (p:=⟨B,4,none⟩) (Nat.le_refl _) _
theorem cullOf_ref (W H S O : Int) (PA : Option Addr) (n c : Nat) (ps : List Pas) (w : World) (hn : ps.length = n) (hP : Passes w PA ps) (hf0 : FrmOk ⟨W,H,S,O,ps⟩) :
 Calls Try.prog 49 #[.agg #[.int .i64 W,.int .i64 H,.int .i64 S,.int .i64 O,.slice PA n c]] w (RetFrmV w (frCull ⟨W,H,S,O,ps⟩)):=by
 have hmany:=hf0.many;simp only [hn] at hmany
 have h8 : ∀ p ∈ ps,p.L.length ≤ 8:=by
  intro p hp;obtain ⟨i,hi,rfl⟩:=List.getElem_of_mem hp;have h1:=(hf0.pass (k:=i) hi).few
  have e : Frm.pas ⟨W,H,S,O,ps⟩ i = ps[i]:=by
   unfold Frm.pas;rw [List.getD_eq_getElem?_getD,List.getElem?_eq_getElem hi];rfl
  rw [e] at h1;exact h1
 obtain ⟨w1,hw1⟩ : ∃ w1,(w.alloc (.cells #[.int .i64 W,.int .i64 H,.int .i64 S,.int .i64 O,.slice PA n c] 63)).alloc (.cells #[.int .i64 0,.int .i64 0,.int .i64 0,.int .i64 0,.slice none 0 0] 63) = w1:=⟨_,rfl⟩;have hb : Below w.heap.size w w1:=by rw [← hw1]; exact ((Below.refl w.heap.size w).alloc (Nat.le_refl _) _).alloc (by simp) _
 have hsz : w1.heap.size = w.heap.size + 2:=by rw [← hw1]; simp
 have hbx : FrmBox w1 w.heap.size W H S O PA n c:=by
  rw [← hw1]; exact (show FrmBox (w.alloc (.cells #[.int .i64 W,.int .i64 H,.int .i64 S,.int .i64 O,.slice PA n c] 63)) w.heap.size W H S O PA n c from Blk.new w 63 (frmCells W H S O PA n c)).alloc _
 have hrs : Blk w1 (w.heap.size + 1) 63 (frmCells 0 0 0 0 none 0 0):=by rw [← hw1]; exact Blk.newE (by simp)
 have HP:=hide (Keeps.passes (hP.keep hb));have HKO:=hide (fun (W0 : World) (h1 : Passes W0 PA ps)=>keptOf_ref W H S O PA n c ps W0 hn h1 hf0);have HOW:=hide (fun (W0 : World) (h1 : Passes W0 PA ps)=>ownFrame_any W H S O PA n c ps W0 hn h1 hmany.2 h8);obtain ⟨f,hf⟩ : ∃ f : Frm,f = ⟨W,H,S,O,ps⟩:=⟨_,rfl⟩;have HFP:=hide (show f.P = ps from by rw [hf]);have HFQ:=hide (show f.W = W ∧ f.H = H ∧ f.S = S ∧ f.O = O from by rw [hf]; exact ⟨rfl,rfl,rfl,rfl⟩);have HKL:=hide (show (keptL f).length = n from by rw [keptL_len,HFP.out]; exact hn);rw [← hf] at HKO ⊢;have HB1:=hide hb;have HX1:=hide (Keeps.blk hbx);have HR1:=hide (Keeps.blk hrs);have HN:=hide hn;obtain ⟨x,q0,q1,q2,q3,q4⟩:=FrmBox.cells hbx;clear hP hb hbx hrs hn h8 hf0 hf;obtain ⟨i0,hi0,hz0,hz1,hz2⟩:=info_parts Try.infoPas;go_enter Try.func49,Try.ntmps49
 go_wp2_with fail;refine ((unhide HKO) _ HP.out.now).mono ?_;rintro e w2 ⟨KA,kn,kc,rfl,hkn,hKC,hE2⟩;obtain rfl : n = kn:=by have h:=HKL.out; omega
 have hs2:=hE2.size;rw [hsz] at hs2;have HB2:=hide (HB1.out.trans (hE2.mono (by omega)));have HX2:=hide (HX1.out.move hE2);have HR2:=hide (HR1.out.move hE2);have HP2:=hide (HP.out.move hE2);have HKC:=hide (Keeps.cells hKC);obtain ⟨y,r0,r1,r2,r3,r4⟩:=FrmBox.cells (show FrmBox _ _ W H S O PA n c from HX2.out.now);clear x q0 q1 q2 q3 q4 HB1 HX1 HR1 HP HKO hkn hKC hE2 hw1 hsz;go_wp2_with fail;refine ((unhide HOW) _ HP2.out.now).mono ?_;rintro e w3 ⟨OA,on,oc,es0,rfl,hon,hrow,hnew,hE3⟩;obtain rfl : n = on:=by have h:=HN.out; simp only at hon; omega
 have hs3:=hE3.size;have HB3:=hide (HB2.out.trans (hE3.mono (by omega)));have HR3:=hide (HR2.out.move hE3);have HKC3:=hide (HKC.out.move hE3);have hal : Below w3.heap.size w3 (w3.alloc (.cells #[.int .i64 W,.int .i64 H,.int .i64 S,.int .i64 O,.slice OA n oc] 63)):=(Below.refl _ _).alloc (Nat.le_refl _) _;have HOX:=hide (Blk.new w3 63 (frmCells W H S O OA n oc));have HROW:=hide hrow;have HNEW:=hide hnew;obtain ⟨w4,hw4⟩ : ∃ w4,w3.alloc (.cells #[.int .i64 W,.int .i64 H,.int .i64 S,.int .i64 O,.slice OA n oc] 63) = w4:=⟨_,rfl⟩;have hs4 : w4.heap.size = w3.heap.size + 1:=by rw [← hw4]; simp
 have hox : Blk w4 w3.heap.size 63 (frmCells W H S O OA n oc):=by rw [← hw4]; exact HOX.out
 have hal4 : Below w3.heap.size w3 w4:=by rw [← hw4]; exact hal
 have hK0 : CRel2 W H S O w4 (w3.heap.size + 1) w2.heap.size [] [] none 0 0 (w4.alloc (.cells #[.int .i64 W,.int .i64 H,.int .i64 S,.int .i64 O,.slice none 0 0] 63)) :=
  ⟨Blk.newE (cs:=frmCells W H S O none 0 0) hs4,Own.nil _ _ _ _,rfl,fun i x e h1=>by simp at h1,fun e he=>by (cases he),(Below.refl _ _).alloc (by omega) _,rfl⟩
 have HK0:=hide hK0;have HAL4:=hide hal4;have HOX4:=hide hox;obtain ⟨z,u0,u1,u2,u3,u4⟩:=FrmBox.cells (show FrmBox w4 w3.heap.size W H S O OA n oc from hox);obtain ⟨v,v0,v1,v2,v3,v4⟩:=FrmBox.cells (show FrmBox (w4.alloc (.cells #[.int .i64 W,.int .i64 H,.int .i64 S,.int .i64 O,.slice OA n oc] 63)) (w3.heap.size + 1) W H S O OA n oc from Blk.newE (cs:=frmCells W H S O OA n oc) hs4);have v5:=Blk.frozen (Blk.newE (w:=w4) (t:=63) (cs:=frmCells W H S O OA n oc) hs4) 4;clear hrow hnew hal hox hal4 hK0 HOX HP2 HX2 HR2 HKC HOW HB2 hE3 hon y r0 r1 r2 r3 r4;go_wp2_with fail;clear z u0 u1 u2 u3 u4 v v0 v1 v2 v3 v4 v5 hw4;go_loopw [6] (fun i wr=>∃ (k m : Nat) (A : Option Addr) (d : Nat) (es : List (List Value × Option Addr × List Value)),k ≤ n ∧ i = .int .i64 k ∧ Hid (CRel2 W H S O w4 (w3.heap.size + 1) w2.heap.size (cullTo f k) es A m d wr)) (fun i _=>n - (intOf i).toNat)
 case atStart=>exact ⟨0,0,none,0,[],Nat.zero_le _,rfl,HK0⟩
 case round =>
  obtain ⟨k,m,A,d,es,hk,rfl,HR⟩:=hrel;have hbw : Below w4.heap.size w4 wr:=by rw [hs4]; exact HR.out.below
  by_cases hlt : k < n
  ·have hk0 : (0 : Int) ≤ (k : Int):=by omega
   have hk1 : (k : Int) < (n : Int):=by omega
   obtain ⟨kb,ko,rfl,hkb,ckb⟩:=(HKC3.out.later _ (HAL4.out.trans (hbw.mono HAL4.out.size))) k (by rw [List.length_map,HKL.out]; exact hlt)
   have hkv : (List.map Value.bool (keptL f)).getD k undef = Value.bool ((keptL f).getD k false):=by
    rw [List.getD_eq_getElem?_getD,List.getElem?_map,List.getD_eq_getElem?_getD,List.getElem?_eq_getElem (by rw [HKL.out]; exact hlt)];rfl
   rw [hkv] at ckb;clear hkv
   cases hkk : (keptL f).getD k false with
   | false =>
     rw [hkk] at ckb;go_wp2_with fail;exact ⟨⟨k + 1,m,A,d,es,by omega,by simp,hide (by rw [cullTo_succ,hkk]; simpa using HR.out)⟩,by simp [intOf]; omega⟩
   | true =>
     rw [hkk] at ckb;have hkl : k < ps.length:=by rw [HN.out]; exact hlt
     obtain ⟨g,cs,LB,ds,hOA,hgb,hgl,hmem,⟨lm,ld,rfl,hlm,rfl,hl8⟩,hLC,hne,hcs⟩:=(HROW.out.keep HAL4.out).at2 pasK_len (List.getElem?_eq_getElem hkl) (by omega)
     have hgl3 : g < w3.heap.size:=by
      refine (HROW.out.own.lt (show (Value.slice OA n oc).ownBlock = some g from ?_)).2;rw [hOA];rfl
     obtain rfl:=hOA;have hpk : f.pas k = ps[k]:=by unfold Frm.pas; rw [HFP.out,List.getD_eq_getElem?_getD,List.getElem?_eq_getElem hkl]; rfl
     generalize hp : ps[k] = p at *;have c0 : w4.cell? ⟨g,k * 6,none⟩ = some (.int .i64 p.Op):=(hcs 0 (by omega)).1;have c1 : w4.cell? ⟨g,k * 6 + 1,none⟩ = some (.int .i64 p.To):=(hcs 1 (by omega)).1;have c2 : w4.cell? ⟨g,k * 6 + 2,none⟩ = some (.int .i64 p.A):=(hcs 2 (by omega)).1;have c3 : w4.cell? ⟨g,k * 6 + 3,none⟩ = some (.int .i64 p.B):=(hcs 3 (by omega)).1;have c4 : w4.cell? ⟨g,k * 6 + 4,none⟩ = some (.int .i64 p.K):=(hcs 4 (by omega)).1;have c5 : w4.cell? ⟨g,k * 6 + 5,none⟩ = some (.slice LB lm ld):=(hcs 5 (by omega)).1;obtain ⟨z,u0,u1,u2,u3,u4⟩:=FrmBox.cells (show FrmBox wr w3.heap.size W H S O (some ⟨g,0,none⟩) n oc from HOX4.out.keep hbw);obtain ⟨v,v0,v1,v2,v3,v4⟩:=FrmBox.cells (show FrmBox wr (w3.heap.size + 1) W H S O A m d from HR.out.out);have d0:=keepC hbw c0;have d1:=keepC hbw c1;have d2:=keepC hbw c2;have d3:=keepC hbw c3;have d4:=keepC hbw c4;have d5:=keepC hbw c5;have HPK:=hide hpk;have HLC:=hide hLC;have HNE:=hide (fun h=>(HNEW.out _ hmem h).mono (show w2.heap.size ≤ w2.heap.size + 3 from Nat.le_add_right _ _))
     have hm12 : m ≤ 12:=by
      have h1:=HR.out.len;have h2 : (cullTo f k).length ≤ k:=cullTo_le f k;omega
     have hsr:=hbw.size;clear hcs hne hgb hmem hLC hpk;go_wp2_with fail
     have HSS:=hide (show ∀ x1 x2 : World,Below (w3.heap.size + 2) x1 x2 → (fun w' : World=>w'.cell? ⟨w3.heap.size + 1,4,none⟩ = some (.slice A m d) ∧ w'.cell? ⟨w3.heap.size,4,none⟩ = some (.slice (some ⟨g,0,none⟩) n oc) ∧ w'.cell? ⟨g,k * 6,none⟩ = some (.int .i64 p.Op) ∧ w'.cell? ⟨g,k * 6 + 1,none⟩ = some (.int .i64 p.To) ∧ w'.cell? ⟨g,k * 6 + 2,none⟩ = some (.int .i64 p.A) ∧ w'.cell? ⟨g,k * 6 + 3,none⟩ = some (.int .i64 p.B) ∧ w'.cell? ⟨g,k * 6 + 4,none⟩ = some (.int .i64 p.K) ∧ w'.cell? ⟨g,k * 6 + 5,none⟩ = some (.slice LB lm ld)) x1 → (fun w' : World=>w'.cell? ⟨w3.heap.size + 1,4,none⟩ = some (.slice A m d) ∧ w'.cell? ⟨w3.heap.size,4,none⟩ = some (.slice (some ⟨g,0,none⟩) n oc) ∧ w'.cell? ⟨g,k * 6,none⟩ = some (.int .i64 p.Op) ∧ w'.cell? ⟨g,k * 6 + 1,none⟩ = some (.int .i64 p.To) ∧ w'.cell? ⟨g,k * 6 + 2,none⟩ = some (.int .i64 p.A) ∧ w'.cell? ⟨g,k * 6 + 3,none⟩ = some (.int .i64 p.B) ∧ w'.cell? ⟨g,k * 6 + 4,none⟩ = some (.int .i64 p.K) ∧ w'.cell? ⟨g,k * 6 + 5,none⟩ = some (.slice LB lm ld)) x2 from
      fun _ _ hb h=>⟨(hb.cell (p:=⟨w3.heap.size + 1,4,none⟩) (by simp only; omega)).trans h.1,(hb.cell (p:=⟨w3.heap.size,4,none⟩) (by simp only; omega)).trans h.2.1,(hb.cell (p:=⟨g,k * 6,none⟩) (by simp only; omega)).trans h.2.2.1,(hb.cell (p:=⟨g,k * 6 + 1,none⟩) (by simp only; omega)).trans h.2.2.2.1,(hb.cell (p:=⟨g,k * 6 + 2,none⟩) (by simp only; omega)).trans h.2.2.2.2.1,(hb.cell (p:=⟨g,k * 6 + 3,none⟩) (by simp only; omega)).trans h.2.2.2.2.2.1,(hb.cell (p:=⟨g,k * 6 + 4,none⟩) (by simp only; omega)).trans h.2.2.2.2.2.2.1,(hb.cell (p:=⟨g,k * 6 + 5,none⟩) (by simp only; omega)).trans h.2.2.2.2.2.2.2⟩)
     have hS0 : (fun w' : World=>w'.cell? ⟨w3.heap.size + 1,4,none⟩ = some (.slice A m d) ∧ w'.cell? ⟨w3.heap.size,4,none⟩ = some (.slice (some ⟨g,0,none⟩) n oc) ∧ w'.cell? ⟨g,k * 6,none⟩ = some (.int .i64 p.Op) ∧ w'.cell? ⟨g,k * 6 + 1,none⟩ = some (.int .i64 p.To) ∧ w'.cell? ⟨g,k * 6 + 2,none⟩ = some (.int .i64 p.A) ∧ w'.cell? ⟨g,k * 6 + 3,none⟩ = some (.int .i64 p.B) ∧ w'.cell? ⟨g,k * 6 + 4,none⟩ = some (.int .i64 p.K) ∧ w'.cell? ⟨g,k * 6 + 5,none⟩ = some (.slice LB lm ld)) wr.drew:=⟨v4,u4,d0,d1,d2,d3,d4,d5⟩;refine wp_region_B (fun w' : World=>w'.cell? ⟨w3.heap.size + 1,4,none⟩ = some (.slice A m d) ∧ w'.cell? ⟨w3.heap.size,4,none⟩ = some (.slice (some ⟨g,0,none⟩) n oc) ∧ w'.cell? ⟨g,k * 6,none⟩ = some (.int .i64 p.Op) ∧ w'.cell? ⟨g,k * 6 + 1,none⟩ = some (.int .i64 p.To) ∧ w'.cell? ⟨g,k * 6 + 2,none⟩ = some (.int .i64 p.A) ∧ w'.cell? ⟨g,k * 6 + 3,none⟩ = some (.int .i64 p.B) ∧ w'.cell? ⟨g,k * 6 + 4,none⟩ = some (.int .i64 p.K) ∧ w'.cell? ⟨g,k * 6 + 5,none⟩ = some (.slice LB lm ld)) (fun j=>decide (j = 10)) (by kernel_rfl) ?_;refine AnyB.fr (i:=0) (.pointer (some ⟨w3.heap.size + 1,4,none⟩)) rfl (by kernel_rfl) (fun w'=>?_) ?_
     ·go_simp
     try simp only [Act.put,lsa]
     refine AnyB.tk (i:=1) (.slice A m d) rfl (by kernel_rfl) (fun w' hS'=>?_) hS0 ?_
     ·obtain ⟨e0,e1,e2,e3,e4,e5,e6,e7⟩:=hS'
      go_simp
     try simp only [Act.put]
     refine AnyB.fr (i:=2) (.pointer (some ⟨w3.heap.size,4,none⟩)) rfl (by kernel_rfl) (fun w'=>?_) ?_
     ·go_simp
     try simp only [Act.put]
     refine AnyB.tk (i:=3) (.slice (some ⟨g,0,none⟩) n oc) rfl (by kernel_rfl) (fun w' hS'=>?_) hS0 ?_
     ·obtain ⟨e0,e1,e2,e3,e4,e5,e6,e7⟩:=hS'
      go_simp
     try simp only [Act.put]
     refine AnyB.fr (i:=4) (.int .i64 k) rfl (by kernel_rfl) (fun w'=>?_) ?_
     ·go_simp
     try simp only [Act.put]
     refine AnyB.fr (i:=5) (.pointer (some ⟨g,k * 6,none⟩)) rfl (by kernel_rfl) (fun w'=>?_) ?_
     ·go_simp
     try simp only [Act.put]
     refine AnyB.tk (i:=6) (.agg #[.int .i64 p.Op,.int .i64 p.To,.int .i64 p.A,.int .i64 p.B,.int .i64 p.K,.slice LB lm ld]) rfl (by kernel_rfl) (fun w' hS'=>?_) hS0 ?_
     ·obtain ⟨e0,e1,e2,e3,e4,e5,e6,e7⟩:=hS'
      go_simp
     try simp only [Act.put]
     refine AnyB.one (i:=7) (by kernel_rfl) rfl (fun K hK=>?_)
     go_simp;refine hK.out _ _ (fun _ hs=>HSS.out _ _ ((Below.refl _ _).alloc (by simp only [World.size_drew]; omega) _) hs) ?_;clear hK K;try simp only [Act.put,lsa,lsz,lss]
     refine AnyB.one (i:=8) (by kernel_rfl) rfl (fun K hK=>?_)
     have hb2 : Below wr.heap.size wr ((wr.alloc (.cells #[.int .i64 p.Op,.int .i64 p.To,.int .i64 p.A,.int .i64 p.B,.int .i64 p.K,.slice LB lm ld] 110)).drew):=((Below.refl _ _).alloc (Nat.le_refl _) _).drew;have hlr:=HR.out.out.lt;refine step_app1W _ _ (by rfl) _ _ 61 (by rfl) (w3.heap.size + 2) 110 i0 _ 6 64 Try.underlying61 hi0 hz0 hz1 hz2 rfl (by omega) A m d _ (passCells p LB lm ld) (by rfl) (Own.keep HR.out.own hb2) (by rfl) (by first | exact Blk.newE (by first | rfl | simp) | exact Blk.drew (Blk.newE (by first | rfl | simp))) rfl (pas_one _ _ _ _) (by omega) (by omega) (by have:=hb2.size; omega) ?_
     intro A9 c9 w9 hown9 hg9 hat9;have hl9:=Blk.grown (Blk.keep HR.out.out hb2) (Own.keep HR.out.own hb2) hg9 (Nat.lt_succ_self _);have hb9 : Below (w3.heap.size + 2) wr w9:=Below.grownOwn (hb2.mono (by omega)) (Own.keep HR.out.own hb2) hg9 (by have:=hb2.size; omega) (Nat.le_refl _);have hS9:=HSS.out _ _ hb9 (show (fun w' : World=>w'.cell? ⟨w3.heap.size + 1,4,none⟩ = some (.slice A m d) ∧ w'.cell? ⟨w3.heap.size,4,none⟩ = some (.slice (some ⟨g,0,none⟩) n oc) ∧ w'.cell? ⟨g,k * 6,none⟩ = some (.int .i64 p.Op) ∧ w'.cell? ⟨g,k * 6 + 1,none⟩ = some (.int .i64 p.To) ∧ w'.cell? ⟨g,k * 6 + 2,none⟩ = some (.int .i64 p.A) ∧ w'.cell? ⟨g,k * 6 + 3,none⟩ = some (.int .i64 p.B) ∧ w'.cell? ⟨g,k * 6 + 4,none⟩ = some (.int .i64 p.K) ∧ w'.cell? ⟨g,k * 6 + 5,none⟩ = some (.slice LB lm ld)) wr from ⟨v4,u4,d0,d1,d2,d3,d4,d5⟩);obtain ⟨y,y0,y1,y2,y3,y4⟩:=FrmBox.cells (show FrmBox w9 (w3.heap.size + 1) W H S O A m d from hl9);have yf:=Blk.frozen hl9 4;have hn8:=CRel2.app HR.out (p:=p) (cs:=passCells p LB lm ld) (ds:=p.L.flatMap lampCells) ⟨lm,ld,rfl,hlm,rfl,hl8⟩ HLC.out (fun h=>HNE.out h) hb2 hown9 hg9;have HN8:=hide hn8;try go_simp
     refine hK.out _ _ (fun _ _=>hS9) ?_;clear hK K hl9 hb9 hS9 hown9 hg9 hat9 hn8;try simp only [Act.put,lsa,lsz,lss]
     refine AnyB.fr (i:=9) (.pointer (some ⟨w3.heap.size + 1,4,none⟩)) rfl (by kernel_rfl) (fun w'=>?_) ?_
     ·go_simp
     try simp only [Act.put,lsa]
     refine AnyB.one (i:=10) (by kernel_rfl) rfl (fun K hK=>?_)
     go_simp;refine hK.out _ _ (fun h _=>by cases h) ?_;clear hK K;try simp only [Act.put,lsa,lsz,lss]
     refine AnyB.done (by kernel_rfl) ?_;go_wp2_with fail;go_roundw
     case rel=>exact ⟨k + 1,m + 1,A9,c9,_,by omega,by go_num,hide (by rw [cullTo_succ,hkk,HPK.out]; simp only [if_pos]; exact HN8.out)⟩
     case measure=>simp [intOf]; omega
  ·obtain rfl : k = n:=by omega
   obtain ⟨y,r0,r1,r2,r3,r4⟩:=FrmBox.cells (show FrmBox _ (w3.heap.size + 1) W H S O A m d from HR.out.out);have hbr : Below w3.heap.size w3 wr:=HAL4.out.trans (hbw.mono HAL4.out.size);obtain ⟨z,z0,z1,z2,z3,z4,t0,t1,t2,t3,t4⟩:=frmRes (HR3.out.later _ hbr);have hs32 : w2.heap.size ≤ w3.heap.size:=hs3;go_wp2_with fail
   have hB5 : Blk (((((wr.setCell ⟨w.heap.size + 1,0,none⟩ (.int .i64 W)).setCell ⟨w.heap.size + 1,1,none⟩ (.int .i64 H)).setCell ⟨w.heap.size + 1,2,none⟩ (.int .i64 S)).setCell ⟨w.heap.size + 1,3,none⟩ (.int .i64 O)).setCell ⟨w.heap.size + 1,4,none⟩ (.slice A m d)) (w.heap.size + 1) 63 (frmCells W H S O A m d) :=
    ((((((HR3.out.later _ hbr).set_ 0 (.int .i64 W)).set_ 1 (.int .i64 H)).set_ 2 (.int .i64 S)).set_ 3 (.int .i64 O)).set_ 4 (.slice A m d))
   obtain ⟨v,v0,v1,v2,v3,v4⟩:=FrmBox.cells (show FrmBox _ _ W H S O A m d from hB5);have hrow:=HR.out.row (by rw [hs4]; exact Nat.le_refl _) (by omega);have hnw:=HR.out.new;have hG:=(((((hrow.far5 hnw (p:=⟨w.heap.size + 1,0,none⟩) (by simp only; omega) (.int .i64 W)).far5 hnw (p:=⟨w.heap.size + 1,1,none⟩) (by simp only; omega) (.int .i64 H)).far5 hnw (p:=⟨w.heap.size + 1,2,none⟩) (by simp only; omega) (.int .i64 S)).far5 hnw (p:=⟨w.heap.size + 1,3,none⟩) (by simp only; omega) (.int .i64 O)).far5 hnw (p:=⟨w.heap.size + 1,4,none⟩) (by simp only; omega) (.slice A m d));have hbw2:=((((HB3.out.trans (hbr.mono HB3.out.size)).setCell (p:=⟨w.heap.size + 1,0,none⟩) (by simp) (.int .i64 W)).setCell (p:=⟨w.heap.size + 1,1,none⟩) (by simp) (.int .i64 H)).setCell (p:=⟨w.heap.size + 1,2,none⟩) (by simp) (.int .i64 S)).setCell (p:=⟨w.heap.size + 1,3,none⟩) (by simp) (.int .i64 O);refine bodyPost_ret (v:=.agg #[.int .i64 W,.int .i64 H,.int .i64 S,.int .i64 O,.slice A m d]) ?_ rfl ?_
   ·simp [results,Try.results49,go_sem,v0,v1,v2,v3,v4]
   ·have hfk : f.P.length = k:=by rw [HFP.out]; exact HN.out
    refine ⟨A,m,d,es,?_,?_,?_,fun e he hd=>(hnw e he hd).mono (by omega),hbw2.setCell (p:=⟨w.heap.size + 1,4,none⟩) (by simp) (.slice A m d)⟩
    ·show _ = Ending.returned (.agg #[.int .i64 f.W,.int .i64 f.H,.int .i64 f.S,.int .i64 f.O,.slice A m d])
     rw [HFQ.out.1,HFQ.out.2.1,HFQ.out.2.2.1,HFQ.out.2.2.2]
    ·show (cullTo f f.P.length).length = m
     rw [hfk]; exact HR.out.len
    ·show GRow PasK 6 _ _ _ A m d (cullTo f f.P.length) es
     rw [hfk]; exact hG.mono (by omega)
end Go.Proofs.Ytibpmogmeoappaa
