/- Walk: need.Cull. -/
import Derived.Test.YtibpmogmeoappaaJNeedD
import Derived.Test.YtibpmogmeoappaaJMem
import Derived.Test.YtibpmogmeoappaaJFrmS
import Derived.Laws.StructEq
import Derived.Deep.RegionHeld3
import Derived.BigQuiet
set_option maxRecDepth 100000
set_option maxHeartbeats 4000000
namespace Go.Proofs.Ytibpmogmeoappaa
open Go.RowKit
theorem PassOk.few {S : Int} {p : Pas} {st : List Sz} (h : PassOk S p st) : p.L.length ≤ 8:=by
 by_cases hl : hasL p.Op = true
 ·exact (lampsErr_zero (h.lamps hl)).1
 ·have hf:=h.form
  unfold formBad at hf;simp only [Bool.or_eq_false_iff,Bool.and_eq_false_iff] at hf;have:=hf.1.1.2;rcases this with e | e
  ·simp [Bool.eq_false_iff.2 hl] at e
  ·have:=of_decide_eq_false e; omega
def PasK : Kind Pas:=fun p cs B ds=>∃ m d,cs = passCells p B m d ∧ p.L.length = m ∧ ds = p.L.flatMap lampCells ∧ m ≤ 9223372036854775807
theorem GRow.passes {w : World} {base : Nat} {A : Option Addr} {n c : Nat} {xs : List Pas} {es : List (List Value × Option Addr × List Value)} (h : GRow PasK 6 110 w base A n c xs es) : Passes w A xs:=by
 intro i hi;obtain ⟨b,o,cs,B,ds,hA,hlt,⟨m,d,rfl,hm,rfl,h8⟩,hcl,hcs⟩:=h.at_ (fun x cs B ds hE=>by obtain ⟨m,d,rfl,-⟩:=hE; rfl) (List.getElem?_eq_getElem hi) (by omega);have e : xs.getD i noPas = xs[i]:=by rw [List.getD_eq_getElem?_getD,List.getElem?_eq_getElem hi]; rfl
 rw [e];exact ⟨b,o,B,m,d,hA,hlt,fun j hj=>hcs j hj,hm,cells_lamps hcl,by omega⟩
theorem Try.infoPas : (Try.prog.info? 110).map (fun i=>(i.zero,i.size,i.bytes)) = some (some (.agg #[.int .i64 0,.int .i64 0,.int .i64 0,.int .i64 0,.int .i64 0,.slice none 0 0]),6,64):=by kernel_rfl
theorem pas_one (p : Pas) (A : Option Addr) (m d : Nat) : ∀ u ∈ passCells p A m d,u.oneCell' = true:=by
 intro u hu;simp only [passCells,List.mem_cons,List.not_mem_nil,or_false] at hu;rcases hu with rfl | rfl | rfl | rfl | rfl | rfl <;> rfl
structure CRel (W H S O : Int) (w1 : World) (B : Nat) (xs : List Pas) (es : List (List Value × Option Addr × List Value)) (A : Option Addr) (n c : Nat) (wr : World) : Prop where
 out : Blk wr B 63 (frmCells W H S O A n c)
 row : GRow PasK 6 110 wr (B + 1) A n c xs es
 new : ∀ e ∈ es,e.2.2 ≠ [] → NewFrom (B + 1) e.2.1
 below : Below B w1 wr
 len : xs.length = n
theorem CRel.keep {W H S O : Int} {w1 : World} {B : Nat} {xs : List Pas} {es : List (List Value × Option Addr × List Value)} {A : Option Addr} {n c : Nat} {wr w' : World} (h : CRel W H S O w1 B xs es A n c wr) (hb : Below wr.heap.size wr w') : CRel W H S O w1 B xs es A n c w' :=
 ⟨Blk.keep h.out hb,h.row.keep hb,h.new,h.below.trans (hb.mono (by have:=Blk.lt h.out; omega)),h.len⟩
theorem CRel.app {W H S O : Int} {w1 : World} {B : Nat} {xs : List Pas} {es : List (List Value × Option Addr × List Value)} {A A' LB : Option Addr} {n c c' m d : Nat} {wr w' : World} {p : Pas} (h : CRel W H S O w1 B xs es A n c wr)
 (hm : p.L.length = m) (h8 : m ≤ 9223372036854775807) (hL : Lamps wr LB p.L) (hne : p.L.flatMap lampCells ≠ [] → NewFrom (B + 1) LB) (hnb : p.L.flatMap lampCells ≠ [] → ∀ a,LB = some a → (Value.slice A n c).ownBlock ≠ some a.block)
 (ho : Own w' (B + 1) 110 6 A' (n + 1) c' (es.flatMap (·.1) ++ passCells p LB m d)) (hg : (wr.alloc (.cells (passCells p LB m d).toArray 110)).grownBy w' (Value.slice A n c).ownBlock)
 (hat : (Value.slice A' (n + 1) c').ownBlock = (Value.slice A n c).ownBlock ∨ (Value.slice A' (n + 1) c').ownBlock = some (wr.alloc (.cells (passCells p LB m d).toArray 110)).heap.size) :
 CRel W H S O w1 B (xs ++ [p]) (es ++ [(passCells p LB m d,LB,p.L.flatMap lampCells)]) A' (n + 1) c' (w'.setCell ⟨B,4,none⟩ (.slice A' (n + 1) c')):=by
 have hr:=h.row.app (x:=p) ⟨m,d,rfl,hm,rfl,h8⟩ (lamps_cells hL) hnb ho hg hat
 have hnew : ∀ e ∈ es ++ [(passCells p LB m d,LB,p.L.flatMap lampCells)],e.2.2 ≠ [] → NewFrom (B + 1) e.2.1:=by
  intro e he;rcases List.mem_append.1 he with he | he
  ·exact h.new e he
  ·simp only [List.mem_singleton] at he; subst he; exact hne
 have hob:=Blk.grown (Blk.alloc h.out (.cells (passCells p LB m d).toArray 110)) (h.row.own.alloc _) hg (Nat.lt_succ_self B);have hlt:=Blk.lt h.out;refine ⟨(hob.set_ 4 (.slice A' (n + 1) c')),⟨hr.own.far (p:=⟨B,4,none⟩) (Nat.lt_succ_self B) _,hr.spelt.farB hnew (Nat.lt_succ_self B) _⟩,hnew,?_,by rw [List.length_append,h.len]; rfl⟩;have hba:=h.below.alloc (by omega) (.cells (passCells p LB m d).toArray 110);exact (Below.grownOwn hba (h.row.own.alloc _) hg (by simp; omega) (Nat.le_succ B)).setCell (p:=⟨B,4,none⟩) (Nat.le_refl _) _
theorem GRow.far5 {w : World} {base : Nat} {A : Option Addr} {n c : Nat} {xs : List Pas} {es : List (List Value × Option Addr × List Value)} (h : GRow PasK 6 110 w base A n c xs es) (hn : ∀ e ∈ es,e.2.2 ≠ [] → NewFrom base e.2.1) {p : Addr} (hp : p.block < base) (u : Value) :
 GRow PasK 6 110 (w.setCell p u) base A n c xs es:=⟨h.own.far hp u,h.spelt.farB hn hp u⟩
theorem Lamps.far {w : World} {B : Nat} {A : Option Addr} {ls : List Lamp} (h : Lamps w A ls) (hn : ls.flatMap lampCells ≠ [] → NewFrom B A) {p : Addr} (hp : p.block < B) (u : Value) : Lamps (w.setCell p u) A ls:=by
 by_cases he : ls.flatMap lampCells = []
 ·refine cells_lamps ?_
  rw [he];exact Cells.nil _ _
 ·exact cells_lamps ((lamps_cells h).far (hn he) hp u)
theorem cullTo_le (f : Frm) : ∀ k,(cullTo f k).length ≤ k
 | 0=>Nat.le_refl _
 | k + 1 => by
   rw [cullTo_succ,List.length_append];have:=cullTo_le f k;split <;> simp <;> omega
theorem frmRes {w : World} {g : Nat} {W H S O : Int} {A : Option Addr} {n c : Nat} (h : Blk w g 63 (frmCells W H S O A n c)) :
 g < w.heap.size ∧ w.cell? ⟨g, 0, none⟩ = some (.int .i64 W) ∧ w.cell? ⟨g, 1, none⟩ = some (.int .i64 H) ∧ w.cell? ⟨g, 2, none⟩ = some (.int .i64 S) ∧ w.cell? ⟨g, 3, none⟩ = some (.int .i64 O) ∧ w.cell? ⟨g, 4, none⟩ = some (.slice A n c) ∧
   w.frozen? ⟨g,0,none⟩ = false ∧ w.frozen? ⟨g,1,none⟩ = false ∧ w.frozen? ⟨g,2,none⟩ = false ∧ w.frozen? ⟨g,3,none⟩ = false ∧ w.frozen? ⟨g,4,none⟩ = false:=by
 obtain ⟨x,q0,q1,q2,q3,q4⟩:=FrmBox.cells (show FrmBox w g W H S O A n c from h);exact ⟨x,q0,q1,q2,q3,q4,Blk.frozen h 0,Blk.frozen h 1,Blk.frozen h 2,Blk.frozen h 3,Blk.frozen h 4⟩
def RetFrm (w : World) (f : Frm) (z : Int) (e : Ending) (w' : World) : Prop :=
 ∃ (A : Option Addr) (n c : Nat),e = .returned (.tuple #[.agg #[.int .i64 f.W,.int .i64 f.H,.int .i64 f.S,.int .i64 f.O,.slice A n c],.int .i64 z]) ∧ f.P.length = n ∧ Passes w' A f.P ∧ Below w.heap.size w w'
theorem cull_ok (W H S O : Int) (PA : Option Addr) (n c : Nat) (ps : List Pas) (w : World) (hn : ps.length = n) (hP : Passes w PA ps) (hf0 : FrmOk ⟨W,H,S,O,ps⟩) :
 Calls Try.prog 46 #[.agg #[.int .i64 W,.int .i64 H,.int .i64 S,.int .i64 O,.slice PA n c]] w (RetFrm w (frCull ⟨W,H,S,O,ps⟩) 0):=by
 have hmany:=hf0.many;simp only [hn] at hmany;have hb:=((Below.refl w.heap.size w).alloc (Nat.le_refl _) (.cells #[.int .i64 W,.int .i64 H,.int .i64 S,.int .i64 O,.slice PA n c] 63)).alloc (by simp) (.cells #[.int .i64 0,.int .i64 0,.int .i64 0,.int .i64 0,.slice none 0 0] 63);have HBX:=hide ((show FrmBox (w.alloc (.cells #[.int .i64 W,.int .i64 H,.int .i64 S,.int .i64 O,.slice PA n c] 63)) w.heap.size W H S O PA n c from Blk.new w 63 (frmCells W H S O PA n c)).alloc (.cells #[.int .i64 0,.int .i64 0,.int .i64 0,.int .i64 0,.slice none 0 0] 63));have HRS:=hide (show Blk ((w.alloc (.cells #[.int .i64 W,.int .i64 H,.int .i64 S,.int .i64 O,.slice PA n c] 63)).alloc (.cells #[.int .i64 0,.int .i64 0,.int .i64 0,.int .i64 0,.slice none 0 0] 63)) (w.heap.size + 1) 63 (frmCells 0 0 0 0 none 0 0) from Blk.newE (by simp));have hsz0 : ((w.alloc (.cells #[.int .i64 W,.int .i64 H,.int .i64 S,.int .i64 O,.slice PA n c] 63)).alloc (.cells #[.int .i64 0,.int .i64 0,.int .i64 0,.int .i64 0,.slice none 0 0] 63)).heap.size = w.heap.size + 2:=by simp
 have he:=frErr_zero.2 hf0;have hka : keptAns ⟨W,H,S,O,ps⟩ = keptL ⟨W,H,S,O,ps⟩:=if_pos he;have HK:=hide (kept_any W H S O PA n c ps _ hn (hP.keep hb));rw [hka,he] at HK;have HRW:=hide (hP.rows (by omega));have hw8 : ∀ j,j < n → (ps.getD j noPas).L.length ≤ 8:=fun j hj=>(hf0.pass (k:=j) (by simp only [hn]; exact hj)).few;have HLEN:=hide (keptL_len ⟨W,H,S,O,ps⟩);have HB0:=hide hb;have HN:=hide hn;have HW8:=hide hw8;obtain ⟨f,hf⟩ : ∃ f : Frm,f = ⟨W,H,S,O,ps⟩:=⟨_,rfl⟩;have HFP:=hide (show f.P = ps from by rw [hf]);have HFQ:=hide (show f.W = W ∧ f.H = H ∧ f.S = S ∧ f.O = O from by rw [hf]; exact ⟨rfl,rfl,rfl,rfl⟩);rw [← hf] at HK HLEN ⊢;clear hP hf0 hb hf he hka hn hw8;go_enter Try.func46,Try.ntmps46
 obtain ⟨x,q0,q1,q2,q3,q4⟩:=FrmBox.cells HBX.out;go_wp2_with fail;refine (unhide HK).mono ?_;rintro e w1 ⟨KA,kn,kc,rfl,hkn,hKC,hE1⟩;have hs1:=hE1.size;rw [hsz0] at hs1;have HB1:=hide (HB0.out.trans (hE1.mono HB0.out.size));have HX1:=hide (Blk.keep HBX.out hE1);have HR1:=hide (Blk.keep HRS.out hE1);have HKN:=hide (show kn = n from by rw [← hkn,HLEN.out,HFP.out]; exact HN.out);have HKC:=hide hKC;clear x q0 q1 q2 q3 q4 HB0 HBX hE1 HK HRS hkn hKC hsz0;obtain ⟨x,q0,q1,q2,q3,q4⟩:=FrmBox.cells HX1.out;obtain rfl : n = kn:=HKN.out.symm;obtain ⟨i0,hi0,hz0,hz1,hz2⟩:=info_parts Try.infoPas;obtain ⟨b,o,g,rfl,hblt,hrw⟩:=HRW.out
 have hrow : ∀ k,k < n → PCells w b (o + k * 6) (g k) ∧ (g k).p = f.pas k ∧ (g k).p.L.length = (g k).m ∧ Lamps w (g k).A (g k).p.L ∧ (g k).m ≤ 8:=fun k hk=>by
  obtain ⟨h1,h2,h3,h4,h5⟩:=hrw k (by rw [HN.out]; exact hk);refine ⟨h1,by rw [h2]; unfold Frm.pas; rw [HFP.out],h3,h4,?_⟩;rw [← h3,h2]; exact HW8.out k hk
 obtain ⟨kb,ko,rfl,hklt,hkc⟩ : ∃ kb ko,KA = some ⟨kb,ko,none⟩ ∧ kb < w1.heap.size ∧ ∀ k,k < n → w1.cell? ⟨kb,ko + k,none⟩ = some (.bool ((keptL f).getD k false)):=by
  have hl : (keptL f).length = n:=by rw [HLEN.out,HFP.out]; exact HN.out
  obtain ⟨kb,ko,e1,e2,-⟩:=HKC.out 0 (by rw [List.length_map]; omega);refine ⟨kb,ko,e1,e2,fun k hk=>?_⟩;obtain ⟨kb',ko',e3,-,e4⟩:=HKC.out k (by rw [List.length_map]; omega);rw [e1] at e3;obtain ⟨rfl,rfl⟩ : kb = kb' ∧ ko = ko':=by simpa using e3
  rw [e4,List.getD_eq_getElem?_getD,List.getElem?_map,List.getD_eq_getElem?_getD,List.getElem?_eq_getElem (by omega)];rfl
 have HROW:=hide hrow;have HKB:=hide hkc
 have hK0 : CRel W H S O w1 w1.heap.size [] [] none 0 0 (w1.alloc (.cells #[.int .i64 W,.int .i64 H,.int .i64 S,.int .i64 O,.slice none 0 0] 63)) :=
  ⟨Blk.new w1 63 (frmCells W H S O none 0 0),GRow.nil _ _ _ _ _,fun e he=>by (cases he),(Below.refl _ _).alloc (Nat.le_refl _) _,rfl⟩
 have HK0:=hide hK0;clear HRW hrow hkc hK0 HKC HW8 HKN hrw;go_wp2_with fail;go_loopw [7,8,23] (fun _ _ i wr=>∃ (k m : Nat) (A : Option Addr) (d : Nat) (es : List (List Value × Option Addr × List Value)),k ≤ n ∧ i = .int .i64 k ∧ Hid (CRel W H S O w1 w1.heap.size (cullTo f k) es A m d wr)) (fun _ _ i _=>n - (intOf i).toNat)
 case atStart=>exact ⟨0,0,none,0,[],Nat.zero_le _,rfl,HK0⟩
 case round =>
  obtain ⟨k,m,A,d,es,hk,rfl,HR⟩:=hrel;clear x q0 q1 q2 q3 q4;by_cases hlt : k < n
  ·have hk0 : (0 : Int) ≤ (k : Int):=by omega
   have hk1 : (k : Int) < (n : Int):=by omega
   obtain ⟨hpc,hpp,hpm,hpL,hp8⟩:=HROW.out k hlt;have hbw:=HB1.out.trans (HR.out.below.mono HB1.out.size);obtain ⟨c0,c1,c2,c3,c4,c5⟩:=hpc.below hbw hblt;have ckb:=(HR.out.below.cell (p:=⟨kb,ko + k,none⟩) hklt).trans (HKB.out k hlt);have hwl : Lamps wr (g k).A (g k).p.L:=hpL.keep hbw;have hal : Below wr.heap.size wr (wr.alloc (.cells #[.int .i64 (g k).p.Op,.int .i64 (g k).p.To,.int .i64 (g k).p.A,.int .i64 (g k).p.B,.int .i64 (g k).p.K,.slice (g k).A (g k).m (g k).d] 110)):=(Below.refl _ _).alloc (Nat.le_refl _) _;have hxk : (wr.alloc (.cells #[.int .i64 (g k).p.Op,.int .i64 (g k).p.To,.int .i64 (g k).p.A,.int .i64 (g k).p.B,.int .i64 (g k).p.K,.slice (g k).A (g k).m (g k).d] 110)).cell? ⟨kb,ko + k,none⟩ = some (.bool ((keptL f).getD k false)):=(hal.cell (p:=⟨kb,ko + k,none⟩) (by have:=HR.out.below.size; simp only; omega)).trans ckb;have hwl2:=hwl.keep hal;have HR2:=hide (HR.out.keep hal);have HAL:=hide hal;have HR0:=hide HR.out;have hpb : Blk (wr.alloc (.cells #[.int .i64 (g k).p.Op,.int .i64 (g k).p.To,.int .i64 (g k).p.A,.int .i64 (g k).p.B,.int .i64 (g k).p.K,.slice (g k).A (g k).m (g k).d] 110)) wr.heap.size 110 (passCells (g k).p (g k).A (g k).m (g k).d):=Blk.new wr _ _;have HPB:=hide hpb;have HPL:=hide hwl2;have HPM:=hide hpm;have HPP:=hide hpp;have hgr : ∀ q,(Value.slice A m d).ownBlock = some q → q < wr.heap.size:=fun q h=>(HR.out.row.own.lt h).2;have HGR:=hide hgr;have hws:=HR.out.below.size;have hob:=Blk.lt HR.out.out;generalize hrr : g k = r at *;clear HR hpb hwl hwl2 hal hpL hpm hpp hpc hbw hgr
   cases hkk : (keptL f).getD k false with
   | false =>
     rw [hkk] at ckb hxk;go_wp2_with fail;exact ⟨⟨k + 1,m,A,d,es,by omega,by simp,hide (by rw [cullTo_succ,hkk]; simpa using HR2.out)⟩,by simp [intOf]; omega⟩
   | true =>
     rw [hkk] at ckb hxk;obtain ⟨y,y0,y1,y2,y3,y4,y5⟩:=PasBox.cells (show PasBox _ _ r.p r.A r.m r.d from HPB.out);go_wp2_with fail;refine (cloneLamps_any _ _ _ _ _ HPM.out HPL.out (by omega)).mono ?_;rintro e w2 ⟨LB,ld,rfl,hLB,hnb,hE2⟩;have hPB2:=Blk.keep HPB.out hE2;have hW2:=HAL.out.trans (hE2.mono HAL.out.size);have hW3:=hW2.setCell (p:=⟨wr.heap.size,5,none⟩) (Nat.le_refl _) (.slice LB r.p.L.length ld);have hnb3 : r.p.L.flatMap lampCells ≠ [] → NewFrom (wr.heap.size + 1) LB:=fun h=>(hnb h).mono (by simp);have HL3:=hide (Lamps.far (p:=⟨wr.heap.size,5,none⟩) hLB hnb3 (Nat.lt_succ_self _) (.slice LB r.p.L.length ld));have hR3:=HR0.out.keep hW3;have HR3:=hide hR3;have HNB:=hide hnb3;have HP3:=hide (hPB2.set_ 5 (.slice LB r.p.L.length ld));have hq5:=Blk.frozen hPB2 5;obtain ⟨z,z0,z1,z2,z3,z4,z5⟩:=PasBox.cells (show PasBox _ _ r.p r.A r.m r.d from hPB2);obtain ⟨z',p0,p1,p2,p3,p4,p5⟩:=PasBox.cells (show PasBox _ _ r.p LB r.p.L.length ld from HP3.out);obtain ⟨x,q0,q1,q2,q3,q4⟩:=FrmBox.cells (show FrmBox _ w1.heap.size W H S O A m d from hR3.out)
     have hnbk : r.p.L.flatMap lampCells ≠ [] → ∀ a,LB = some a → (Value.slice A m d).ownBlock ≠ some a.block:=fun h a ha hc=>by
      have h1:=HNB.out h a ha;have h2:=HGR.out _ hc;omega
     have HNK:=hide hnbk
     have hm12 : m ≤ 12:=by
      have h1:=hR3.len;have h2 : (cullTo f k).length ≤ k:=cullTo_le f k;omega
     have hbs : w1.heap.size + 1 ≤ (w2.setCell ⟨wr.heap.size,5,none⟩ (.slice LB r.p.L.length ld)).heap.size:=by have:=Blk.lt hR3.out; omega
     clear hPB2 hW2 hW3 hnb3 hLB hnb hE2 hR3 HR2 HAL HR0 HPL HPB hnbk;go_wp2_with (at_builtin; go_loud (refine wpList_app1A (w2.setCell ⟨wr.heap.size,5,none⟩ (.slice LB r.p.L.length ld)) w2.heap.size (by simp [World.setCell]) rfl _ _ 61 rfl (w1.heap.size + 1) 110 i0 _ 6 64 Try.underlying61 hi0 hz0 hz1 hz2 rfl (by omega) A m d _ (passCells r.p LB r.p.L.length ld) rfl HR3.out.row.own rfl rfl (pas_one _ _ _ _) (by omega) (by omega) hbs ?_; intro A9 c9 w9 hown9 hg9 hat9; have hob9:=Blk.grown (Blk.alloc HR3.out.out (.cells (passCells r.p LB r.p.L.length ld).toArray 110)) (HR3.out.row.own.alloc _) hg9 (Nat.lt_succ_self _); obtain ⟨s,s0,s1,s2,s3,s4⟩:=FrmBox.cells (show FrmBox _ w1.heap.size W H S O A m d from hob9); have s5:=Blk.frozen hob9 4))
     have hn8:=CRel.app HR3.out rfl (by rw [HPM.out]; omega) HL3.out (fun h=>(HNB.out h).mono (by omega)) HNK.out hown9 hg9 hat9;refine ⟨⟨k + 1,m + 1,A9,c9,_,by omega,by simp,hide (by rw [cullTo_succ,hkk]; simp only [if_pos]; rw [← HPP.out]; exact hn8)⟩,by simp [intOf]; omega⟩
  ·obtain rfl : k = n:=by omega
   obtain ⟨x,q0,q1,q2,q3,q4⟩:=FrmBox.cells (show FrmBox _ w1.heap.size W H S O A m d from HR.out.out);obtain ⟨r,r0,r1,r2,r3,r4,t0,t1,t2,t3,t4⟩:=frmRes (Blk.below HR1.out HR.out.below (by omega));go_wp2_with fail
   have hB5 : Blk (((((wr.setCell ⟨w.heap.size + 1,0,none⟩ (.int .i64 W)).setCell ⟨w.heap.size + 1,1,none⟩ (.int .i64 H)).setCell ⟨w.heap.size + 1,2,none⟩ (.int .i64 S)).setCell ⟨w.heap.size + 1,3,none⟩ (.int .i64 O)).setCell ⟨w.heap.size + 1,4,none⟩ (.slice A m d)) (w.heap.size + 1) 63 (frmCells W H S O A m d) :=
    ((((((Blk.below HR1.out HR.out.below (by omega)).set_ 0 (.int .i64 W)).set_ 1 (.int .i64 H)).set_ 2 (.int .i64 S)).set_ 3 (.int .i64 O)).set_ 4 (.slice A m d))
   obtain ⟨z,z0,z1,z2,z3,z4⟩:=FrmBox.cells (show FrmBox _ _ W H S O A m d from hB5);have hG:=((((HR.out.row.far5 HR.out.new (p:=⟨w.heap.size + 1,0,none⟩) (by simp only; omega) (.int .i64 W)).far5 HR.out.new (p:=⟨w.heap.size + 1,1,none⟩) (by simp only; omega) (.int .i64 H)).far5 HR.out.new (p:=⟨w.heap.size + 1,2,none⟩) (by simp only; omega) (.int .i64 S)).far5 HR.out.new (p:=⟨w.heap.size + 1,3,none⟩) (by simp only; omega) (.int .i64 O)).far5 HR.out.new (p:=⟨w.heap.size + 1,4,none⟩) (by simp only; omega) (.slice A m d);have hbw:=((((HB1.out.trans (HR.out.below.mono HB1.out.size)).setCell (p:=⟨w.heap.size + 1,0,none⟩) (by simp) (.int .i64 W)).setCell (p:=⟨w.heap.size + 1,1,none⟩) (by simp) (.int .i64 H)).setCell (p:=⟨w.heap.size + 1,2,none⟩) (by simp) (.int .i64 S)).setCell (p:=⟨w.heap.size + 1,3,none⟩) (by simp) (.int .i64 O);refine bodyPost_ret (v:=.tuple #[.agg #[.int .i64 W,.int .i64 H,.int .i64 S,.int .i64 O,.slice A m d],.int .i64 0]) ?_ rfl ?_
   ·simp [results,Try.results46,go_sem,z0,z1,z2,z3,z4]
   ·have hfk : f.P.length = k:=by rw [HFP.out]; exact HN.out
    refine ⟨A,m,d,?_,?_,?_,hbw.setCell (p:=⟨w.heap.size + 1,4,none⟩) (by simp) (.slice A m d)⟩
    ·show _ = Ending.returned (.tuple #[.agg #[.int .i64 f.W,.int .i64 f.H,.int .i64 f.S,.int .i64 f.O,.slice A m d],.int .i64 0])
     rw [HFQ.out.1,HFQ.out.2.1,HFQ.out.2.2.1,HFQ.out.2.2.2]
    ·show (cullTo f f.P.length).length = m
     rw [hfk]; exact HR.out.len
    ·show Passes _ A (cullTo f f.P.length)
     rw [hfk]; exact hG.passes
theorem cull_any (W H S O : Int) (PA : Option Addr) (n c : Nat) (ps : List Pas) (w : World) (hn : ps.length = n) (hP : Passes w PA ps) :
 Calls Try.prog 46 #[.agg #[.int .i64 W,.int .i64 H,.int .i64 S,.int .i64 O,.slice PA n c]] w (RetFrm w (cullAns ⟨W,H,S,O,ps⟩) (frErr ⟨W,H,S,O,ps⟩)):=by
 by_cases he : frErr ⟨W,H,S,O,ps⟩ = 0
 ·have:=cull_ok W H S O PA n c ps w hn hP (frErr_zero.1 he)
  unfold cullAns;rw [if_pos he,he];exact this
 ·have hb:=((Below.refl w.heap.size w).alloc (Nat.le_refl _) (.cells #[.int .i64 W,.int .i64 H,.int .i64 S,.int .i64 O,.slice PA n c] 63)).alloc (by simp) (.cells #[.int .i64 0,.int .i64 0,.int .i64 0,.int .i64 0,.slice none 0 0] 63)
  have HBX:=hide ((show FrmBox (w.alloc (.cells #[.int .i64 W,.int .i64 H,.int .i64 S,.int .i64 O,.slice PA n c] 63)) w.heap.size W H S O PA n c from Blk.new w 63 (frmCells W H S O PA n c)).alloc (.cells #[.int .i64 0,.int .i64 0,.int .i64 0,.int .i64 0,.slice none 0 0] 63));have HRS:=hide (show Blk ((w.alloc (.cells #[.int .i64 W,.int .i64 H,.int .i64 S,.int .i64 O,.slice PA n c] 63)).alloc (.cells #[.int .i64 0,.int .i64 0,.int .i64 0,.int .i64 0,.slice none 0 0] 63)) (w.heap.size + 1) 63 (frmCells 0 0 0 0 none 0 0) from Blk.newE (by simp));have HL:=hide (kept_any W H S O PA n c ps _ hn (hP.keep hb));have hka : cullAns ⟨W,H,S,O,ps⟩ = noFrm:=if_neg he;have HB:=hide hb;rw [hka];generalize keptAns ⟨W,H,S,O,ps⟩ = la at HL;generalize frErr ⟨W,H,S,O,ps⟩ = er at *;have hz2 : (er == 0) = false:=by simpa using he
  clear hn hP hb he hka;go_enter Try.func46,Try.ntmps46
  obtain ⟨x,q0,q1,q2,q3,q4⟩:=FrmBox.cells HBX.out;go_wp2_with fail;refine (unhide HL).mono ?_;rintro e w1 ⟨KA,kn,kc,rfl,-,-,hE1⟩;have HB1:=hide (HB.out.trans (hE1.mono HB.out.size));have HR1:=hide (Blk.keep HRS.out hE1);obtain ⟨r,r0,r1,r2,r3,r4,t0,t1,t2,t3,t4⟩:=frmRes HR1.out;clear HB HL hE1 HBX HRS x q0 q1 q2 q3 q4;go_wp2_with fail
  have hB5 : Blk (((((w1.setCell ⟨w.heap.size + 1,0,none⟩ (.int .i64 0)).setCell ⟨w.heap.size + 1,1,none⟩ (.int .i64 0)).setCell ⟨w.heap.size + 1,2,none⟩ (.int .i64 0)).setCell ⟨w.heap.size + 1,3,none⟩ (.int .i64 0)).setCell ⟨w.heap.size + 1,4,none⟩ (.slice none 0 0)) (w.heap.size + 1) 63 (frmCells 0 0 0 0 none 0 0) :=
   ((((((HR1.out).set_ 0 (.int .i64 0)).set_ 1 (.int .i64 0)).set_ 2 (.int .i64 0)).set_ 3 (.int .i64 0)).set_ 4 (.slice none 0 0))
  obtain ⟨z,z0,z1,z2,z3,z4⟩:=FrmBox.cells (show FrmBox _ _ 0 0 0 0 none 0 0 from hB5);have hbw:=(((HB1.out.setCell (p:=⟨w.heap.size + 1,0,none⟩) (by simp) (.int .i64 0)).setCell (p:=⟨w.heap.size + 1,1,none⟩) (by simp) (.int .i64 0)).setCell (p:=⟨w.heap.size + 1,2,none⟩) (by simp) (.int .i64 0)).setCell (p:=⟨w.heap.size + 1,3,none⟩) (by simp) (.int .i64 0);refine bodyPost_ret (v:=.tuple #[.agg #[.int .i64 0,.int .i64 0,.int .i64 0,.int .i64 0,.slice none 0 0],.int .i64 er]) ?_ rfl ?_
  ·simp [results,Try.results46,go_sem,z0,z1,z2,z3,z4]
  ·exact ⟨none,0,0,rfl,rfl,fun i hi=>absurd hi (Nat.not_lt_zero i),hbw.setCell (p:=⟨w.heap.size + 1,4,none⟩) (by simp) (.slice none 0 0)⟩
end Go.Proofs.Ytibpmogmeoappaa
namespace Go.Proofs.Ytibpmogmeoappaa
open Go.RowKit
@[go_sem] theorem light_guard : Try.prog.eqGuardType Try.prog.depth 59 = false:=by kernel_rfl
theorem light_held : Try.prog.stoodInHeld 59 = false:=by kernel_rfl
theorem light_fields : (Try.prog.fieldsOf 59).toList.map (fun f=>(f.name,f.type,f.offset)) = [("X",3,0),("Y",3,1),("Reach",3,2),("Power",3,3)]:=by kernel_rfl
theorem run_neq_light (a b c d : Int) (w : World) :
 (binOp .neq 59 (.agg #[.int .i64 a,.int .i64 b,.int .i64 c,.int .i64 d]) (.agg #[.int .i64 a,.int .i64 b,.int .i64 c,.int .i64 d])).run Try.prog w = .ok (.bool false) w:=by
 rw [run_neq_struct,run_equalIn_agg]
 ·have hf:=light_fields
  generalize (Try.prog.fieldsOf 59).toList = l at hf
  obtain ⟨x,l,rfl⟩ : ∃ x l',l = x :: l':=by cases l with
   | nil=>simp at hf
   | cons x l'=>exact ⟨x,l',rfl⟩
  obtain ⟨y,l,rfl⟩ : ∃ x l',l = x :: l':=by cases l with
   | nil=>simp at hf
   | cons x l'=>exact ⟨x,l',rfl⟩
  obtain ⟨z,l,rfl⟩ : ∃ x l',l = x :: l':=by cases l with
   | nil=>simp at hf
   | cons x l'=>exact ⟨x,l',rfl⟩
  obtain ⟨u,l,rfl⟩ : ∃ x l',l = x :: l':=by cases l with
   | nil=>simp at hf
   | cons x l'=>exact ⟨x,l',rfl⟩
  simp only [List.map_cons,List.cons.injEq,Prod.mk.injEq,List.map_eq_nil_iff] at hf;obtain ⟨⟨x1,x2,x3⟩,⟨y1,y2,y3⟩,⟨z1,z2,z3⟩,⟨u1,u2,u3⟩,rfl⟩:=hf;simp only [Op.eqFields,x1,x2,x3,y1,y2,y3,z1,z2,z3,u1,u2,u3];simp [go_sem]
 ·simp only [Program.fieldsOf,Try.underlying59]
 ·exact light_held
theorem Below.drewN_ {B : Nat} {a w : World} (h : Below B a w) : ∀ q,Below B a (w.drewN q)
 | 0=>h
 | q + 1=>(Below.drewN_ h q).drew
theorem sameFrames_any (W H S O : Int) (A B : Option Addr) (n c d : Nat) (ps : List Pas) (w : World) (hn : ps.length = n) (hP : Passes w A ps) (hQ : Passes w B ps) (hl : n ≤ 9223372036854775807) :
 Calls Try.prog 42 #[.agg #[.int .i64 W,.int .i64 H,.int .i64 S,.int .i64 O,.slice A n c],.agg #[.int .i64 W,.int .i64 H,.int .i64 S,.int .i64 O,.slice B n d]] w fun e w'=>e = .returned (.bool true) ∧ Below w.heap.size w w':=by
 have hb:=((Below.refl w.heap.size w).alloc (Nat.le_refl _) (.cells #[.int .i64 W,.int .i64 H,.int .i64 S,.int .i64 O,.slice A n c] 63)).alloc (by simp) (.cells #[.int .i64 W,.int .i64 H,.int .i64 S,.int .i64 O,.slice B n d] 63);have hx1:=(show FrmBox (w.alloc (.cells #[.int .i64 W,.int .i64 H,.int .i64 S,.int .i64 O,.slice A n c] 63)) w.heap.size W H S O A n c from Blk.new w 63 (frmCells W H S O A n c)).alloc (.cells #[.int .i64 W,.int .i64 H,.int .i64 S,.int .i64 O,.slice B n d] 63);have hx2 : Blk ((w.alloc (.cells #[.int .i64 W,.int .i64 H,.int .i64 S,.int .i64 O,.slice A n c] 63)).alloc (.cells #[.int .i64 W,.int .i64 H,.int .i64 S,.int .i64 O,.slice B n d] 63)) (w.heap.size + 1) 63 (frmCells W H S O B n d):=Blk.newE (by simp);have hpp:=hP.keep hb;have hqq:=hQ.keep hb;generalize hw0 : ((w.alloc (.cells #[.int .i64 W,.int .i64 H,.int .i64 S,.int .i64 O,.slice A n c] 63)).alloc (.cells #[.int .i64 W,.int .i64 H,.int .i64 S,.int .i64 O,.slice B n d] 63)) = w0 at hb hx1 hx2 hpp hqq;have HB:=hide hb;have HKX:=hide ((Keeps.blk hx1).and (Keeps.blk hx2));have HP:=hide (Keeps.passes hpp);have HQ:=hide (Keeps.passes hqq);have HN:=hide hn;obtain ⟨x,q0,q1,q2,q3,q4⟩:=FrmBox.cells (show FrmBox _ _ W H S O A n c from hx1);obtain ⟨y,r0,r1,r2,r3,r4⟩:=FrmBox.cells (show FrmBox _ _ W H S O B n d from hx2);have hneq:=run_neq_light;clear hb hx1 hx2 hP hQ hpp hqq hn;go_enter Try.func42,Try.ntmps42
 go_wp2_with fail;clear hw0 x q0 q1 q2 q3 q4 y r0 r1 r2 r3 r4;go_loopw [5,6,7,8] (fun i _ _ _ wr=>∃ k : Nat,k ≤ n ∧ i = .int .i64 k ∧ Hid (Below w0.heap.size w0 wr)) (fun i _ _ _ _=>n - (intOf i).toNat)
 case atStart=>exact ⟨0,Nat.zero_le _,rfl,hide (Below.refl _ _)⟩
 case round =>
  obtain ⟨k,hk,rfl,HW⟩:=hrel;obtain ⟨hx1,hx2⟩:=HKX.out.later _ HW.out;obtain ⟨x,q0,q1,q2,q3,q4⟩:=FrmBox.cells (show FrmBox _ _ W H S O A n c from hx1);obtain ⟨y,r0,r1,r2,r3,r4⟩:=FrmBox.cells (show FrmBox _ _ W H S O B n d from hx2);clear hx1 hx2;by_cases hlt : k < n
  ·have hk0 : (0 : Int) ≤ (k : Int):=by omega
   have hk1 : (k : Int) < (n : Int):=by omega
   obtain ⟨b,o,LA,m,e,p,rfl,hb,hp,c0,c1,c2,c3,c4,c5,hm,hL,hml⟩:=(HP.out.later _ HW.out).at_ k (by rw [HN.out]; exact hlt);obtain ⟨b',o',LB,m',e',p',rfl,hb',hp',d0,d1,d2,d3,d4,d5,hm',hL',hml'⟩:=(HQ.out.later _ HW.out).at_ k (by rw [HN.out]; exact hlt);obtain rfl : p' = p:=hp'.symm.trans hp;subst hm;subst hm';have HLA:=hide (Keeps.lampsK hL);have HLB:=hide (Keeps.lampsK hL')
   have HKS:=hide (show Keeps wr (fun w'=>w'.cell? ⟨w.heap.size,4,none⟩ = some (.slice (some ⟨b,o,none⟩) n c) ∧ w'.cell? ⟨w.heap.size + 1,4,none⟩ = some (.slice (some ⟨b',o',none⟩) n d) ∧
    w'.cell? ⟨b,o + k * 6,none⟩ = some (.int .i64 p'.Op) ∧ w'.cell? ⟨b,o + k * 6 + 1,none⟩ = some (.int .i64 p'.To) ∧ w'.cell? ⟨b,o + k * 6 + 2,none⟩ = some (.int .i64 p'.A) ∧ w'.cell? ⟨b,o + k * 6 + 3,none⟩ = some (.int .i64 p'.B) ∧ w'.cell? ⟨b,o + k * 6 + 4,none⟩ = some (.int .i64 p'.K) ∧ w'.cell? ⟨b,o + k * 6 + 5,none⟩ = some (.slice LA p'.L.length e) ∧
    w'.cell? ⟨b',o' + k * 6,none⟩ = some (.int .i64 p'.Op) ∧ w'.cell? ⟨b',o' + k * 6 + 1,none⟩ = some (.int .i64 p'.To) ∧ w'.cell? ⟨b',o' + k * 6 + 2,none⟩ = some (.int .i64 p'.A) ∧ w'.cell? ⟨b',o' + k * 6 + 3,none⟩ = some (.int .i64 p'.B) ∧ w'.cell? ⟨b',o' + k * 6 + 4,none⟩ = some (.int .i64 p'.K) ∧ w'.cell? ⟨b',o' + k * 6 + 5,none⟩ = some (.slice LB p'.L.length e')) from
    ⟨⟨q4,r4,c0,c1,c2,c3,c4,c5,d0,d1,d2,d3,d4,d5⟩,fun _ hb=>⟨keepC hb q4,keepC hb r4,keepC hb c0,keepC hb c1,keepC hb c2,keepC hb c3,keepC hb c4,keepC hb c5,keepC hb d0,keepC hb d1,keepC hb d2,keepC hb d3,keepC hb d4,keepC hb d5⟩⟩)
   clear hp hp' hL hL' hml';go_upto_region 6 with fail
   go_cut [6,7] (fun s6 s7 wx=>∃ gp gq : Nat,s6 = .pointer (some ⟨gp,0,none⟩) ∧ s7 = .pointer (some ⟨gq,0,none⟩) ∧ Hid (PasBox wx gp p' LA p'.L.length e) ∧ Hid (PasBox wx gq p' LB p'.L.length e') ∧ Hid (Below wr.heap.size wr wx))
   case first =>
    go_region_held3 (fun w'=>w'.cell? ⟨w.heap.size,4,none⟩ = some (.slice (some ⟨b,o,none⟩) n c) ∧ w'.cell? ⟨w.heap.size + 1,4,none⟩ = some (.slice (some ⟨b',o',none⟩) n d) ∧
    w'.cell? ⟨b,o + k * 6,none⟩ = some (.int .i64 p'.Op) ∧ w'.cell? ⟨b,o + k * 6 + 1,none⟩ = some (.int .i64 p'.To) ∧ w'.cell? ⟨b,o + k * 6 + 2,none⟩ = some (.int .i64 p'.A) ∧ w'.cell? ⟨b,o + k * 6 + 3,none⟩ = some (.int .i64 p'.B) ∧ w'.cell? ⟨b,o + k * 6 + 4,none⟩ = some (.int .i64 p'.K) ∧ w'.cell? ⟨b,o + k * 6 + 5,none⟩ = some (.slice LA p'.L.length e) ∧
    w'.cell? ⟨b',o' + k * 6,none⟩ = some (.int .i64 p'.Op) ∧ w'.cell? ⟨b',o' + k * 6 + 1,none⟩ = some (.int .i64 p'.To) ∧ w'.cell? ⟨b',o' + k * 6 + 2,none⟩ = some (.int .i64 p'.A) ∧ w'.cell? ⟨b',o' + k * 6 + 3,none⟩ = some (.int .i64 p'.B) ∧ w'.cell? ⟨b',o' + k * 6 + 4,none⟩ = some (.int .i64 p'.K) ∧ w'.cell? ⟨b',o' + k * 6 + 5,none⟩ = some (.slice LB p'.L.length e'))
     (exact HKS.out.later _ (by repeat (first | exact Below.refl _ _ | exact (Below.refl _ _).drew | with_reducible (refine Below.drew ?_) | with_reducible (refine Below.alloc ?_ (by simp) _) | with_reducible (refine Below.setCell ?_ (by simp) _)))) (fail)
    ·go_wp2_with fail
     go_meet
     exact ⟨wr.heap.size,wr.heap.size + 1,rfl,rfl,hide ((Blk.new wr 110 (passCells p' LA p'.L.length e)).alloc _).drew,hide (Blk.newE (cs:=passCells p' LB p'.L.length e') (by simp)).drew,hide (((Below.refl _ _).alloc (Nat.le_refl _) _).alloc (by simp) _).drew⟩
    ·go_wp2_with fail
     go_meet
     exact ⟨wr.heap.size + 1,wr.heap.size,rfl,rfl,hide (Blk.newE (cs:=passCells p' LA p'.L.length e) (by simp)).drew,hide ((Blk.new wr 110 (passCells p' LB p'.L.length e')).alloc _).drew,hide (((Below.refl _ _).alloc (Nat.le_refl _) _).alloc (by simp) _).drew⟩
   case rest =>
    obtain ⟨gp,gq,rfl,rfl,HPA,HPB,HW2⟩:=hcut;have HWc:=hide (HW.out.trans (HW2.out.mono HW.out.size));have HKA:=hide ((Keeps.blk HPA.out).and (Keeps.blk HPB.out));have HLA2:=hide (HLA.out.move HW2.out);have HLB2:=hide (HLB.out.move HW2.out);obtain ⟨z,z0,z1,z2,z3,z4,z5⟩:=PasBox.cells HPA.out;obtain ⟨v,v0,v1,v2,v3,v4,v5⟩:=PasBox.cells HPB.out;clear HW HW2 HKS HLA HLB x q0 q1 q2 q3 q4 y r0 r1 r2 r3 r4 c0 c1 c2 c3 c4 c5 d0 d1 d2 d3 d4 d5 hb hb';go_wp2_with fail;clear z z0 z1 z2 z3 z4 z5 v v0 v1 v2 v3 v4 v5;go_loopw [8] (fun i wx=>∃ j : Nat,j ≤ p'.L.length ∧ i = .int .i64 j ∧ Hid (Below wc.heap.size wc wx)) (fun i _=>p'.L.length - (intOf i).toNat)
    case atStart=>exact ⟨0,Nat.zero_le _,rfl,hide (Below.refl _ _)⟩
    case round =>
     obtain ⟨j,hj,rfl,HX⟩:=hrel;obtain ⟨hpa,hpb⟩:=HKA.out.later _ HX.out;obtain ⟨z,z0,z1,z2,z3,z4,z5⟩:=PasBox.cells (show PasBox _ gp p' LA p'.L.length e from hpa);obtain ⟨v,v0,v1,v2,v3,v4,v5⟩:=PasBox.cells (show PasBox _ gq p' LB p'.L.length e' from hpb);by_cases hjl : j < p'.L.length
     ·have hj0 : (0 : Int) ≤ (j : Int):=by omega
      have hj1 : (j : Int) < (p'.L.length : Int):=by omega
      obtain ⟨lb,lo,l,rfl,hlb,hll,a0,a1,a2,a3⟩:=(HLA2.out.later _ HX.out).at_ j hjl;obtain ⟨mb,mo,l',rfl,hmb,hll',b0,b1,b2,b3⟩:=(HLB2.out.later _ HX.out).at_ j hjl;obtain rfl : l' = l:=by rw [hll] at hll'; injection hll' with h; exact h.symm
      clear hpa hpb;go_wp2_with fail;go_quiet (fail)
      go_wp2_with fail;exact ⟨⟨j + 1,by omega,by simp,hide (Below.drewN_ HX.out _)⟩,by simp [intOf]; omega⟩
     ·have HWf:=hide (HWc.out.trans (HX.out.mono HWc.out.size))
      go_wp2_with fail;exact ⟨⟨k + 1,by omega,by simp,HWf⟩,by simp [intOf]; omega⟩
  ·go_wp2_with fail
   go_ret;exact ⟨rfl,HB.out.trans (HW.out.mono HB.out.size)⟩
end Go.Proofs.Ytibpmogmeoappaa
namespace Go.Proofs.Ytibpmogmeoappaa
open Go.RowKit
def RetOwnF (w : World) (f : Frm) (e : Ending) (w' : World) : Prop :=
 ∃ (A : Option Addr) (n c : Nat) (es : List (List Value × Option Addr × List Value)),e = .returned (.agg #[.int .i64 f.W,.int .i64 f.H,.int .i64 f.S,.int .i64 f.O,.slice A n c]) ∧ f.P.length = n ∧ GRow PasK 6 110 w' (w.heap.size + 3) A n c f.P es ∧ (∀ e ∈ es,e.2.2 ≠ [] → NewFrom (w.heap.size + 3) e.2.1) ∧ Below w.heap.size w w'
theorem wpList_app1R {P : Program} (w0 : World) (Hz : Nat) (hHz : w0.heap.size = Hz) {ops : Array Oper} {rest : List Oper} {o : Oper} {a : Act} {Q : Exit → Act → World → Prop} (hgd : o.guard = none) (s x : Operand) (t : TypeId)
 (ho : o.op = .call { callee:=.builtin .append,args:=#[s,x],argTypes:=#[t,t] })
 (base : Nat) (e : TypeId) (i : TypeInfo) (z : Value) (size bytes : Nat) (ht : P.underlying t = some (.slice e)) (hi : P.info? e = some i) (hz : i.zero = some z)
 (hsize : i.size = size) (hby : i.bytes = bytes) (hzs : z.cells.size = size) (hsz : 0 < size)
 (A : Option Addr) (n c : Nat) (cs news : List Value) (hs : a.eval s = .slice A n c) (hown : Own w0 base e size A n c cs)
 (hx : a.eval x = .slice (some ⟨Hz,0,none⟩) 1 1) (hl : news.length = size) (h1 : ∀ u ∈ news,u.oneCell' = true)
 (h47 : (n + 1) * bytes ≤ 140737488355328) (hml : n + 1 ≤ 9223372036854775807) (hbase : base ≤ w0.heap.size)
 (h : ∀ A' c' w', Own w' base e size A' (n + 1) c' (cs ++ news) → (w0.alloc (.cells news.toArray e)).grownBy w' (Value.slice A n c).ownBlock →
   ((Value.slice A' (n + 1) c').ownBlock = (Value.slice A n c).ownBlock ∨ (Value.slice A' (n + 1) c').ownBlock = some (w0.alloc (.cells news.toArray e)).heap.size) → wpList P ops Q rest (a.put o.dst (.slice A' (n + 1) c')) w') :
 wpList P ops Q (o :: rest) a (w0.alloc (.cells news.toArray e)):=by
 subst hHz;refine wpList_append_own_at _ hgd s x t ho base e i z size bytes ht hi hz hsize hby hzs hsz (.slice A n c) n cs hs (hown.alloc _) ⟨w0.heap.size,0,none⟩ 1 1 news hx (by omega) ?_ h1 (by unfold maxLen; omega) ?_ (by simp; omega) ?_
 ·intro j u hu
  rw [Addr.add_lit,Nat.zero_add,(Blk.new w0 e news).cell];exact hu
 ·exact h47
 ·intro v' w' hown' hg _ hat
  have hform : ∃ A' c',v' = .slice A' (n + 1) c':=by
   rcases hown'.2 with ⟨_,h0⟩ | ⟨g,cap,cur,hv,_⟩
   ·omega
   ·exact ⟨_,_,hv⟩
  obtain ⟨A',c',rfl⟩:=hform;exact h A' c' w' hown' hg hat
theorem take_snoc {ps : List Pas} {k : Nat} (hk : k < ps.length) : ps.take (k + 1) = ps.take k ++ [ps.getD k noPas]:=by
 rw [List.take_add_one,List.getElem?_eq_getElem hk,List.getD_eq_getElem?_getD,List.getElem?_eq_getElem hk];rfl
theorem ownFrame_gen (W H S O : Int) (PA : Option Addr) (n c : Nat) (ps : List Pas) (w : World) (hn : ps.length = n) (hP : Passes w PA ps) (h12 : n * 64 ≤ 140737488351232) (h8 : ∀ p ∈ ps,p.L.length * 32 ≤ 140737488351232) :
 Calls Try.prog 90 #[.agg #[.int .i64 W,.int .i64 H,.int .i64 S,.int .i64 O,.slice PA n c]] w (RetOwnF w ⟨W,H,S,O,ps⟩):=by
 obtain ⟨w1,hw1⟩ : ∃ w1,(w.alloc (.cells #[.int .i64 W,.int .i64 H,.int .i64 S,.int .i64 O,.slice PA n c] 63)).alloc (.cells #[.int .i64 0,.int .i64 0,.int .i64 0,.int .i64 0,.slice none 0 0] 63) = w1:=⟨_,rfl⟩;have hb : Below w.heap.size w w1:=by rw [← hw1]; exact ((Below.refl w.heap.size w).alloc (Nat.le_refl _) _).alloc (by simp) _
 have hsz : w1.heap.size = w.heap.size + 2:=by rw [← hw1]; simp
 have hbx : FrmBox w1 w.heap.size W H S O PA n c:=by
  rw [← hw1]; exact (show FrmBox (w.alloc (.cells #[.int .i64 W,.int .i64 H,.int .i64 S,.int .i64 O,.slice PA n c] 63)) w.heap.size W H S O PA n c from Blk.new w 63 (frmCells W H S O PA n c)).alloc _
 have hrs : Blk w1 (w.heap.size + 1) 63 (frmCells 0 0 0 0 none 0 0):=by rw [← hw1]; exact Blk.newE (by simp)
 have HP:=hide (Keeps.passes (hP.keep hb));have HB1:=hide hb;have HX1:=hide (Keeps.blk hbx);have HR1:=hide hrs;have HN:=hide hn;have H8:=hide h8;obtain ⟨x,q0,q1,q2,q3,q4⟩:=FrmBox.cells hbx;clear hP hb hbx hrs hn h8;obtain ⟨i0,hi0,hz0,hz1,hz2⟩:=info_parts Try.infoPas;obtain ⟨l0,hl0,lz0,lz1,lz2⟩:=info_parts Try.info59
 have hK0 : CRel W H S O w1 (w.heap.size + 2) [] [] none 0 0 (w1.alloc (.cells #[.int .i64 W,.int .i64 H,.int .i64 S,.int .i64 O,.slice none 0 0] 63)) :=
  ⟨Blk.newE (cs:=frmCells W H S O none 0 0) hsz,GRow.nil _ _ _ _ _,fun e he=>by (cases he),(Below.refl _ _).alloc (by omega) _,rfl⟩
 have HK0:=hide hK0;clear hK0;go_enter Try.func90,Try.ntmps90
 go_wp2_with fail;clear x q0 q1 q2 q3 q4 hw1;have HSZ:=hide hsz;clear hsz;go_loopw [4,5] (fun i _ wr=>∃ (k : Nat) (A : Option Addr) (d : Nat) (es : List (List Value × Option Addr × List Value)),k ≤ n ∧ i = .int .i64 k ∧ Hid (CRel W H S O w1 (w.heap.size + 2) (ps.take k) es A k d wr)) (fun i _ _=>n - (intOf i).toNat)
 case atStart=>exact ⟨0,none,0,[],Nat.zero_le _,rfl,HK0⟩
 case round =>
  obtain ⟨k,A,d,es,hk,rfl,HR⟩:=hrel;have hsz:=HSZ.out;have hbw1 : Below w1.heap.size w1 wr:=by rw [HSZ.out]; exact HR.out.below
  obtain ⟨x,q0,q1,q2,q3,q4⟩:=FrmBox.cells (show FrmBox _ _ W H S O PA n c from HX1.out.later _ hbw1);by_cases hlt : k < n
  ·have hk0 : (0 : Int) ≤ (k : Int):=by omega
   have hk1 : (k : Int) < (n : Int):=by omega
   obtain ⟨b,o,LA,m,dd,p,rfl,hb,hp,c0,c1,c2,c3,c4,c5,hm,hL,hml⟩:=(HP.out.later _ hbw1).at_ k (by rw [HN.out]; exact hlt)
   have hp8 : p.L.length * 32 ≤ 140737488351232:=by
    have hlk : k < ps.length:=by rw [HN.out]; exact hlt
    refine H8.out p ?_;rw [← hp,List.getD_eq_getElem?_getD,List.getElem?_eq_getElem hlk];exact List.getElem_mem hlk
   subst hm;have HPP:=hide hp;have hal : Below wr.heap.size wr (wr.alloc (.cells #[.int .i64 p.Op,.int .i64 p.To,.int .i64 p.A,.int .i64 p.B,.int .i64 p.K,.slice LA p.L.length dd] 110)):=(Below.refl _ _).alloc (Nat.le_refl _) _;have hal2:=hal.alloc (by simp) (.cells #[] 59);have hpb2 : Blk ((wr.alloc (.cells #[.int .i64 p.Op,.int .i64 p.To,.int .i64 p.A,.int .i64 p.B,.int .i64 p.K,.slice LA p.L.length dd] 110)).alloc (.cells #[] 59)) wr.heap.size 110 (passCells p LA p.L.length dd):=(Blk.new wr 110 (passCells p LA p.L.length dd)).alloc _;have HC:=hide (lamps_cells (hL.keep hal2));have HLN:=hide (flatMap_length4 p.L);have HAL2:=hide hal2;have HPB2:=hide hpb2;have HR0:=hide HR.out;have hgr : ∀ q,(Value.slice A k d).ownBlock = some q → q < wr.heap.size:=fun q h=>(HR.out.row.own.lt h).2;have HGR:=hide hgr;have hws:=HR.out.below.size;have hob:=Blk.lt HR.out.out;obtain ⟨y,y0,y1,y2,y3,y4,y5⟩:=PasBox.cells (show PasBox _ wr.heap.size p LA p.L.length dd from hpb2);have y6:=Blk.frozen hpb2 5;clear hp hL hml hal hal2 hpb2 hgr HR
   go_wp2_with (at_builtin; first
    | (go_loud (refine wpList_copy ((wr.alloc (.cells #[.int .i64 p.Op,.int .i64 p.To,.int .i64 p.A,.int .i64 p.B,.int .i64 p.K,.slice LA p.L.length dd] 110)).alloc (.cells #[] 59)) rfl _ _ 45 rfl 59 l0 _ 4 32 Try.underlying45 hl0 lz0 lz1 lz2 rfl (by omega) _ rfl LA p.L.length dd (p.L.flatMap lampCells) rfl HLN.out HC.out (lamps_one p.L) (by simp only [maxLen]; omega) (by omega) ?_; intro LB ld w2 hLB hnb hE2; have hPB2:=Blk.keep HPB2.out hE2; have hq5:=Blk.frozen hPB2 5; obtain ⟨z,z0,z1,z2,z3,z4,z5⟩:=PasBox.cells (show PasBox _ _ p LA p.L.length dd from hPB2); have hP3:=hPB2.set_ 5 (.slice LB p.L.length ld); obtain ⟨z',p0,p1,p2,p3,p4,p5⟩:=PasBox.cells (show PasBox _ _ p LB p.L.length ld from hP3); have hW3:=(HAL2.out.trans (hE2.mono HAL2.out.size)).setCell (p:=⟨wr.heap.size,5,none⟩) (Nat.le_refl _) (.slice LB p.L.length ld); have hR3:=HR0.out.keep hW3; obtain ⟨s',s0,s1,s2,s3,s4⟩:=FrmBox.cells (show FrmBox _ (w.heap.size + 2) W H S O A k d from hR3.out); have HR3:=hide hR3; have HLB:=hide hLB; have HNB:=hide (fun (h : p.L.flatMap lampCells ≠ [])=>(hnb h).mono (show wr.heap.size + 1 ≤ _ from by simp)); have hbs : w.heap.size + 2 + 1 ≤ (w2.setCell ⟨wr.heap.size,5,none⟩ (.slice LB p.L.length ld)).heap.size:=(by have:=Blk.lt hR3.out; omega); clear hPB2 hP3 hW3 hR3 hLB hnb hE2))
    | (go_loud (refine wpList_app1R (w2.setCell ⟨wr.heap.size,5,none⟩ (.slice LB p.L.length ld)) w2.heap.size (by simp [World.setCell]) rfl _ _ 61 rfl (w.heap.size + 2 + 1) 110 i0 _ 6 64 Try.underlying61 hi0 hz0 hz1 hz2 rfl (by omega) A k d _ (passCells p LB p.L.length ld) rfl HR3.out.row.own rfl rfl (pas_one _ _ _ _) (by omega) (by omega) hbs ?_; intro A9 c9 w9 hown9 hg9 hat9; have hob9:=Blk.grown (Blk.alloc HR3.out.out (.cells (passCells p LB p.L.length ld).toArray 110)) (HR3.out.row.own.alloc _) hg9 (Nat.lt_succ_self _); obtain ⟨s,t0,t1,t2,t3,t4⟩:=FrmBox.cells (show FrmBox _ (w.heap.size + 2) W H S O A k d from hob9); have s5:=Blk.frozen hob9 4)))
   have hlf:=Lamps.far (p:=⟨wr.heap.size,5,none⟩) (cells_lamps HLB.out) HNB.out (Nat.lt_succ_self _) (.slice LB p.L.length ld)
   have hnk : p.L.flatMap lampCells ≠ [] → ∀ a,LB = some a → (Value.slice A k d).ownBlock ≠ some a.block:=fun h a ha hc=>by
    have h1:=HNB.out h a ha;have h2:=HGR.out _ hc;omega
   have hn8:=CRel.app HR3.out rfl (by omega) hlf (fun h=>(HNB.out h).mono (by omega)) hnk hown9 hg9 hat9;refine ⟨⟨k + 1,A9,c9,_,by omega,by simp,hide (by rw [take_snoc (by rw [HN.out]; exact hlt),HPP.out]; exact hn8)⟩,by simp [intOf]; omega⟩
  ·obtain rfl : k = n:=by omega
   obtain ⟨y,r0,r1,r2,r3,r4⟩:=FrmBox.cells (show FrmBox _ (w.heap.size + 2) W H S O A k d from HR.out.out);obtain ⟨z,z0,z1,z2,z3,z4,t0,t1,t2,t3,t4⟩:=frmRes (Blk.below HR1.out HR.out.below (by omega));go_wp2_with fail
   have hB5 : Blk (((((wr.setCell ⟨w.heap.size + 1,0,none⟩ (.int .i64 W)).setCell ⟨w.heap.size + 1,1,none⟩ (.int .i64 H)).setCell ⟨w.heap.size + 1,2,none⟩ (.int .i64 S)).setCell ⟨w.heap.size + 1,3,none⟩ (.int .i64 O)).setCell ⟨w.heap.size + 1,4,none⟩ (.slice A k d)) (w.heap.size + 1) 63 (frmCells W H S O A k d) :=
    ((((((Blk.below HR1.out HR.out.below (by omega)).set_ 0 (.int .i64 W)).set_ 1 (.int .i64 H)).set_ 2 (.int .i64 S)).set_ 3 (.int .i64 O)).set_ 4 (.slice A k d))
   obtain ⟨v,v0,v1,v2,v3,v4⟩:=FrmBox.cells (show FrmBox _ _ W H S O A k d from hB5);have hG:=((((HR.out.row.far5 HR.out.new (p:=⟨w.heap.size + 1,0,none⟩) (by simp only; omega) (.int .i64 W)).far5 HR.out.new (p:=⟨w.heap.size + 1,1,none⟩) (by simp only; omega) (.int .i64 H)).far5 HR.out.new (p:=⟨w.heap.size + 1,2,none⟩) (by simp only; omega) (.int .i64 S)).far5 HR.out.new (p:=⟨w.heap.size + 1,3,none⟩) (by simp only; omega) (.int .i64 O)).far5 HR.out.new (p:=⟨w.heap.size + 1,4,none⟩) (by simp only; omega) (.slice A k d);have hbw:=((((HB1.out.trans (HR.out.below.mono (by omega))).setCell (p:=⟨w.heap.size + 1,0,none⟩) (by simp) (.int .i64 W)).setCell (p:=⟨w.heap.size + 1,1,none⟩) (by simp) (.int .i64 H)).setCell (p:=⟨w.heap.size + 1,2,none⟩) (by simp) (.int .i64 S)).setCell (p:=⟨w.heap.size + 1,3,none⟩) (by simp) (.int .i64 O);refine bodyPost_ret (v:=.agg #[.int .i64 W,.int .i64 H,.int .i64 S,.int .i64 O,.slice A k d]) ?_ rfl ?_
   ·simp [results,Try.results90,go_sem,v0,v1,v2,v3,v4]
   ·have htk : ps.take k = ps:=List.take_of_length_le (by rw [HN.out]; exact Nat.le_refl _)
    rw [htk] at hG;exact ⟨A,k,d,es,rfl,HN.out,hG,HR.out.new,hbw.setCell (p:=⟨w.heap.size + 1,4,none⟩) (by simp) (.slice A k d)⟩
theorem ownFrame_any (W H S O : Int) (PA : Option Addr) (n c : Nat) (ps : List Pas) (w : World) (hn : ps.length = n) (hP : Passes w PA ps) (h12 : n ≤ 12) (h8 : ∀ p ∈ ps,p.L.length ≤ 8) :
 Calls Try.prog 90 #[.agg #[.int .i64 W,.int .i64 H,.int .i64 S,.int .i64 O,.slice PA n c]] w (RetOwnF w ⟨W,H,S,O,ps⟩) :=
 ownFrame_gen W H S O PA n c ps w hn hP (by omega) (fun p hp=>by have:=h8 p hp; omega)
end Go.Proofs.Ytibpmogmeoappaa
