/- Walks: passError (all classes), sizeOf. -/
import Derived.Test.YtibpmogmeoappabGreatJPlain
import Derived.Test.YtibpmogmeoappabGreatJFrmB1
import Derived.Test.YtibpmogmeoappabGreatJImgG
import Derived.Test.YtibpmogmeoappabGreatJMem
import Derived.Test.YtibpmogmeoappabGreatJImgA
import Derived.Test.YtibpmogmeoappabGreatJLitA
set_option maxRecDepth 100000
set_option maxHeartbeats 4000000
namespace Go.Proofs.YtibpmogmeoappabGreat
open Go.RowKit
theorem keepC {w w' : World} (hb : Below w.heap.size w w') {b o : Nat} {v : Value} (h : w.cell? ⟨b,o,none⟩ = some v) : w'.cell? ⟨b,o,none⟩ = some v:=by rw [(bcell hb).1 b o (World.block_lt_of_cell? w _ h)]; exact h
theorem op_cases {op : Int} (h : inR op 1 13 = true) : op = 1 ∨ op = 2 ∨ op = 3 ∨ op = 4 ∨ op = 5 ∨ op = 6 ∨ op = 7 ∨ op = 8 ∨ op = 9 ∨ op = 10 ∨ op = 11 ∨ op = 12 ∨ op = 13:=by
 have:=inR_iff.1 h; omega
theorem op_class {op : Int} (h : inR op 1 13 = true) :
 (hasA op = false ∧ hasB op = false ∧ hasK op = true ∧ hasL op = false ∧ ¬ op = 11 ∧ ¬ op = 12 ∧ (op = 1 ∨ op = 2)) ∨
 (hasA op = true ∧ hasB op = false ∧ hasK op = false ∧ hasL op = false ∧ (op = 11 ∨ op = 12 ∨ (¬ op = 11 ∧ ¬ op = 12)) ∧ (op = 3 ∨ op = 10 ∨ op = 11 ∨ op = 12)) ∨
 (hasA op = true ∧ hasB op = false ∧ hasK op = true ∧ hasL op = false ∧ ¬ op = 11 ∧ ¬ op = 12 ∧ (op = 8 ∨ op = 9)) ∨
 (hasA op = true ∧ hasB op = true ∧ hasK op = false ∧ hasL op = false ∧ ¬ op = 11 ∧ ¬ op = 12 ∧ (4 ≤ op ∧ op ≤ 7)) ∨
 (hasA op = true ∧ hasB op = false ∧ hasK op = true ∧ hasL op = true ∧ ¬ op = 11 ∧ ¬ op = 12 ∧ op = 13):=by
 rcases op_cases h with rfl | rfl | rfl | rfl | rfl | rfl | rfl | rfl | rfl | rfl | rfl | rfl | rfl <;> decide
theorem passErr_kind (W H S O : Int) (PA : Option Addr) (n c : Nat) (p : Pas) (LA : Option Addr) (m d : Nat) (SA : Option Addr) (N cN : Nat) (st : List Sz) (w : World) (h0 : inR p.Op 1 13 = false) :
 Calls Tryz.prog 37 #[.agg #[.int .i64 W,.int .i64 H,.int .i64 S,.int .i64 O,.slice PA n c],.agg #[.int .i64 p.Op,.int .i64 p.To,.int .i64 p.A,.int .i64 p.B,.int .i64 p.K,.slice LA m d],.slice SA N cN] w (RetE w (passErr S p st)):=by
 rw [pe_kind h0];obtain ⟨op,to,a,b,k,L⟩:=p;simp only at *;go_enter Tryz.func37,Tryz.ntmps37
 go_wp2_with fail;refine (within_any _ _ _ _).mono ?_;rintro e w1 ⟨rfl,he⟩;subst he;rw [h0];go_wp2_with fail;go_ret;exact ⟨rfl,((Below.refl _ _).alloc (Nat.le_refl _) _).alloc (by simp) _⟩
theorem passErr_ref (W H S O : Int) (PA : Option Addr) (n c : Nat) (p : Pas) (LA : Option Addr) (m d : Nat) (SA : Option Addr) (N cN : Nat) (st : List Sz) (w : World)
 (hS : 1 ≤ S ∧ S ≤ 8) (hN : (N : Int) = S) (hst : st.length = N) (hsz : Sizes w SA st) (hbd : ∀ i : Int,(0 ≤ (szAt st i).W ∧ (szAt st i).W ≤ 16) ∧ (0 ≤ (szAt st i).H ∧ (szAt st i).H ≤ 16))
 (hm : p.L.length = m) (hL : Lamps w LA p.L) (hl : m ≤ 9223372036854775807) :
 Calls Tryz.prog 37 #[.agg #[.int .i64 W,.int .i64 H,.int .i64 S,.int .i64 O,.slice PA n c],.agg #[.int .i64 p.Op,.int .i64 p.To,.int .i64 p.A,.int .i64 p.B,.int .i64 p.K,.slice LA m d],.slice SA N cN] w (RetE w (passErr S p st)):=by
 cases h0 : inR p.Op 1 13 with
 | false=>exact passErr_kind W H S O PA n c p LA m d SA N cN st w h0
 | true =>
   rcases op_class h0 with ⟨a,b,k,l,e1,e2,_⟩ | ⟨a,b,k,l,e1,_⟩ | ⟨a,b,k,l,e1,e2,_⟩ | ⟨a,b,k,l,e1,e2,_⟩ | ⟨a,b,k,l,e1,e2,_⟩
   ·exact passErr_fill W H S O PA n c p LA m d SA N cN st w hS hN hst hsz hbd hm hL hl h0 a b k l e1 e2
   ·exact passErr_one W H S O PA n c p LA m d SA N cN st w hS hN hst hsz hbd hm hL hl h0 a b k l e1
   ·exact passErr_cut W H S O PA n c p LA m d SA N cN st w hS hN hst hsz hbd hm hL hl h0 a b k l e1 e2
   ·exact passErr_two W H S O PA n c p LA m d SA N cN st w hS hN hst hsz hbd hm hL hl h0 a b k l e1 e2
   ·exact passErr_lit W H S O PA n c p LA m d SA N cN st w hS hN hst hsz hbd hm hL hl h0 a b k l e1 e2
theorem oneSize_quiet (op cw ch : Int) (w : World) (hw1 : 0 ≤ cw) (hw2 : cw ≤ 16) (hh1 : 0 ≤ ch) (hh2 : ch ≤ 16) (q : Nat) :
 Calls Tryz.prog 64 #[.int .i64 op,.int .i64 cw,.int .i64 ch] (w.drewN q) fun e w'=>e = .returned (.tuple #[.int .i64 (sizeW op cw),.int .i64 (sizeW op ch)]) ∧ ∃ q,w' = w.drewN q :=
 (oneSize_ref op cw ch (w.drewN q) hw1 hw2 hh1 hh2).mono fun _ _ ⟨e1,e2⟩=>⟨e1,q,e2.symm⟩
def RetSz (w : World) (s : Sz) (e : Ending) (w' : World) : Prop:=e = .returned (.agg #[.int .i64 s.W,.int .i64 s.H]) ∧ Below w.heap.size w w'
theorem sizeOf_ref (W H S O : Int) (PA : Option Addr) (n c : Nat) (p : Pas) (LA : Option Addr) (m d : Nat) (SA : Option Addr) (N cN : Nat) (st : List Sz) (w : World)
 (hN : (N : Int) = S) (hst : st.length = N) (hsz : Sizes w SA st) (hbd : ∀ i : Int,(0 ≤ (szAt st i).W ∧ (szAt st i).W ≤ 16) ∧ (0 ≤ (szAt st i).H ∧ (szAt st i).H ≤ 16)) (hL : Lamps w LA p.L)
 (hA : hasA p.Op = true → 0 ≤ p.A ∧ p.A ≤ S - 1) :
 Calls Tryz.prog 38 #[.agg #[.int .i64 W,.int .i64 H,.int .i64 S,.int .i64 O,.slice PA n c],.agg #[.int .i64 p.Op,.int .i64 p.To,.int .i64 p.A,.int .i64 p.B,.int .i64 p.K,.slice LA m d],.slice SA N cN] w (RetSz w (passSize W H p st)):=by
 have HHA:=hide (fun (W0 : World)=>has_any p.Op W0);unfold RetHas at HHA;have HK:=hide (passMem_start (p:=p) hL hsz W H S O PA n c m d);have HSZ:=hide (fun (x : Int) (W0 : World) (h : Sizes W0 SA st) (hx : slotIn S x = true)=>sizes_at h hst hN hx);have HBD:=hide hbd;obtain ⟨op,to,a,b,k,L⟩:=p;simp only at *
 cases ha : hasA op with
 | false =>
   have hps : passSize W H ⟨op,to,a,b,k,L⟩ st = ⟨W,H⟩:=by unfold passSize; rw [if_neg (by simp [ha])]
   rw [hps];rw [ha] at HHA;clear hps hbd hL hsz hst hA ha;go_enter Tryz.func38,Tryz.ntmps38
   go_wp2_with fail;refine ((unhide HHA) _).mono ?_;rintro e w1 ⟨rfl,he⟩;subst he;obtain ⟨p,p0,p1,p2,p3,p4⟩:=FrmBox.cells HK.out.1;go_wp2_with fail;refine bodyPost_ret (v:=.agg #[.int .i64 W,.int .i64 H]) (by simp [results,Tryz.results38,go_sem]) rfl ?_;exact ⟨rfl,HK.out.2.2.2.2.alloc HK.out.2.2.2.2.size _⟩
 | true =>
   have hps : passSize W H ⟨op,to,a,b,k,L⟩ st = ⟨sizeW op (szAt st a).W,sizeW op (szAt st a).H⟩:=by unfold passSize; rw [if_pos (by simp [ha])]
   rw [hps];rw [ha] at HHA;obtain ⟨a0,a1⟩:=hA ha;have haN : a < (N : Int):=by omega
   obtain ⟨⟨bw0,bw1⟩,⟨bh0,bh1⟩⟩:=hbd a;have hslot : slotIn S a = true:=inR_iff.2 ⟨a0,a1⟩;have hK2:=HK.out.2.2.2.1;obtain ⟨sb,so,rfl,sl,sc0,sc1⟩:=HSZ.out a _ hK2 hslot
   have HC : Hid (∀ W0 : World,Below ((w.alloc (.cells (frmCells W H S O PA n c).toArray 24)).alloc (.cells (passCells ⟨op,to,a,b,k,L⟩ LA m d).toArray 72)).heap.size ((w.alloc (.cells (frmCells W H S O PA n c).toArray 24)).alloc (.cells (passCells ⟨op,to,a,b,k,L⟩ LA m d).toArray 72)) W0 →
    sb < W0.heap.size ∧ W0.cell? ⟨sb,so + a.toNat * 2,none⟩ = some (.int .i64 (szAt st a).W) ∧ W0.cell? ⟨sb,so + a.toNat * 2 + 1,none⟩ = some (.int .i64 (szAt st a).H)):=hide fun W0 hb=>⟨Nat.lt_of_lt_of_le sl hb.size,keepC hb sc0,keepC hb sc1⟩
   clear hps hbd hL hsz hst hA ha hslot hK2 sl sc0 sc1;generalize (szAt st a).W = sw at *;generalize (szAt st a).H = sh at *;go_enter Tryz.func38,Tryz.ntmps38
   go_wp2_with fail;have hb1:=(Below.refl ((w.alloc (.cells (frmCells W H S O PA n c).toArray 24)).alloc (.cells (passCells ⟨op,to,a,b,k,L⟩ LA m d).toArray 72)).heap.size ((w.alloc (.cells (frmCells W H S O PA n c).toArray 24)).alloc (.cells (passCells ⟨op,to,a,b,k,L⟩ LA m d).toArray 72))).alloc (Nat.le_refl _) (.cells #[.int .i64 0,.int .i64 0] 53);obtain ⟨sl,sc0,sc1⟩:=HC.out _ hb1;have HK1:=hide (HK.out.keep hb1)
   have HRB : Hid (Blk (((w.alloc (.cells (frmCells W H S O PA n c).toArray 24)).alloc (.cells (passCells ⟨op,to,a,b,k,L⟩ LA m d).toArray 72)).alloc (.cells #[.int .i64 0,.int .i64 0] 53)) (w.heap.size + 1 + 1) 53 [.int .i64 0,.int .i64 0]):=hide (by
    have h:=Blk.new ((w.alloc (.cells (frmCells W H S O PA n c).toArray 24)).alloc (.cells (passCells ⟨op,to,a,b,k,L⟩ LA m d).toArray 72)) 53 [.int .i64 0,.int .i64 0];simp only [World.size_alloc] at h
    exact h)
   clear hb1 HC HK;obtain ⟨p,p0,p1,p2,p3,p4,p5⟩:=PasBox.cells HK1.out.2.1;simp only at p0 p1 p2 p3 p4 p5;refine ((unhide HHA) _).mono ?_;rintro e w1 ⟨rfl,he⟩;have HK2 : Hid (PassMem w W H S O PA n c ⟨op,to,a,b,k,L⟩ LA m d (some ⟨sb,so,none⟩) st w1):=hide (by rw [← he]; exact HK1.out);have HR2 : Hid (Blk w1 (w.heap.size + 1 + 1) 53 [.int .i64 0,.int .i64 0]):=hide (by rw [← he]; exact HRB.out);have sl' : sb < w1.heap.size:=by rw [← he]; exact sl
   have sc0' : w1.cell? ⟨sb,so + a.toNat * 2,none⟩ = some (.int .i64 sw):=by rw [← he]; exact sc0
   have sc1' : w1.cell? ⟨sb,so + a.toNat * 2 + 1,none⟩ = some (.int .i64 sh):=by rw [← he]; exact sc1
   clear he sl sc0 sc1 p p0 p1 p2 p3 p4 p5 HRB HK1;obtain ⟨p,p0,p1,p2,p3,p4,p5⟩:=PasBox.cells HK2.out.2.1;simp only at p0 p1 p2 p3 p4 p5;have HQ:=hide (oneSize_quiet op sw sh w1 bw0 bw1 bh0 bh1);go_wp2_with fail;go_quiet ((go_at_call 64; exact (unhide HQ) _))
   generalize hq : World.drewN w1 _ = w2;have hb2 : Below w1.heap.size w1 w2:=by rw [← hq]; exact below_drewN (Below.refl _ _) _
   have hR:=HR2.out.keep hb2;have HB:=hide ((HK2.out.keep hb2).2.2.2.2);have r0 : w2.cell? ⟨w.heap.size + 1 + 1,0,none⟩ = some (.int .i64 0):=by rw [hR.cell]; rfl
   have r1 : w2.cell? ⟨w.heap.size + 1 + 1,1,none⟩ = some (.int .i64 0):=by rw [hR.cell]; rfl
   have f0:=hR.frozen 0;have f1:=hR.frozen 1;have hlt:=hR.lt;clear hR hq hb2 HR2 HK2 p p0 p1 p2 p3 p4 p5 sl' sc0' sc1' HQ;go_wp2_with fail;refine bodyPost_ret (v:=.agg #[.int .i64 (sizeW op sw),.int .i64 (sizeW op sh)]) (by simp [results,Tryz.results38,go_sem,r0,r1]) rfl ?_;exact ⟨rfl,(HB.out.setCell (p:=⟨w.heap.size + 1 + 1,0,none⟩) (by simp only; omega) _).setCell (p:=⟨w.heap.size + 1 + 1,1,none⟩) (by simp only; omega) _⟩
end Go.Proofs.YtibpmogmeoappabGreat
namespace Go.Proofs.YtibpmogmeoappabGreat
open Go.RowKit
theorem flat_set (st : List Sz) (i : Nat) (s : Sz) (hi : i < st.length) : (st.set i s).flatMap szCells = ((st.flatMap szCells).set (i * 2) (.int .i64 s.W)).set (i * 2 + 1) (.int .i64 s.H):=by
 induction st generalizing i with
 | nil=>simp at hi
 | cons x xs ih =>
   cases i with
   | zero=>simp [szCells]
   | succ i =>
     have hi' : i < xs.length:=by simpa using hi
     rw [List.set_cons_succ,List.flatMap_cons,ih i hi',List.flatMap_cons];rw [show (i + 1) * 2 = i * 2 + 2 by omega,show i * 2 + 2 + 1 = (i * 2 + 1) + 2 by omega];rfl
theorem Tryz.info53 : (Tryz.prog.info? 53).map (fun i=>(i.zero,i.size,i.bytes)) = some (some (.agg #[.int .i64 0,.int .i64 0]),2,16):=by kernel_rfl
theorem sz_one (s : Sz) : ∀ u ∈ szCells s,u.oneCell' = true:=by
 intro u hu;simp only [szCells,List.mem_cons,List.not_mem_nil,or_false] at hu;rcases hu with rfl | rfl <;> rfl
theorem flat_replicate (N : Nat) : (List.replicate N (⟨0,0⟩ : Sz)).flatMap szCells = List.replicate (N * 2) (.int .i64 0):=by
 induction N with
 | zero=>rfl
 | succ N ih=>rw [List.replicate_succ,List.flatMap_cons,ih,Nat.succ_mul,show N * 2 + 2 = (N * 2) + 1 + 1 by omega,List.replicate_succ,List.replicate_succ]; rfl
theorem run_make_sizes (i : TypeInfo) (hi : Tryz.prog.info? 53 = some i) (hz : i.zero = some (.agg #[.int .i64 0,.int .i64 0])) (hs : i.size = 2) (hb : i.bytes = 16) (S : Int) (h0 : 0 ≤ S) (h1 : S ≤ 65536) (w : World) :
 (Instr.makeSlice 48 (.int .i64 S) (.int .i64 S)).run Tryz.prog w = .ok (.slice (some ⟨w.heap.size,0,none⟩) S.toNat S.toNat) (w.alloc (.cells ((List.replicate S.toNat (⟨0,0⟩ : Sz)).flatMap szCells).toArray 53)):=by
 obtain ⟨N,rfl⟩:=Int.eq_ofNat_of_zero_le h0;have hr:=run_make (P:=Tryz.prog) w 48 53 i (.agg #[.int .i64 0,.int .i64 0]) Tryz.underlying48 hi hz .i64 .i64 (N : Int) (N : Int) (by omega) (by omega) (by rw [hb]; omega) (by omega);simp only [Int.toNat_natCast] at hr;rw [hr,hs,Int.toNat_natCast,flat_replicate]
 have e1 : madeCells (Value.agg #[.int .i64 0,.int .i64 0]).cells (N * 2) = (List.replicate (N * 2) (Value.int .i64 0)).toArray:=by
  apply Array.ext
  ·simp [madeCells,Value.cells]
  ·intro j h1 h2
   have hj : j % 2 = 0 ∨ j % 2 = 1:=by omega
   simp only [madeCells,Value.cells] at h1 ⊢;rcases hj with hj | hj <;> simp [hj]
 rw [e1]
def RetSzs (w : World) (L : List Sz) (z : Int) (e : Ending) (w' : World) : Prop :=
 ∃ (A : Option Addr) (n c : Nat),e = .returned (.tuple #[.slice A n c,.int .i64 z]) ∧ L.length = n ∧ Sizes w' A L ∧ Below w.heap.size w w'
theorem retSzs_none {w w' : World} {z : Int} (hb : Below w.heap.size w w') : RetSzs w [] z (.returned (.tuple #[.slice none 0 0,.int .i64 z])) w':=⟨none,0,0,rfl,rfl,Cells.nil _ _,hb⟩
theorem frErr_range {f : Frm} (h : ¬ f.Bounds) : frErr f = 3:=by unfold frErr; rw [if_pos h]
theorem frErr_many {f : Frm} (h : f.Bounds) (hn : ¬ (1 ≤ f.P.length ∧ f.P.length ≤ 12)) : frErr f = 2:=by unfold frErr; rw [if_neg (by simpa using h),if_pos hn]
theorem frErr_pass {f : Frm} (h : f.Bounds) (hn : 1 ≤ f.P.length ∧ f.P.length ≤ 12) {k : Nat} (hk : k < f.P.length) (h0 : frErrTo f k = 0) (he : passErr f.S (f.pas k) (frSt f k) ≠ 0) : frErr f = passErr f.S (f.pas k) (frSt f k):=by
 have h1:=frErrTo_succ h0;have h2 : frErrTo f f.P.length = passErr f.S (f.pas k) (frSt f k):=by rw [frErrTo_stop (k:=k + 1) (by rw [h1]; exact he) hk,h1]
 unfold frErr; rw [if_neg (by simpa using h),if_neg (by simpa using hn),h2,if_pos he]
theorem frErr_end {f : Frm} (h : f.Bounds) (hn : 1 ≤ f.P.length ∧ f.P.length ≤ 12) (h0 : frErrTo f f.P.length = 0) : frErr f = if (szAt (frSt f f.P.length) f.O).W = 0 then 5 else 0:=by
 unfold frErr; rw [if_neg (by simpa using h),if_neg (by simpa using hn),h0]; rfl
theorem frSizes_no {f : Frm} (h : frErr f ≠ 0) : frSizes f = []:=if_neg h
structure CfRel (w : World) (f : Frm) (PA : Option Addr) (n c : Nat) (k j : Nat) (A : Option Addr) (d : Nat) (wr : World) : Prop where
 own : Own wr (w.heap.size + 2) 53 2 A k d ((frAll f k).flatMap szCells)
 ins : Blk wr (w.heap.size + 1) 53 ((frSt f j).flatMap szCells)
 box : FrmBox wr w.heap.size f.W f.H f.S f.O PA n c
 size : w.heap.size + 2 ≤ wr.heap.size
 below : Below w.heap.size w wr
section
variable {w : World} {f : Frm} {PA : Option Addr} {n c k j d : Nat} {A : Option Addr} {wr w1 : World}
theorem CfRel.keep (h : CfRel w f PA n c k j A d wr) (hb : Below wr.heap.size wr w1) : CfRel w f PA n c k j A d w1 :=
 ⟨h.own.keep hb,h.ins.keep hb,Blk.keep h.box hb,Nat.le_trans h.size hb.size,h.below.trans (hb.mono h.below.size)⟩
theorem CfRel.store (h : CfRel w f PA n c k j A d wr) (hto : (f.pas j).To.toNat < (frSt f j).length) :
 CfRel w f PA n c k (j + 1) A d ((wr.setCell ⟨w.heap.size + 1,(f.pas j).To.toNat * 2,none⟩ (.int .i64 (frSize f j).W)).setCell ⟨w.heap.size + 1,(f.pas j).To.toNat * 2 + 1,none⟩ (.int .i64 (frSize f j).H)):=by
 have hins:=(h.ins.set_ ((f.pas j).To.toNat * 2) (.int .i64 (frSize f j).W)).set_ ((f.pas j).To.toNat * 2 + 1) (.int .i64 (frSize f j).H);rw [← flat_set _ _ _ hto] at hins;refine ⟨(h.own.far (p:=⟨w.heap.size + 1,_,none⟩) (by simp) _).far (p:=⟨w.heap.size + 1,_,none⟩) (by simp) _,hins,?_,?_,?_⟩
 ·exact (Blk.far h.box (p:=⟨w.heap.size + 1,(f.pas j).To.toNat * 2,none⟩) (by simp) (.int .i64 (frSize f j).W)).far (p:=⟨w.heap.size + 1,(f.pas j).To.toNat * 2 + 1,none⟩) (by simp) (.int .i64 (frSize f j).H)
 ·have:=h.size; simp only [World.setCell,Array.size_modify]; exact this
 ·exact (h.below.setCell (p:=⟨w.heap.size + 1,(f.pas j).To.toNat * 2,none⟩) (by simp) (.int .i64 (frSize f j).W)).setCell (p:=⟨w.heap.size + 1,(f.pas j).To.toNat * 2 + 1,none⟩) (by simp) (.int .i64 (frSize f j).H)
theorem CfRel.app (h : CfRel w f PA n c k j A d wr) {o : Obj} {A1 : Option Addr} {c1 : Nat} (hg : (wr.alloc o).grownBy w1 (Value.slice A k d).ownBlock)
 (ho : Own w1 (w.heap.size + 2) 53 2 A1 (k + 1) c1 ((frAll f k).flatMap szCells ++ szCells (frSize f k))) : CfRel w f PA n c (k + 1) j A1 c1 w1:=by
 have hs:=h.size;refine ⟨?_,(h.ins.alloc o).grown (h.own.alloc o) hg (by omega),(Blk.alloc h.box o).grown (h.own.alloc o) hg (by omega),?_,?_⟩
 ·rw [frAll_succ,List.flatMap_append]; simpa using ho
 ·have:=hg.size; simp only [World.size_alloc] at this; omega
 ·exact Below.grownOwn (h.below.alloc h.below.size o) (h.own.alloc o) hg (by simp only [World.size_alloc]; omega) (by omega)
end
theorem checkFrame_ref (W H S O : Int) (PA : Option Addr) (n c : Nat) (ps : List Pas) (w : World) (hn : ps.length = n) (hP : Passes w PA ps) (hl : n ≤ 9223372036854775807) :
 Calls Tryz.prog 16 #[.agg #[.int .i64 W,.int .i64 H,.int .i64 S,.int .i64 O,.slice PA n c]] w (RetSzs w (frSizes ⟨W,H,S,O,ps⟩) (frErr ⟨W,H,S,O,ps⟩)):=by
 obtain ⟨i0,hi0,hz0,hz1,hz2⟩:=info_parts Tryz.info53;have hmk:=fun (h0 : 0 ≤ S) (h1 : S ≤ 65536) (wx : World)=>run_make_sizes i0 hi0 hz0 hz1 hz2 S h0 h1 wx;have HMK:=hide hmk;have HI0:=hide hi0;have HZ0:=hide hz0;have HZ1:=hide hz1;have HZ2:=hide hz2;have HN:=hide hn;have HP:=hide (Keeps.passes hP);have HBX:=hide (show FrmBox (w.alloc (.cells (frmCells W H S O PA n c).toArray 24)) w.heap.size W H S O PA n c from Blk.new w 24 (frmCells W H S O PA n c));have HB0:=hide ((Below.refl w.heap.size w).alloc (Nat.le_refl _) (.cells (frmCells W H S O PA n c).toArray 24));have HW : Hid (∀ z,RetSzs w [] z (.returned (.tuple #[.slice none 0 0,.int .i64 z])) (w.alloc (.cells (frmCells W H S O PA n c).toArray 24))):=hide fun z=>retSzs_none HB0.out;clear hmk hi0 hz0 hz1 hz2 hn hP;by_cases hBd : Frm.Bounds ⟨W,H,S,O,ps⟩
 ·by_cases hlen : 1 ≤ n ∧ n ≤ 12
  ·have HBd:=hide hBd
   obtain ⟨⟨b1,b2⟩,⟨b3,b4⟩,⟨b5,b6⟩,⟨b7,b8⟩⟩:=hBd;simp only at b1 b2 b3 b4 b5 b6 b7 b8;have r1 : inR W 1 16 = true:=inR_iff.2 ⟨b1,b2⟩;have r2 : inR H 1 16 = true:=inR_iff.2 ⟨b3,b4⟩;have r3 : inR S 1 8 = true:=inR_iff.2 ⟨b5,b6⟩;have r4 : inR O 0 (S - 1) = true:=inR_iff.2 ⟨b7,b8⟩;have r5 : inR (n : Int) 1 12 = true:=inR_iff.2 (by omega);have hmk:=HMK.out (by omega) (by omega);obtain ⟨l1,l2⟩:=hlen;go_enter Tryz.func16,Tryz.ntmps16
   go_wp2_with (go_at_call 32; refine (within_any _ _ _ _).mono ?_; rintro e w1 ⟨rfl,rfl⟩)
   obtain ⟨f,hf⟩ : ∃ f : Frm,f = ⟨W,H,S,O,ps⟩:=⟨_,rfl⟩;have fW : f.W = W:=by rw [hf]
   have fH : f.H = H:=by rw [hf]
   have fS : f.S = S:=by rw [hf]
   have fO : f.O = O:=by rw [hf]
   have fP : f.P = ps:=by rw [hf]
   have HF:=hide hf;have HFW:=hide (show f.W = W ∧ f.H = H ∧ f.S = S ∧ f.O = O ∧ f.P = ps from ⟨fW,fH,fS,fO,fP⟩);have HBf : Hid f.Bounds:=hide (by rw [hf]; exact HBd.out)
   have hst0 : CfRel w f PA n c 0 0 none 0 ((w.alloc (.cells (frmCells W H S O PA n c).toArray 24)).alloc (.cells ((List.replicate S.toNat (⟨0,0⟩ : Sz)).flatMap szCells).toArray 53)):=by
    refine ⟨Own.nil _ _ _ _,?_,?_,by simp,HB0.out.alloc (by simp) _⟩
    ·have h:=Blk.new (w.alloc (.cells (frmCells W H S O PA n c).toArray 24)) 53 ((List.replicate S.toNat (⟨0,0⟩ : Sz)).flatMap szCells)
     simp only [World.size_alloc] at h;have e : frSt f 0 = List.replicate S.toNat ⟨0,0⟩:=by unfold frSt; rw [fS]
     rw [e]; exact h
    ·rw [fW,fH,fS,fO]; exact Blk.alloc HBX.out _
   have HST:=hide hst0;have HER : Hid (frErrTo f 0 = 0):=hide rfl;clear hf fW fH fS fO fP hst0 r1 r2 r3 r4 r5;go_loopw [5,6] (fun s i wr=>∃ (k : Nat) (A' : Option Addr) (d' : Nat),k ≤ n ∧ i = .int .i64 k ∧ s = .slice A' k d' ∧ Hid (frErrTo f k = 0) ∧ CfRel w f PA n c k k A' d' wr) (fun _ i _=>n - (intOf i).toNat)
   case atStart=>exact ⟨0,none,0,Nat.zero_le _,rfl,rfl,HER,HST.out⟩
   case round =>
    obtain ⟨k,A',d',hk,rfl,rfl,HE,hR⟩:=hrel;have HR:=hide hR;have hbx:=hR.box;rw [HFW.out.1,HFW.out.2.1,HFW.out.2.2.1,HFW.out.2.2.2.1] at hbx;obtain ⟨x,q0,q1,q2,q3,q4⟩:=FrmBox.cells hbx;clear hR hbx HER HST;by_cases hlt : k < n
    ·have hk0 : (0 : Int) ≤ (k : Int):=by omega
     have hk1 : (k : Int) < (n : Int):=by omega
     obtain ⟨b,o,LA,m,d,p,rfl,hb,hp,c0,c1,c2,c3,c4,c5,hm,hL,hml⟩:=(HP.out.later _ HR.out.below).at_ k (by have:=HN.out; omega);have HPK : Hid (f.pas k = p):=hide (by unfold Frm.pas; rw [HFW.out.2.2.2.2]; exact hp);have HLP:=hide (Keeps.lampsK hL);have HM:=hide hm;clear hp hL hm;go_wp2_with fail;have hal : Below wr.heap.size wr (wr.alloc (.cells (passCells p LA m d).toArray 72)):=(Below.refl _ _).alloc (Nat.le_refl _) _;have HR1:=hide (HR.out.keep hal);have HPB:=hide (show PasBox (wr.alloc (.cells (passCells p LA m d).toArray 72)) wr.heap.size p LA m d from Blk.new wr 72 (passCells p LA m d));have HL1:=hide (HLP.out.move hal);have hwr:=HR.out.size;refine (passErr_ref W H S O (some ⟨b,o,none⟩) n c p LA m d (some ⟨w.heap.size + 1,0,none⟩) S.toNat S.toNat (frSt f k) (wr.alloc (.cells (passCells p LA m d).toArray 72)) ⟨b5,b6⟩ (by omega) (by rw [frSt_len,HFW.out.2.2.1]) HR1.out.ins.cells (frSt_bd HBf.out HE.out) HM.out HL1.out.now hml).mono ?_;rintro e w1 ⟨rfl,hE1⟩;have HR2:=hide (HR1.out.keep hE1);have HPB1:=hide (Blk.keep HPB.out hE1);have HL2:=hide (HL1.out.move hE1);have hw1:=hE1.size;simp only [World.size_alloc] at hw1;have hbx:=HR2.out.box;rw [HFW.out.1,HFW.out.2.1,HFW.out.2.2.1,HFW.out.2.2.2.1] at hbx;clear x q0 q1 q2 q3 q4 c0 c1 c2 c3 c4 c5 hal HR HR1 HPB HL1 HLP hE1;obtain ⟨x,q0,q1,q2,q3,q4⟩:=FrmBox.cells hbx;obtain ⟨y,d0,d1,d2,d3,d4,d5⟩:=PasBox.cells HPB1.out;clear hbx;by_cases hpe : passErr S p (frSt f k) = 0
     ·have hok:=pass_ok hpe
      have HPE:=hide hpe;have HOK:=hide hok;rw [hpe];obtain ⟨to0,to1⟩:=hok.to;clear hpe hok;go_wp2_with fail;refine (sizeOf_ref W H S O (some ⟨b,o,none⟩) n c p LA m d (some ⟨w.heap.size + 1,0,none⟩) S.toNat S.toNat (frSt f k) w1 (by omega) (by rw [frSt_len,HFW.out.2.2.1]) HR2.out.ins.cells (frSt_bd HBf.out HE.out) HL2.out.now HOK.out.a).mono ?_;have hfs : passSize W H p (frSt f k) = frSize f k:=by unfold frSize; rw [HPK.out,HFW.out.1,HFW.out.2.1]
      rw [hfs];rintro e w2 ⟨rfl,hE2⟩;have hal : Below w2.heap.size w2 (w2.alloc (.cells #[.int .i64 (frSize f k).W,.int .i64 (frSize f k).H] 53)):=(Below.refl _ _).alloc (Nat.le_refl _) _;have HR3a:=hide (HR2.out.keep hE2);have HR3:=hide (HR3a.out.keep hal);have HPB2:=hide (Blk.keep (Blk.keep HPB1.out hE2) hal);have HSB:=hide (Blk.new w2 53 (szCells (frSize f k)));have hw2:=hE2.size;clear x q0 q1 q2 q3 q4 y d0 d1 d2 d3 d4 d5 hE2 hal HR2 HPB1 HL2;obtain ⟨y,d0,d1,d2,d3,d4,d5⟩:=PasBox.cells HPB2.out;have s0 : (w2.alloc (.cells #[.int .i64 (frSize f k).W,.int .i64 (frSize f k).H] 53)).cell? ⟨w2.heap.size,0,none⟩ = some (.int .i64 (frSize f k).W):=(HSB.out.cell 0).trans rfl;have s1 : (w2.alloc (.cells #[.int .i64 (frSize f k).W,.int .i64 (frSize f k).H] 53)).cell? ⟨w2.heap.size,1,none⟩ = some (.int .i64 (frSize f k).H):=(HSB.out.cell 1).trans rfl;have hslot : slotIn S p.To = true:=inR_iff.2 ⟨to0,to1⟩;obtain ⟨b',o',hsa,hb',i1,i2⟩:=sizes_at (N:=S.toNat) HR3a.out.ins.cells (by rw [frSt_len,HFW.out.2.2.1]) (by omega) hslot;injection hsa with hsa;injection hsa with e1 e2;subst e1 e2;rw [Nat.zero_add] at i1 i2;have g1:=HR3a.out.ins.frozen (p.To.toNat * 2);have g2:=HR3a.out.ins.frozen (p.To.toNat * 2 + 1);have hto3 : p.To < (S.toNat : Int):=by omega
      have hw3 : w.heap.size + 1 < w2.heap.size:=by omega
      have hw4 : wr.heap.size < w2.heap.size:=by omega
      have hw5 : ¬ w.heap.size + 1 = w2.heap.size:=by omega
      have hw6 : ¬ w2.heap.size = w.heap.size + 1:=by omega
      have hn8 : k ≤ 1073741824:=by omega
      have hi0:=HI0.out;have hz0:=HZ0.out;have hz1:=HZ1.out;have hz2:=HZ2.out;have hto4 : p.To.toNat < (frSt f k).length:=by rw [frSt_len,HFW.out.2.2.1]; omega
      have HR4:=hide (((HR3a.out.store (by rw [HPK.out]; exact hto4)).keep ((Below.refl _ _).alloc (Nat.le_refl _) (.cells (szCells (frSize f k)).toArray 53))));rw [HPK.out] at HR4;have HZ4:=hide HR4.out.size;go_wp2_with (at_builtin; go_loud (refine wpList_app1H (((w2.setCell ⟨w.heap.size + 1,p.To.toNat * 2,none⟩ (.int .i64 (frSize f k).W)).setCell ⟨w.heap.size + 1,p.To.toNat * 2 + 1,none⟩ (.int .i64 (frSize f k).H)).alloc (.cells (szCells (frSize f k)).toArray 53)) (w2.heap.size + 1) (by simp [World.setCell]) rfl _ _ 48 rfl (w.heap.size + 2) 53 i0 _ 2 16 Tryz.underlying48 hi0 hz0 hz1 hz2 rfl (by omega) A' k d' _ (szCells (frSize f k)) rfl HR4.out.own rfl rfl (sz_one _) hn8 (by omega) HZ4.out ?_; intro A9 c9 w9 hown9 hg9))
      go_roundw
      case rel=>exact ⟨k + 1,A9,c9,by omega,by go_num,rfl,hide ((frErrTo_succ HE.out).trans (by rw [HFW.out.2.2.1,HPK.out]; exact HPE.out)),HR4.out.app hg9 hown9⟩
      case measure=>simp [intOf]; omega
     ·have hfe : frErr ⟨W,H,S,O,ps⟩ = passErr S p (frSt f k):=by
       rw [← HF.out];have:=frErr_pass HBf.out (by rw [HFW.out.2.2.2.2]; have:=HN.out; omega) (k:=k) (by rw [HFW.out.2.2.2.2]; have:=HN.out; omega) HE.out;rw [HFW.out.2.2.1,HPK.out] at this;exact this hpe
      have hfs : frSizes ⟨W,H,S,O,ps⟩ = []:=frSizes_no (by rw [hfe]; exact hpe);have HFE:=hide hfe;have HFS:=hide hfs;clear hfe hfs;generalize passErr S p (frSt f k) = z at *;have hz : (z != 0) = true:=by simpa using hpe
      have HB9:=hide HR2.out.below;clear hpe;go_wp2_with fail;refine bodyPost_ret (v:=.tuple #[.slice none 0 0,.int .i64 z]) (by simp [results,Tryz.results16,go_sem]) rfl ?_;rw [HFE.out,HFS.out];exact retSzs_none HB9.out
    ·obtain rfl : k = n:=by omega
     have hend : frErr ⟨W,H,S,O,ps⟩ = if (szAt (frSt f k) O).W = 0 then 5 else 0:=by
      rw [← HF.out];have:=frErr_end HBf.out (by rw [HFW.out.2.2.2.2]; have:=HN.out; omega) (by rw [HFW.out.2.2.2.2,HN.out]; exact HE.out);rw [HFW.out.2.2.2.2,HN.out,HFW.out.2.2.2.1] at this;exact this
     have hslot : slotIn S O = true:=inR_iff.2 ⟨b7,b8⟩;obtain ⟨b',o',hsa,hb',i1,i2⟩:=sizes_at (N:=S.toNat) HR.out.ins.cells (by rw [frSt_len,HFW.out.2.2.1]) (by omega) hslot;injection hsa with hsa;injection hsa with e1 e2;subst e1 e2;rw [Nat.zero_add] at i1 i2;have hO3 : O < (S.toNat : Int):=by omega
     have HHE:=hide hend;clear hend hslot;by_cases hz : (szAt (frSt f k) O).W = 0
     ·rw [hz] at i1
      have hfe : frErr ⟨W,H,S,O,ps⟩ = 5:=by rw [HHE.out,if_pos hz]
      have hfs : frSizes ⟨W,H,S,O,ps⟩ = []:=frSizes_no (by rw [hfe]; omega);have HFE:=hide hfe;have HFS:=hide hfs;clear hfe hfs hz i2;go_wp2_with fail;refine bodyPost_ret (v:=.tuple #[.slice none 0 0,.int .i64 5]) (by simp [results,Tryz.results16,go_sem]) rfl ?_;rw [HFE.out,HFS.out];exact retSzs_none HR.out.below
     ·have hfe : frErr ⟨W,H,S,O,ps⟩ = 0:=by rw [HHE.out,if_neg hz]
      have hfs : frSizes ⟨W,H,S,O,ps⟩ = frAll f k:=by
       unfold frSizes;rw [if_pos hfe,← HF.out,HFW.out.2.2.2.2,HN.out]
      have HFE:=hide hfe;have HFS:=hide hfs;generalize (szAt (frSt f k) O).W = sw at *;have hsw : (sw == 0) = false:=by simpa using hz
      clear hfe hfs hz i2;go_wp2_with fail;refine bodyPost_ret (v:=.tuple #[.slice A' k d',.int .i64 0]) (by simp [results,Tryz.results16,go_sem]) rfl ?_;rw [HFE.out,HFS.out];exact ⟨A',k,d',rfl,by simp [frAll],HR.out.own.cells,HR.out.below⟩
  ·have hfe : frErr ⟨W,H,S,O,ps⟩ = 2:=frErr_many hBd (by simp only; rw [HN.out]; exact hlen)
   have hfs : frSizes ⟨W,H,S,O,ps⟩ = []:=frSizes_no (by rw [hfe]; omega);rw [hfe,hfs];obtain ⟨⟨b1,b2⟩,⟨b3,b4⟩,⟨b5,b6⟩,⟨b7,b8⟩⟩:=hBd;simp only at b1 b2 b3 b4 b5 b6 b7 b8;have r1 : inR W 1 16 = true:=inR_iff.2 ⟨b1,b2⟩;have r2 : inR H 1 16 = true:=inR_iff.2 ⟨b3,b4⟩;have r3 : inR S 1 8 = true:=inR_iff.2 ⟨b5,b6⟩;have r4 : inR O 0 (S - 1) = true:=inR_iff.2 ⟨b7,b8⟩;have r5 : inR (n : Int) 1 12 = false:=inR_not.2 (by omega);have HRR:=hide (HW.out 2);clear hfe hfs;go_enter Tryz.func16,Tryz.ntmps16
   go_wp2_with (go_at_call 32; refine (within_any _ _ _ _).mono ?_; rintro e w1 ⟨rfl,rfl⟩)
   refine bodyPost_ret (v:=.tuple #[.slice none 0 0,.int .i64 2]) (by simp [results,Tryz.results16,go_sem]) rfl ?_;exact HRR.out
 ·have hfe : frErr ⟨W,H,S,O,ps⟩ = 3:=frErr_range hBd
  have hfs : frSizes ⟨W,H,S,O,ps⟩ = []:=frSizes_no (by rw [hfe]; omega);rw [hfe,hfs];have HRR:=hide (HW.out 3)
  have hor : inR W 1 16 = false ∨ (inR W 1 16 = true ∧ inR H 1 16 = false) ∨ (inR W 1 16 = true ∧ inR H 1 16 = true ∧ inR S 1 8 = false) ∨ (inR W 1 16 = true ∧ inR H 1 16 = true ∧ inR S 1 8 = true ∧ (1 ≤ S ∧ S ≤ 8) ∧ inR O 0 (S - 1) = false):=by
   cases h1 : inR W 1 16 with
   | false=>exact .inl rfl
   | true =>
     cases h2 : inR H 1 16 with
     | false=>exact .inr (.inl ⟨rfl,rfl⟩)
     | true =>
       cases h3 : inR S 1 8 with
       | false=>exact .inr (.inr (.inl ⟨rfl,rfl,rfl⟩))
       | true =>
         cases h4 : inR O 0 (S - 1) with
         | false=>exact .inr (.inr (.inr ⟨rfl,rfl,rfl,inR_iff.1 h3,rfl⟩))
         | true=>exact absurd ⟨inR_iff.1 h1,inR_iff.1 h2,inR_iff.1 h3,inR_iff.1 h4⟩ hBd
  clear hfe hfs hBd;rcases hor with r1 | ⟨r1,r2⟩ | ⟨r1,r2,r3⟩ | ⟨r1,r2,r3,⟨b5,b6⟩,r4⟩
  all_goals
   go_enter Tryz.func16,Tryz.ntmps16
   go_wp2_with (go_at_call 32; refine (within_any _ _ _ _).mono ?_; rintro e w1 ⟨rfl,rfl⟩)
   refine bodyPost_ret (v:=.tuple #[.slice none 0 0,.int .i64 3]) (by simp [results,Tryz.results16,go_sem]) rfl ?_;exact HRR.out
end Go.Proofs.YtibpmogmeoappabGreat
namespace Go.Proofs.YtibpmogmeoappabGreat
open Go.RowKit
theorem writer_any (W H S O : Int) (PA : Option Addr) (n c : Nat) (ps : List Pas) (k : Nat) (s : Int) (w : World) (hn : ps.length = n) (hP : Passes w PA ps) (hl : n ≤ 9223372036854775807) (hk : k ≤ n) :
 Calls Tryz.prog 40 #[.agg #[.int .i64 W,.int .i64 H,.int .i64 S,.int .i64 O,.slice PA n c],.int .i64 k,.int .i64 s] w (RetE w (writerTo ⟨W,H,S,O,ps⟩ k s)):=by
 obtain ⟨f,hf⟩ : ∃ f : Frm,f = ⟨W,H,S,O,ps⟩:=⟨_,rfl⟩;rw [← hf];have HFP : Hid (f.P = ps):=hide (by rw [hf]);have HN:=hide hn;have HB:=hide ((Below.refl w.heap.size w).alloc (Nat.le_refl _) (.cells #[.int .i64 W,.int .i64 H,.int .i64 S,.int .i64 O,.slice PA n c] 24));have HP:=hide ((Keeps.passes hP).move HB.out);have HBX:=hide (show FrmBox (w.alloc (.cells #[.int .i64 W,.int .i64 H,.int .i64 S,.int .i64 O,.slice PA n c] 24)) w.heap.size W H S O PA n c from Blk.new w 24 (frmCells W H S O PA n c));clear hn hP hf;go_enter Tryz.func40,Tryz.ntmps40
 go_wp2_with fail;go_loop [7] (fun i=>∃ j : Nat,j ≤ k ∧ i = .int .i64 ((j : Int) - 1) ∧ Hid (writerTo f k s = writerTo f j s)) (fun i=>(intOf i + 1).toNat)
 case atStart=>exact ⟨k,Nat.le_refl _,rfl,hide rfl⟩
 case round =>
  obtain ⟨j,hj,rfl,HE⟩:=hrel;obtain ⟨x,q0,q1,q2,q3,q4⟩:=FrmBox.cells HBX.out
  cases j with
  | zero =>
    go_wp2_with fail;go_ret;exact ⟨ret_int (HE.out.trans rfl).symm,HB.out⟩
  | succ j =>
    have hk1 : (j : Int) < (n : Int):=by omega
    obtain ⟨b,o,LA,m,d,p,rfl,hb,hp,c0,c1,c2,c3,c4,c5,hm,hL,hml⟩:=HP.out.now.at_ j (by have:=HN.out; omega);have HPK : Hid (f.pas j = p):=hide (by unfold Frm.pas; rw [HFP.out]; exact hp);have e1 : ((j + 1 : Nat) : Int) - 1 = (j : Int):=by omega
    rw [e1];have hj0 : (0 : Int) ≤ (j : Int):=by omega
    clear hp hL hm hml e1;by_cases hs : p.To = s
    ·have hs1 : (p.To == s) = true:=by simpa using hs
     have HS : Hid (writerTo f (j + 1) s = (j : Int)):=hide (by simp only [writerTo]; rw [HPK.out,if_pos hs]);clear hs;go_wp2_with fail;go_ret;exact ⟨ret_int (HE.out.trans HS.out).symm,HB.out⟩
    ·have hs1 : (p.To == s) = false:=by simpa using hs
     have HS : Hid (writerTo f (j + 1) s = writerTo f j s):=hide (by simp only [writerTo]; rw [HPK.out,if_neg hs]);clear hs;go_wp2_with fail;go_round
     case rel=>exact ⟨j,by omega,by go_num,hide (HE.out.trans HS.out)⟩
     case measure=>simp [intOf]
theorem lastOf_ref (W H S O : Int) (PA : Option Addr) (n c : Nat) (ps : List Pas) (w : World) (hn : ps.length = n) (hP : Passes w PA ps) (hl : n ≤ 9223372036854775807) :
 Calls Tryz.prog 18 #[.agg #[.int .i64 W,.int .i64 H,.int .i64 S,.int .i64 O,.slice PA n c]] w (RetE w (frLast ⟨W,H,S,O,ps⟩)):=by
 have HB:=hide ((Below.refl w.heap.size w).alloc (Nat.le_refl _) (.cells #[.int .i64 W,.int .i64 H,.int .i64 S,.int .i64 O,.slice PA n c] 24));have HP:=hide ((Keeps.passes hP).move HB.out);have HN:=hide hn;clear hn hP;go_enter Tryz.func18,Tryz.ntmps18
 go_wp2_with fail;refine (writer_any W H S O PA n c ps n O _ HN.out HP.out.now hl (Nat.le_refl _)).mono ?_;rintro e w1 ⟨rfl,hE⟩;go_wp2_with fail;go_ret;exact ⟨ret_int (by unfold frLast; simp only; rw [HN.out]),HB.out.trans (hE.mono HB.out.size)⟩
end Go.Proofs.YtibpmogmeoappabGreat
namespace Go.Proofs.YtibpmogmeoappabGreat
open Go.RowKit
def shapeV (op : Int) : Value:=.agg #[.bool (hasA op),.bool (hasB op),.bool (hasK op),.bool (hasL op)]
def RetOf (op : Int) (w : World) (e : Ending) (w' : World) : Prop :=
 e = .returned (.tuple #[.agg #[.bool (inR op 1 13 && hasA op),.bool (inR op 1 13 && hasB op),.bool (inR op 1 13 && hasK op),.bool (inR op 1 13 && hasL op)],.bool (inR op 1 13)]) ∧ Below w.heap.size w w'
theorem of_any (op : Int) (w : World) : Calls Tryz.prog 45 #[.int .i64 op] w (RetOf op w):=by
 cases h : inR op 1 13 with
 | true =>
   have hc : (op = 1 ∨ op = 2) ∨ (op = 3 ∨ op = 10 ∨ op = 11 ∨ op = 12) ∨ (op = 8 ∨ op = 9) ∨ (op = 4 ∨ op = 5 ∨ op = 6 ∨ op = 7) ∨ (op = 13):=by have:=inR_iff.1 h; omega
   clear h;rcases hc with h | h | h | h | h
   ·rcases h with rfl | rfl
    all_goals
     go_enter Tryz.func45,Tryz.ntmps45
     go_wp2_with fail;refine bodyPost_ret (v:=.tuple #[.agg #[.bool false,.bool false,.bool true,.bool false],.bool true]) (by simp [results,Tryz.results45,go_sem]) rfl ?_;exact ⟨rfl,(Below.refl _ _).alloc (Nat.le_refl _) _⟩
   ·rcases h with rfl | rfl | rfl | rfl
    all_goals
     go_enter Tryz.func45,Tryz.ntmps45
     go_wp2_with fail;refine bodyPost_ret (v:=.tuple #[.agg #[.bool true,.bool false,.bool false,.bool false],.bool true]) (by simp [results,Tryz.results45,go_sem]) rfl ?_;exact ⟨rfl,(Below.refl _ _).alloc (Nat.le_refl _) _⟩
   ·rcases h with rfl | rfl
    all_goals
     go_enter Tryz.func45,Tryz.ntmps45
     go_wp2_with fail;refine bodyPost_ret (v:=.tuple #[.agg #[.bool true,.bool false,.bool true,.bool false],.bool true]) (by simp [results,Tryz.results45,go_sem]) rfl ?_;exact ⟨rfl,(Below.refl _ _).alloc (Nat.le_refl _) _⟩
   ·rcases h with rfl | rfl | rfl | rfl
    all_goals
     go_enter Tryz.func45,Tryz.ntmps45
     go_wp2_with fail;refine bodyPost_ret (v:=.tuple #[.agg #[.bool true,.bool true,.bool false,.bool false],.bool true]) (by simp [results,Tryz.results45,go_sem]) rfl ?_;exact ⟨rfl,(Below.refl _ _).alloc (Nat.le_refl _) _⟩
   ·rcases h with rfl
    all_goals
     go_enter Tryz.func45,Tryz.ntmps45
     go_wp2_with fail;refine bodyPost_ret (v:=.tuple #[.agg #[.bool true,.bool false,.bool true,.bool true],.bool true]) (by simp [results,Tryz.results45,go_sem]) rfl ?_;exact ⟨rfl,(Below.refl _ _).alloc (Nat.le_refl _) _⟩
 | false =>
   have hb:=inR_not.1 h;have e1 : (op == 1) = false:=by simp; omega
   have e2 : (op == 2) = false:=by simp; omega
   have e3 : (op == 3) = false:=by simp; omega
   have e4 : (op == 4) = false:=by simp; omega
   have e5 : (op == 5) = false:=by simp; omega
   have e6 : (op == 6) = false:=by simp; omega
   have e7 : (op == 7) = false:=by simp; omega
   have e8 : (op == 8) = false:=by simp; omega
   have e9 : (op == 9) = false:=by simp; omega
   have e10 : (op == 10) = false:=by simp; omega
   have e11 : (op == 11) = false:=by simp; omega
   have e12 : (op == 12) = false:=by simp; omega
   have e13 : (op == 13) = false:=by simp; omega
   have HH:=hide h;clear h hb;go_enter Tryz.func45,Tryz.ntmps45
   go_wp2_with fail;refine bodyPost_ret (v:=.tuple #[.agg #[.bool false,.bool false,.bool false,.bool false],.bool false]) (by simp [results,Tryz.results45,go_sem]) rfl ?_;refine ⟨?_,(Below.refl _ _).alloc (Nat.le_refl _) _⟩;rw [HH.out];rfl
def lowK (op : Int) : Int:=if op = 9 then -16 else if op = 13 then 1 else 0
def highK (op : Int) : Int:=if op = 9 then 16 else if op = 13 then 16 else 65535
def RetB2 (a b : Int) (w : World) (e : Ending) (w' : World) : Prop:=e = .returned (.tuple #[.int .i64 a,.int .i64 b]) ∧ w = w'
theorem bounds_any (op : Int) (w : World) : Calls Tryz.prog 103 #[.int .i64 op] w (RetB2 (lowK op) (highK op) w):=by
 by_cases h9 : op = 9
 ·subst h9
  go_enter Tryz.func103,Tryz.ntmps103
  go_wp2_with fail;go_ret2;exact ⟨rfl,rfl⟩
 ·by_cases h13 : op = 13
  ·subst h13
   go_enter Tryz.func103,Tryz.ntmps103
   go_wp2_with fail;go_ret2;exact ⟨rfl,rfl⟩
  ·have e1 : (op == 9) = false:=by simpa using h9
   have e2 : (op == 13) = false:=by simpa using h13
   have H1 : Hid (lowK op = 0):=hide (by unfold lowK; rw [if_neg h9,if_neg h13]);have H2 : Hid (highK op = 65535):=hide (by unfold highK; rw [if_neg h9,if_neg h13]);clear h9 h13;go_enter Tryz.func103,Tryz.ntmps103
   go_wp2_with fail;go_ret2;exact ⟨by rw [H1.out,H2.out]; rfl,rfl⟩
theorem kFine_low {op k : Int} (h0 : inR op 1 13 = true) (hk : hasK op = true) (h : k < lowK op) : kFineB op k = false:=by
 rcases op_cases h0 with rfl | rfl | rfl | rfl | rfl | rfl | rfl | rfl | rfl | rfl | rfl | rfl | rfl <;> first | (exact absurd hk (by decide)) | (simp [lowK] at h; simp [kFineB,inR]; omega)
theorem kFine_high {op k : Int} (h0 : inR op 1 13 = true) (hk : hasK op = true) (h : highK op < k) : kFineB op k = false:=by
 rcases op_cases h0 with rfl | rfl | rfl | rfl | rfl | rfl | rfl | rfl | rfl | rfl | rfl | rfl | rfl <;> first | (exact absurd hk (by decide)) | (simp [highK] at h; simp [kFineB,inR]; omega)
theorem kFine_in {op k : Int} (h0 : inR op 1 13 = true) (hk : hasK op = true) (h : lowK op ≤ k) (h' : k ≤ highK op) : kFineB op k = true:=by
 rcases op_cases h0 with rfl | rfl | rfl | rfl | rfl | rfl | rfl | rfl | rfl | rfl | rfl | rfl | rfl <;> first | (exact absurd hk (by decide)) | (simp [lowK,highK] at h h'; simp [kFineB,inR]; omega)
theorem kFine_none {op k : Int} (h0 : inR op 1 13 = true) (hk : hasK op = false) : kFineB op k = true:=by
 rcases op_cases h0 with rfl | rfl | rfl | rfl | rfl | rfl | rfl | rfl | rfl | rfl | rfl | rfl | rfl <;> first | (exact absurd hk (by decide)) | rfl
def walkCells (W H S O : Int) (PA : Option Addr) (n c : Nat) (SA : Option Addr) (N cN : Nat) (MA : Option Addr) (M cM : Nat) : List Value :=
 [.int .i64 W,.int .i64 H,.int .i64 S,.int .i64 O,.slice PA n c,.slice SA N cN,.slice MA M cM]
def WalkBox (w : World) (g : Nat) (W H S O : Int) (PA : Option Addr) (n c : Nat) (SA : Option Addr) (N cN : Nat) (MA : Option Addr) (M cM : Nat) : Prop:=Blk w g 128 (walkCells W H S O PA n c SA N cN MA M cM)
theorem WalkBox.cells {w : World} {g : Nat} {W H S O : Int} {PA : Option Addr} {n c : Nat} {SA : Option Addr} {N cN : Nat} {MA : Option Addr} {M cM : Nat} (h : WalkBox w g W H S O PA n c SA N cN MA M cM) :
 g < w.heap.size ∧ w.cell? ⟨g,0,none⟩ = some (.int .i64 W) ∧ w.cell? ⟨g,1,none⟩ = some (.int .i64 H) ∧ w.cell? ⟨g,2,none⟩ = some (.int .i64 S) ∧ w.cell? ⟨g,3,none⟩ = some (.int .i64 O) ∧ w.cell? ⟨g,4,none⟩ = some (.slice PA n c) ∧ w.cell? ⟨g,5,none⟩ = some (.slice SA N cN) ∧ w.cell? ⟨g,6,none⟩ = some (.slice MA M cM) :=
 ⟨h.lt,by rw [Blk.cell h]; rfl,by rw [Blk.cell h]; rfl,by rw [Blk.cell h]; rfl,by rw [Blk.cell h]; rfl,by rw [Blk.cell h]; rfl,by rw [Blk.cell h]; rfl,by rw [Blk.cell h]; rfl⟩
theorem fslot_no (x : Int) (gv : Nat) (w : World) : Calls Tryz.prog 102 #[.int .i64 x,.bool false,.pointer (some ⟨gv,0,none⟩)] w fun e w'=>e = .returned (.bool true) ∧ w = w':=by
 go_enter Tryz.func102,Tryz.ntmps102
 go_wp2_with fail;go_ret;exact ⟨rfl,rfl⟩
theorem fslot_yes (x S : Int) (gv g : Nat) (w : World) (hv : w.cell? ⟨gv,0,none⟩ = some (.pointer (some ⟨g,0,none⟩))) (hs : w.cell? ⟨g,2,none⟩ = some (.int .i64 S)) :
 Calls Tryz.prog 102 #[.int .i64 x,.bool true,.pointer (some ⟨gv,0,none⟩)] w fun e w'=>e = .returned (.bool (slotIn S x)) ∧ w = w':=by
 by_cases h0 : 0 ≤ x
 ·by_cases h1 : x < S
  ·have e : slotIn S x = true:=inR_iff.2 (by omega)
   rw [e];clear e;go_enter Tryz.func102,Tryz.ntmps102
   go_wp2_with fail;go_ret;exact ⟨rfl,rfl⟩
  ·have e : slotIn S x = false:=inR_not.2 (by omega)
   rw [e];clear e;go_enter Tryz.func102,Tryz.ntmps102
   go_wp2_with fail;go_ret;exact ⟨rfl,rfl⟩
 ·have e : slotIn S x = false:=inR_not.2 (by omega)
  rw [e];clear e;go_enter Tryz.func102,Tryz.ntmps102
  go_wp2_with fail;go_ret;exact ⟨rfl,rfl⟩
theorem fnone_has (x : Int) (w : World) : Calls Tryz.prog 104 #[.int .i64 x,.bool true] w fun e w'=>e = .returned (.bool true) ∧ w = w':=by
 go_enter Tryz.func104,Tryz.ntmps104
 go_wp2_with fail;go_ret;exact ⟨rfl,rfl⟩
theorem fnone_not (x : Int) (w : World) : Calls Tryz.prog 104 #[.int .i64 x,.bool false] w fun e w'=>e = .returned (.bool (x == 0)) ∧ w = w':=by
 go_enter Tryz.func104,Tryz.ntmps104
 go_wp2_with fail
 all_goals
  go_ret;exact ⟨rfl,rfl⟩
end Go.Proofs.YtibpmogmeoappabGreat
namespace Go.Proofs.YtibpmogmeoappabGreat
open Go.RowKit
def FieldMem (w : World) (g : Nat) (wc : List Value) (p : Pas) (LA : Option Addr) (m d : Nat) (W' : World) : Prop :=
 Blk W' g 128 wc ∧ Blk W' w.heap.size 126 [.pointer (some ⟨g,0,none⟩)] ∧ PasBox W' (w.heap.size + 1) p LA m d ∧ Lamps W' LA p.L ∧ Below w.heap.size w W'
theorem FieldMem.keep {w : World} {g : Nat} {wc : List Value} {p : Pas} {LA : Option Addr} {m d : Nat} {w1 w2 : World} (h : FieldMem w g wc p LA m d w1) (hb : Below w1.heap.size w1 w2) : FieldMem w g wc p LA m d w2 :=
 ⟨h.1.keep hb,h.2.1.keep hb,Blk.keep h.2.2.1 hb,h.2.2.2.1.keep hb,h.2.2.2.2.trans (hb.mono h.2.2.2.2.size)⟩
theorem fieldMem_start {w : World} {g : Nat} {wc : List Value} {p : Pas} {LA : Option Addr} (hg : Blk w g 128 wc) (hL : Lamps w LA p.L) (m d : Nat) :
 FieldMem w g wc p LA m d ((w.alloc (.cells #[.pointer (some ⟨g,0,none⟩)] 126)).alloc (.cells (passCells p LA m d).toArray 72)):=by
 have hb : Below w.heap.size w ((w.alloc (.cells #[.pointer (some ⟨g,0,none⟩)] 126)).alloc (.cells (passCells p LA m d).toArray 72)):=((Below.refl _ _).alloc (Nat.le_refl _) _).alloc (by simp) _;have b1:=Blk.new (w.alloc (.cells #[.pointer (some ⟨g,0,none⟩)] 126)) 72 (passCells p LA m d);simp only [World.size_alloc] at b1;exact ⟨hg.keep hb,(Blk.new w 126 [.pointer (some ⟨g,0,none⟩)]).alloc _,b1,hL.keep hb,hb⟩
end Go.Proofs.YtibpmogmeoappabGreat
