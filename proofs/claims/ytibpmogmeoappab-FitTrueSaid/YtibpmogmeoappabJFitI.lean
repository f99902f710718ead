/- Walk: fit.Compile. -/
import Derived.Test.YtibpmogmeoappabJFitF
import Derived.Test.YtibpmogmeoappabJQPure
set_option maxRecDepth 100000
set_option maxHeartbeats 16000000
namespace Go.Proofs.Ytibpmogmeoappab
open Go.RowKit
def RetPlnE (w : World) (p : Pln) (z : Int) (e : Ending) (w' : World) : Prop :=
 ∃ (OA : Option Addr) (on oc : Nat) (QA : Option Addr) (qn qc : Nat),e = .returned (.tuple #[.agg #[.slice OA on oc,.slice QA qn qc],.int .i64 z]) ∧ p.Order.length = on ∧ p.Places.length = qn ∧ Ints w' OA p.Order ∧ Ints w' QA p.Places ∧ on ≤ oc ∧ qn ≤ qc ∧ Mine w' w.heap.size OA ∧ NewFrom w.heap.size QA ∧ Below w.heap.size w w'
theorem keptAt_cell {f : Frm} {w : World} {KA : Option Addr} (h : Cells w KA ((keptL f).map Value.bool)) {k : Nat} (hk : k < f.P.length) : ∃ b o,KA = some ⟨b,o,none⟩ ∧ b < w.heap.size ∧ w.cell? ⟨b,o + k,none⟩ = some (.bool (keptAt f k)):=by
 have hl:=keptL_len f;obtain ⟨b,o,h1,h2,h3⟩:=h k (by rw [List.length_map]; omega);refine ⟨b,o,h1,h2,?_⟩;rw [h3,List.getD_eq_getElem?_getD,List.getElem?_map,List.getElem?_eq_getElem (by omega)];unfold keptAt;rw [List.getD_eq_getElem?_getD,List.getElem?_eq_getElem (by omega)];rfl
theorem cells_few {w : World} {A : Option Addr} {cs ds : List Value} {g : Nat} {t : TypeId} (h : Cells w A cs) (hb : Blk w g t ds) (hl : ds.length < cs.length) : ∀ a,A = some a → a.block ≠ g:=by
 intro a ha e;obtain ⟨b,o,e1,_,hc⟩:=h ds.length hl;rw [ha] at e1;injection e1 with e1;subst e1;simp only at e;subst e;rw [hb.cell,List.getElem?_eq_none (by omega)] at hc;cases hc
theorem spansTo_at {f : Frm} {p : Pln} {n k : Nat} (h : k < n) (ho : p.Order = compO f) : spAt (spansTo f p n) k = cspan f k:=by
 unfold spAt spansTo cspan;rw [List.getD_eq_getElem?_getD,List.getElem?_map,List.getElem?_range h];exact spanOf_congr (p:=p) (q:=ordP f) ho k
theorem Cells.keepI {w w' : World} {A : Option Addr} {l : List Int} (h : Cells w A (l.map (Value.int .i64))) (hb : Below w.heap.size w w') : Ints w' A l:=Cells.keep h hb
theorem grown_row {w0 a b : World} {g base n c size : Nat} {e : TypeId} {A : Option Addr} {cs : List Value} {o : Obj} (h : w0.grownBy a (some g)) (ho : Own a base e size A n c cs) (hb : w0.heap.size ≤ base) (hg : (a.alloc o).grownBy b (Value.slice A n c).ownBlock) : w0.grownBy b (some g):=by
 have hal:=grown_trB h (grown_ofB ((Below.refl a.heap.size a).alloc (Nat.le_refl _) o) (some g));refine ⟨hg.os.trans hal.os,hg.tape.trans hal.tape,hg.output.trans hal.output,Nat.le_trans hal.size hg.size,fun q hq hne=>(hg.block q (Nat.lt_of_lt_of_le hq hal.size) (fun e=>?_)).trans (hal.block q hq hne)⟩;have:=(ho.lt e.symm).1;omega
theorem Own.butQ {w w' : World} {base x : Nat} {e : TypeId} {size : Nat} {A : Option Addr} {n c : Nat} {cs : List Value} (h : Own w base e size A n c cs) (hg : w.grownBy w' (some x)) (hx : x < base) : Own w' base e size A n c cs:=by
 refine World.ownsRow.kept h (row:=some x) hg ?_
 cases hy : (Value.slice A n c).ownBlock with
 | none=>exact .inl rfl
 | some k=>exact .inr (fun e=>by have:=(World.ownsRow.lt h k hy).1; injection e with e; omega)
theorem compTo_le (f : Frm) (k : Nat) : (compTo f k).length ≤ k:=by
 induction k with
 | zero=>simp [compTo]
 | succ k ih =>
   rw [compTo_succ,List.length_append];split <;> simp <;> omega
theorem compile_ok (W H S O : Int) (PA : Option Addr) (n c : Nat) (ps : List Pas) (w : World) (hn : ps.length = n) (hP : Passes w PA ps) (hf0 : FrmOk ⟨W,H,S,O,ps⟩) :
 Calls Try.prog 50 #[.agg #[.int .i64 W,.int .i64 H,.int .i64 S,.int .i64 O,.slice PA n c]] w (RetPlnE w (comp ⟨W,H,S,O,ps⟩) 0):=by
 obtain ⟨i0,hi0,hz0,hz1,hz2⟩:=info_parts Try.info3;have hb:=((Below.refl w.heap.size w).alloc (Nat.le_refl _) (.cells #[.int .i64 W,.int .i64 H,.int .i64 S,.int .i64 O,.slice PA n c] 24)).alloc (by simp) (.cells #[.slice none 0 0,.slice none 0 0] 27);have hbx:=(show FrmBox (w.alloc (.cells #[.int .i64 W,.int .i64 H,.int .i64 S,.int .i64 O,.slice PA n c] 24)) w.heap.size W H S O PA n c from Blk.new w 24 (frmCells W H S O PA n c)).alloc (.cells #[.slice none 0 0,.slice none 0 0] 27);have hrx : Blk ((w.alloc (.cells #[.int .i64 W,.int .i64 H,.int .i64 S,.int .i64 O,.slice PA n c] 24)).alloc (.cells #[.slice none 0 0,.slice none 0 0] 27)) (w.heap.size + 1) 27 [.slice none 0 0,.slice none 0 0]:=Blk.newE (by simp);have hkp:=fun (W0 : World) (h1 : Passes W0 PA ps)=>kept_any W H S O PA n c ps W0 hn h1;have hsz:=fun (W0 : World) (h1 : Passes W0 PA ps)=>sizes_any W H S O PA n c ps W0 hn h1;have hsp:=fun (OA : Option Addr) (on oc : Nat) (QA : Option Addr) (qn qc : Nat) (p : Pln) (W0 : World) (h1 : Passes W0 PA ps) (h2 : Ints W0 OA p.Order) (h3 : p.Order.length = on) (h4 : on ≤ 9223372036854775807) (h5 : Ints W0 QA p.Places) (h6 : p.Places.length = qn) (h7 : qn ≤ 9223372036854775807)=>planSpans_any W H S O PA n c ps OA on oc QA qn qc p W0 hn h1 h2 h3 h4 h5 h6 h7;have hpp:=hP.keep hb;obtain ⟨f,hf⟩ : ∃ f : Frm,f = ⟨W,H,S,O,ps⟩:=⟨_,rfl⟩;have hfn : f.P.length = n:=by rw [hf]; exact hn
 rw [← hf] at hkp hsz hsp hf0 ⊢;have he:=frErr_zero.2 hf0;have hka : keptAns f = keptL f:=if_pos he;rw [hka,he] at hkp;rw [he] at hsz;have h12:=hf0.many;have hn12 : 1 ≤ n ∧ n ≤ 12:=by omega
 obtain ⟨w1,hw1⟩ : ∃ w1,(w.alloc (.cells #[.int .i64 W,.int .i64 H,.int .i64 S,.int .i64 O,.slice PA n c] 24)).alloc (.cells #[.slice none 0 0,.slice none 0 0] 27) = w1:=⟨_,rfl⟩;rw [hw1] at hb hbx hrx hpp;have HB:=hide hb;have HBX:=hide (Keeps.blk hbx);have HRX:=hide (Keeps.blk hrx);have HP:=hide (Keeps.passes hpp);have HKP:=hide hkp;have HSZ:=hide hsz;have HSP:=hide hsp;have HFN:=hide hfn;have HFO:=hide hf0;have HKL:=hide (keptL_len f);have hrs:=hrx.lt;obtain ⟨x,q0,q1,q2,q3,q4⟩:=FrmBox.cells (show FrmBox _ _ W H S O PA n c from hbx);have hmk:=fun W0 : World=>run_make_ints (P:=Try.prog) 25 3 i0 Try.underlying25 hi0 hz0 hz1 hz2 (n : Int) n rfl (by omega) W0;clear hn hP hb hbx hrx hpp hkp hsz hsp hf0 hfn he hka h12 hf;go_enter Try.func50,Try.ntmps50
 go_wp2_with fail;refine ((unhide HKP) _ HP.out.now).mono ?_;rintro e w2 ⟨KA,kn,kc,rfl,hkn,hKC,hE2⟩;obtain rfl : n = kn:=by have h1:=HKL.out; have h2:=HFN.out; omega
 obtain ⟨qb,hqb⟩ : ∃ qb,w2.heap.size = qb:=⟨_,rfl⟩;have HE2:=hide hE2;have HKC:=hide hKC;have HQB:=hide hqb;clear hw1 x q0 q1 q2 q3 q4 hkn hKC hE2 HKP;go_wp2_with fail;have hpl3 : Blk ((w2.alloc (.cells (Array.replicate n (Value.int .i64 0)) 3)).alloc (.cells #[.slice none 0 0,.slice (some ⟨qb,0,none⟩) n n] 27)) (qb + 1) 27 [.slice none 0 0,.slice (some ⟨qb,0,none⟩) n n]:=Blk.newE (by simp [hqb])
 have hqs3 : Blk ((w2.alloc (.cells (Array.replicate n (Value.int .i64 0)) 3)).alloc (.cells #[.slice none 0 0,.slice (some ⟨qb,0,none⟩) n n] 27)) qb 3 ((stK f 0).map (.int .i64)):=by
  have e : (Array.replicate n (Value.int .i64 0)) = ((stK f 0).map (Value.int .i64)).toArray:=by rw [stK_zero,HFN.out]; simp
  rw [e];exact (Blk.newE hqb).alloc _
 have hbq3 : Below qb w2 ((w2.alloc (.cells (Array.replicate n (Value.int .i64 0)) 3)).alloc (.cells #[.slice none 0 0,.slice (some ⟨qb,0,none⟩) n n] 27)):=((Below.refl _ _).alloc (by omega) _).alloc (by simp; omega) _;have HPL3:=hide hpl3;have HQS3:=hide hqs3;have HBQ3:=hide hbq3;clear hpl3 hqs3 hbq3 hmk;go_loopw [7,8,35] (fun _ _ s35 wr=>∃ (k : Nat) (OA : Option Addr) (oc : Nat),k ≤ n ∧ s35 = .int .i64 (k : Int) ∧ Hid (Blk wr (qb + 1) 27 [.slice OA (compTo f k).length oc,.slice (some ⟨qb,0,none⟩) n n]) ∧ Hid (Own wr (qb + 2) 3 1 OA (compTo f k).length oc ((compTo f k).map (.int .i64))) ∧ Hid (Blk wr qb 3 ((stK f k).map (.int .i64))) ∧ Hid (Below qb w2 wr)) (fun _ _ s35 _=>n - (intOf s35).toNat)
 case atStart=>exact ⟨0,none,0,Nat.zero_le _,rfl,HPL3,hide (Own.nil _ _ _ _),HQS3,HBQ3⟩
 case round =>
  obtain ⟨k,OA,oc,hk,rfl,HPL,HOW,HQS,HBQ⟩:=hrel;obtain ⟨v,r0,r1⟩:=plan_box HPL.out;have f0:=HPL.out.frozen 0;by_cases hlt : k < n
  ·have hk0 : (0 : Int) ≤ (k : Int):=by omega
   have hk1 : (k : Int) < (n : Int):=by omega
   have hkf : k < f.P.length:=by rw [HFN.out]; exact hlt
   have HB2:=hide (show Below w2.heap.size w2 wr from by rw [HQB.out]; exact HBQ.out);obtain ⟨b,o,rfl,hb,ck'⟩:=keptAt_cell HKC.out hkf;have ck:=keepC HB2.out ck';have hlq:=HBQ.out.size;obtain ⟨kb,hkb⟩ : ∃ kb,keptAt f k = kb:=⟨_,rfl⟩;rw [hkb] at ck;have hcs:=compTo_succ f k;rw [hkb] at hcs;have HKB:=hide hkb;have HKF:=hide hkf;clear hkb hkf ck' hb
   have hlen : (compTo f k).length ≤ 12:=by
    have h1:=compTo_le f k;omega
   obtain ⟨ol,hol⟩ : ∃ ol,(compTo f k).length = ol:=⟨_,rfl⟩;rw [hol] at HPL HOW r0 hlen;have HOL:=hide hol;clear hol
   cases kb with
   | true =>
     have HCS:=hide (show compTo f (k + 1) = compTo f k ++ [(k : Int)] from by rw [hcs]; rfl);clear hcs;have hbs : qb + 2 ≤ wr.heap.size:=HPL.out.lt;go_wp2_with (at_builtin; go_loud (refine wpList_app1A wr wr.heap.size rfl rfl _ _ 25 rfl (qb + 2) 3 i0 _ 1 8 Try.underlying25 hi0 hz0 hz1 hz2 rfl (by omega) OA ol oc _ [.int .i64 (k : Int)] rfl HOW.out rfl rfl (one_int _) (by omega) (by omega) hbs ?_; intro A9 c9 w9 hown9 hg9 hat9; have hp9:=Blk.grown (HPL.out.alloc (.cells #[.int .i64 (k : Int)] 3)) (HOW.out.alloc _) hg9 (by omega); obtain ⟨v9,z0,z1⟩:=plan_box hp9; have g0:=hp9.frozen 0))
     have hq9:=Blk.grown (HQS.out.alloc (.cells #[.int .i64 (k : Int)] 3)) (HOW.out.alloc _) hg9 (by omega);have hcl : (compTo f (k + 1)).length = ol + 1:=by rw [HCS.out,List.length_append,HOL.out]; rfl
     go_roundw
     case rel =>
      refine ⟨k + 1,A9,c9,by omega,by go_num,?_,?_,?_,?_⟩
      ·rw [hcl]; exact hide (hp9.set_ 0 _)
      ·rw [hcl,HCS.out,List.map_append]; exact hide (hown9.far (p:=⟨qb + 1,0,none⟩) (by simp) _)
      ·rw [stK_keep HKB.out]; exact hide (hq9.far (p:=⟨qb + 1,0,none⟩) (by simp) _)
      ·exact hide ((Below.grownOwn (HBQ.out.alloc (by omega) _) (HOW.out.alloc _) hg9 (by simp only [World.size_alloc]; omega) (by omega)).setCell (p:=⟨qb + 1,0,none⟩) (by simp) _)
     case measure=>simp [intOf]; omega
   | false =>
     have HCS:=hide (show compTo f (k + 1) = compTo f k from by rw [hcs]; simp);clear hcs;have cq : wr.cell? ⟨qb,k,none⟩ = some (.int .i64 ((stK f k).getD k 0)):=by rw [HQS.out.cell,List.getElem?_map,stK_at HKF.out,List.getD_eq_getElem?_getD,stK_at HKF.out]; rfl
     have fq:=HQS.out.frozen k;generalize (stK f k).getD k 0 = u0 at cq;go_wp2_with fail;go_roundw
     case rel =>
      refine ⟨k + 1,OA,oc,by omega,by go_num,?_,?_,?_,?_⟩
      ·rw [HCS.out,HOL.out]; exact hide (HPL.out.far (p:=⟨qb,k,none⟩) (by simp) _)
      ·rw [HCS.out,HOL.out]; exact hide (HOW.out.far (p:=⟨qb,k,none⟩) (by simp only; omega) _)
      ·rw [stK_drop HKB.out HKF.out,List.map_set]; exact hide (HQS.out.set_ k (.int .i64 (-1)))
      ·exact hide (HBQ.out.setCell (p:=⟨qb,k,none⟩) (Nat.le_refl _) _)
     case measure=>simp [intOf]; omega
  ·obtain rfl : k = n:=by omega
   have hco : compTo f k = compO f:=by unfold compO; rw [HFN.out]
   have hst : stK f k = startP f:=by rw [← HFN.out]; exact stK_all
   rw [hco] at HPL HOW r0;rw [hst] at HQS;have HB2:=hide (show Below w2.heap.size w2 wr from by rw [HQB.out]; exact HBQ.out);have HBW:=hide (HE2.out.trans (HB2.out.mono HE2.out.size));obtain ⟨x,q0,q1,q2,q3,q4⟩:=FrmBox.cells (show FrmBox _ _ W H S O PA k c from HBX.out.later _ HBW.out);have hcl:=compO_len HFO.out
   have hoc : (compO f).length ≤ oc:=by
    rcases HOW.out.2 with ⟨e0,h0⟩ | ⟨g9,cap9,cur9,hv9,_,_,hc9,_⟩
    ·injection e0 with _ _ e3; omega
    ·injection hv9 with _ _ e3; omega
   obtain ⟨ol,hol⟩ : ∃ ol,(compO f).length = ol:=⟨_,rfl⟩;rw [hol] at HPL HOW r0 hcl hoc;have HOL:=hide hol;have hpe : planErr f ⟨compO f,startP f⟩ = 0:=by unfold planErr; rw [if_neg (by rw [frErr_zero.2 HFO.out]; simp),if_pos (start_in HFO.out)]
   have hsa : spansAns f ⟨compO f,startP f⟩ = spansTo f ⟨compO f,startP f⟩ k:=by unfold spansAns; rw [if_pos hpe,HFN.out]
   have hqi : Ints wr (some ⟨qb,0,none⟩) (startP f):=HQS.out.cells;have hqn : (startP f).length = k:=by simp [startP]; exact HFN.out
   have hs4:=(unhide HSP) OA ol oc (some ⟨qb,0,none⟩) k k ⟨compO f,startP f⟩ wr (HP.out.later _ HBW.out) HOW.out.cells HOL.out (by omega) hqi hqn (by omega);rw [hpe,hsa] at hs4;have HS4:=hide hs4;clear hco hst hol hpe hsa hqi hs4 HSP HKC;go_wp2_with fail;refine (unhide HS4).mono ?_;rintro e w5 ⟨SA,sn,sc,rfl,hsn,hSS,hE5⟩;obtain rfl : k = sn:=by rw [← hsn]; simp [spansTo]
   have HE5:=hide hE5;have hal5 : Below w5.heap.size w5 (w5.alloc (.cells #[.slice SA k sc] 32)):=(Below.refl _ _).alloc (Nat.le_refl _) _;have HBW5:=hide (HBW.out.trans ((hE5.trans (hal5.mono hE5.size)).mono HBW.out.size));have hE5a:=hE5.trans (hal5.mono hE5.size);have HSB:=hide (Keeps.blk (Blk.new w5 32 [.slice SA k sc]));have HSS:=hide (show Keeps (w5.alloc (.cells #[.slice SA k sc] 32)) (fun W9=>Spns W9 SA (spansTo f ⟨compO f,startP f⟩ k)) from ⟨Cells.keep hSS hal5,fun _ hb=>Cells.keep (Cells.keep hSS hal5) hb⟩);have HPL5:=hide (HPL.out.keep hE5a);have HOW5:=hide (HOW.out.keep hE5a);have HQS5:=hide (HQS.out.keep hE5a);obtain ⟨x',q0',q1',q2',q3',q4'⟩:=FrmBox.cells (show FrmBox _ _ W H S O PA k c from HBX.out.later _ HBW5.out);have HZZ:=hide ((unhide HSZ) _ (HP.out.later _ HBW5.out));have hPL3lt:=hide HPL.out.lt;clear hsn hSS hE5 hal5 hE5a x q0 q1 q2 q3 q4 HPL HOW HQS HSZ HS4 r0 r1 v f0;go_wp2_with fail;refine (unhide HZZ).mono ?_;rintro e w7 ⟨ZA,zn,zc,rfl,hzn,hZS,hE7⟩;obtain rfl : k = zn:=by rw [← hzn,sizes_len HFO.out]; exact HFN.out.symm
   have hal7 : Below w7.heap.size w7 (w7.alloc (.cells #[.slice ZA k zc] 43)):=(Below.refl _ _).alloc (Nat.le_refl _) _;have hE7a:=hE7.trans (hal7.mono hE7.size);have hZB:=Blk.new w7 43 [.slice ZA k zc];have hZS8 : Sizes (w7.alloc (.cells #[.slice ZA k zc] 43)) ZA (frSizes f):=Cells.keep hZS hal7;have hSB8:=HSB.out.later _ hE7a;have hSS8:=HSS.out.later _ hE7a;have hPL8:=HPL5.out.keep hE7a;have hOW8:=HOW5.out.keep hE7a;have hQS8:=HQS5.out.keep hE7a;have hbw8:=HBW5.out.trans (hE7a.mono HBW5.out.size);have hq58 : qb + 2 ≤ w5.heap.size:=by have:=HPL5.out.lt; have:=HBQ.out.size; have h9:=HE5.out.size; have:=HQB.out; have h3:=hPL3lt.out; omega
   have hs58:=hE7.size;obtain ⟨w8,hw8⟩ : ∃ w8,w7.alloc (.cells #[.slice ZA k zc] 43) = w8:=⟨_,rfl⟩;rw [hw8] at hZB hZS8 hSB8 hSS8 hPL8 hOW8 hQS8 hbw8;have hw8s : w8.heap.size = w7.heap.size + 1:=by rw [← hw8]; simp
   have hSn:=cells_few hSS8 hQS8 (by rw [List.length_map,hqn,flatMap_len spnCells 2 (fun _=>rfl)]; simp [spansTo]; omega);have hZn:=cells_few hZS8 hQS8 (by rw [List.length_map,hqn,flatMap_len szCells 2 (fun _=>rfl),sizes_len HFO.out,HFN.out]; omega)
   have hlater : ∀ W9 : World,w8.grownBy W9 (some qb) → Blk W9 w5.heap.size 32 [.slice SA k sc] ∧ Spns W9 SA (spansTo f ⟨compO f,startP f⟩ k) ∧ Blk W9 w7.heap.size 43 [.slice ZA k zc] ∧ Sizes W9 ZA (frSizes f) ∧ Blk W9 (qb + 1) 27 [.slice OA ol oc,.slice (some ⟨qb,0,none⟩) k k] ∧ Ints W9 OA (compO f):=fun W9 hg =>
    ⟨hSB8.but hg (by omega),Cells.but hSS8 hg (fun _=>hSn),hZB.but hg (by simp only [World.size_alloc] at hs58; omega),Cells.but hZS8 hg (fun _=>hZn),hPL8.but hg (by omega),Ints.but hOW8.cells hg (fun _ a ha=>by have:=hOW8.new a ha; omega)⟩
   have HLT:=hide hlater;have HBW8:=hide hbw8;have HQS8:=hide hQS8;have HOW8:=hide hOW8;have hmf : ∀ (fn : Fn) (first cap : Array Value) (w : World),(Instr.makeFunc fn first cap).run Try.prog w = .ok (.func fn first cap) w:=fun _ _ _ _=>rfl
   obtain ⟨v,r0,r1⟩:=plan_box hPL8;have hqz : qb + 2 ≤ w8.heap.size:=hPL8.lt;have hHS:=HPL5.out.lt;clear hal7 hE7a hZB hZS8 hSB8 hSS8 hPL8 hOW8 hQS8 hbw8 hSn hZn hlater hzn hZS hE7 HSB HSS HPL5 HOW5 HQS5 x' q0' q1' q2' q3' q4' HZZ hq58;go_wp2_with fail;clear v r0 r1;go_loopw [14,15,16,17,19,67] (fun s14 _ _ _ _ s67 wr=>∃ (i : Nat) (LA : Option Addr) (lc : Nat),i ≤ ol ∧ s67 = .int .i64 (i : Int) ∧ s14 = .slice LA (preLive f i).length lc ∧ Hid (Blk wr qb 3 ((placesTo f (startP f) i).map (.int .i64))) ∧ Hid (Own wr w8.heap.size 3 1 LA (preLive f i).length lc ((preLive f i).map (.int .i64))) ∧ Hid (w8.grownBy wr (some qb))) (fun _ _ _ _ _ s67 _=>ol - (intOf s67).toNat)
   case atStart=>exact ⟨0,none,0,Nat.zero_le _,rfl,rfl,HQS8,hide (Own.nil _ _ _ _),hide (grown_rfl _ _)⟩
   case round =>
    obtain ⟨i,LA,lc,hi,rfl,rfl,HQW,HLW,HGW⟩:=hrel;obtain ⟨wo,rfl⟩ : ∃ wo : World,wo = wr:=⟨_,rfl⟩;obtain ⟨hsb,hss,hzb,hzs,hpl,hoi⟩:=HLT.out _ HGW.out;obtain ⟨v,r0,r1⟩:=plan_box hpl;have hgs:=HGW.out.size;by_cases hlt : i < ol
    ·have hi0' : (0 : Int) ≤ (i : Int):=by omega
     have hi1 : (i : Int) < (ol : Int):=by omega
     have hic : i < (compO f).length:=by rw [HOL.out]; exact hlt
     obtain ⟨ob,oo,kx,rfl,hob,hkx,ck⟩:=hoi.at_ i hic;obtain ⟨hco1,hco2,hco3⟩:=co_at hic;obtain rfl : kx = ((co f i : Nat) : Int):=by rw [hco1] at hkx; injection hkx with h; exact h.symm
     obtain ⟨kc,hkc⟩ : ∃ kc,co f i = kc:=⟨_,rfl⟩;rw [hkc] at ck hco2 hco3;rw [HFN.out] at hco2;have hal : Below wo.heap.size wo (wo.alloc (.cells #[.int .i64 (i : Int)] 3)):=(Below.refl _ _).alloc (Nat.le_refl _) _;have hib:=Blk.new wo 3 [.int .i64 (i : Int)];have hga:=grown_trB HGW.out (grown_ofB hal (some qb));have hla:=HLW.out.alloc (.cells #[.int .i64 (i : Int)] 3);have hqa:=HQW.out.alloc (.cells #[.int .i64 (i : Int)] 3);have hpre:=preLive_len (f:=f) i;obtain ⟨wa,hwa⟩ : ∃ wa,wo.alloc (.cells #[.int .i64 (i : Int)] 3) = wa:=⟨_,rfl⟩;rw [hwa] at hib hga hla hqa;have hws : wa.heap.size = wo.heap.size + 1:=by rw [← hwa]; simp
     have hdl:=delete_any w5.heap.size wo.heap.size w8.heap.size LA (preLive f i).length lc (preLive f i) (fun x=>decide ((cspan f x.toNat).Last < (i : Int))) wa hla (by omega) (by omega) (fun W9 hg9 x hx=>by
      have hg8 : w8.grownBy W9 (some qb):=⟨hg9.os.trans hga.os,hg9.tape.trans hga.tape,hg9.output.trans hga.output,Nat.le_trans hga.size hg9.size,fun q hq hne=>(hg9.block q (Nat.lt_of_lt_of_le hq hga.size) (fun e=>by have:=(hla.lt e.symm).1; omega)).trans (hga.block q hq hne)⟩;obtain ⟨g1,g2,-,-,-,-⟩:=HLT.out _ hg8;have hi9 : Blk W9 wo.heap.size 3 [.int .i64 (i : Int)]:=(hg9.block _ hib.lt (fun e=>by have:=(HLW.out.lt (show (Value.slice LA (preLive f i).length lc).ownBlock = some wo.heap.size from e.symm)).2; omega)).trans hib;obtain ⟨j,h1,h2,rfl⟩:=mem_pre (by omega) hx;have h3:=(co_at h2).2.1;have h4:=del_any w5.heap.size wo.heap.size SA k sc (spansTo f ⟨compO f,startP f⟩ k) _ (i : Int) (co f j) rfl W9 g1 g2 hi9 (by simp [spansTo]) (by rw [← HFN.out]; exact h3);have h5 : (spAt (spansTo f ⟨compO f,startP f⟩ k) (co f j)) = cspan f (co f j):=spansTo_at (by rw [← HFN.out]; exact h3) rfl;rw [h5] at h4
      simpa using h4)
     rw [pre_live (by omega)] at hdl;have HDL:=hide hdl;have HIB:=hide hib;have HGA:=hide hga;have HLA:=hide hla;have HQA:=hide hqa;have HCO:=hide (show co f i = kc ∧ kc < k ∧ keptAt f kc = true from ⟨hkc,hco2,hco3⟩);have HIC:=hide hic;clear hdl hib hga hla hqa hal hco1 hkx hoi hss hzs hsb hzb hpl hkc hco3 hic;go_wp2_with fail;refine (unhide HDL).mono ?_;rintro e w10 ⟨LB,ld,rfl,hLB,hg10⟩;have hg8 : w8.grownBy w10 (some qb):=⟨hg10.os.trans HGA.out.os,hg10.tape.trans HGA.out.tape,hg10.output.trans HGA.out.output,Nat.le_trans HGA.out.size hg10.size,fun q hq hne=>(hg10.block q (Nat.lt_of_lt_of_le hq HGA.out.size) (fun e=>by have:=(HLA.out.lt e.symm).1; omega)).trans (HGA.out.block q hq hne)⟩;have hq10 : Blk w10 qb 3 ((placesTo f (startP f) i).map (.int .i64)):=(hg10.block _ HQA.out.lt (fun e=>by have:=(HLA.out.lt e.symm).1; omega)).trans HQA.out;obtain ⟨hsb,hss,hzb,hzs,hpl,hoi⟩:=HLT.out _ hg8;obtain ⟨v,r0,r1⟩:=plan_box hpl;obtain ⟨L,hL⟩ : ∃ L,placesTo f (startP f) i = L:=⟨_,rfl⟩;obtain ⟨lv,hlv⟩ : ∃ lv,liveAt f i = lv:=⟨_,rfl⟩;obtain ⟨m,hm⟩ : ∃ m,lv.length = m:=⟨_,rfl⟩;rw [hlv,hm] at hLB;rw [hL] at hq10;rw [hlv,hm]
     have hm12 : m ≤ 12:=by
      have h1 : (liveAt f i).length ≤ ((compO f).take i).length:=List.length_filter_le _ _;rw [List.length_take,hlv,hm] at h1;omega
     have HBD:=hide (fun x (hx : x ∈ lv)=>(show ∃ xk : Nat,x = (xk : Int) ∧ xk < k ∧ (0 ≤ L.getD xk 0 ∧ L.getD xk 0 + areaOf f xk ≤ 4096) ∧ 1 ≤ areaOf f xk ∧ areaOf f xk ≤ 256 from by
      rw [← hlv] at hx;obtain ⟨j,h1,h2,rfl,-⟩:=mem_live.1 hx;have h3:=(co_at h2).2.1;have h4:=laid_bd HFO.out (st:=startP f) (by simp [startP]) (i:=i) (by have:=HIC.out; omega) j h1;have h5:=areas_le HFO.out;have h6:=areas_mono HFO.out (i:=j + 1) (j:=(compO f).length) (by omega) (Nat.le_refl _);have h7:=area_bd HFO.out h3;rw [hL] at h4
      exact ⟨co f j,rfl,by rw [← HFN.out]; exact h3,by omega,h7⟩))
     have HBS:=hide (show busyAt f L i = lv.map fun x=>⟨L.getD x.toNat 0,L.getD x.toNat 0 + areaOf f x.toNat - 1⟩ from by unfold busyAt; rw [hlv]);have HG8:=hide hg8;have HQ10:=hide hq10;have HLB:=hide hLB;have HLV:=hide (show liveAt f i = lv ∧ lv.length = m ∧ placesTo f (startP f) i = L from ⟨hlv,hm,hL⟩);have HI10:=hide (show Blk w10 wo.heap.size 3 [.int .i64 (i : Int)] from (hg10.block _ HIB.out.lt (fun e=>by have:=(HLW.out.lt (show (Value.slice LA (preLive f i).length lc).ownBlock = some wo.heap.size from e.symm)).2; omega)).trans HIB.out)
     have HSC:=hide (fun (xk : Nat) (hxk : xk < k) (W9 : World) (h9 : Below w10.heap.size w10 W9)=>(show Calls Try.prog 82 #[.int .i64 (xk : Int),.pointer (some ⟨w7.heap.size,0,none⟩)] W9 (fun e w'=>e = .returned (.int .i64 (areaOf f xk)) ∧ Below W9.heap.size W9 w') from by
      obtain ⟨-,-,g3,g4,-,-⟩:=HLT.out _ (grown_trB hg8 (grown_ofB h9 (some qb)))
      exact size_any w7.heap.size ZA k zc xk f W9 g3 g4 HFO.out HFN.out hxk))
     clear hg8 hq10 hlv hm hL hLB hg10 hsb hss hzb hzs hpl hoi HDL HGA HLA HQA HIB v r0 r1;obtain ⟨is0,hs0,sz0,sz1,sz2⟩:=info_parts Try.infoSpn;go_wp2_with fail;go_loopw [17,19,77] (fun s17 _ s77 wr=>∃ (j : Nat) (BA : Option Addr) (bc : Nat),j ≤ m ∧ s77 = .int .i64 (j : Int) ∧ s17 = .slice BA j bc ∧ Hid (Own wr w10.heap.size 41 2 BA j bc (((busyAt f L i).take j).flatMap spnCells)) ∧ Hid (Below w10.heap.size w10 wr)) (fun _ _ s77 _=>m - (intOf s77).toNat)
     case atStart=>exact ⟨0,none,0,Nat.zero_le _,rfl,rfl,hide (Own.nil _ _ _ _),hide (Below.refl _ _)⟩
     case round =>
      obtain ⟨j,BA,bc,hj,rfl,rfl,HBA,HB0⟩:=hrel;by_cases hjm : j < m
      ·have hj0 : (0 : Int) ≤ (j : Int):=by omega
       have hj1 : (j : Int) < (m : Int):=by omega
       have hjl : j < lv.length:=by rw [HLV.out.2.1]; exact hjm
       obtain ⟨lb,lo,x,rfl,hlb,hx,cl⟩:=(HLB.out.cells.keepI HB0.out).at_ j hjl;obtain ⟨xk,rfl,hxk,hpv,har⟩:=HBD.out x (List.mem_of_getElem? hx);have hL9 : L.length = k:=by rw [← HLV.out.2.2,placesTo_len]; exact hqn
       have cq : wr.cell? ⟨qb,xk,none⟩ = some (.int .i64 (L.getD xk 0)):=by
        rw [(HQ10.out.keep HB0.out).cell,List.getElem?_map,List.getElem?_eq_getElem (by omega),List.getD_eq_getElem?_getD,List.getElem?_eq_getElem (by omega)];rfl
       have hnx : (busyAt f L i).take (j + 1) = (busyAt f L i).take j ++ [⟨L.getD xk 0,L.getD xk 0 + areaOf f xk - 1⟩]:=by
        rw [List.take_add_one,HBS.out,List.getElem?_map,hx];rfl
       have hsc:=fun (W9 : World) (h9 : Below w10.heap.size w10 W9)=>(unhide HSC) xk hxk W9 h9;obtain ⟨pv,hpve⟩ : ∃ pv,L.getD xk 0 = pv:=⟨_,rfl⟩;obtain ⟨ar,hare⟩ : ∃ ar,areaOf f xk = ar:=⟨_,rfl⟩;rw [hpve] at hpv cq hnx;rw [hare] at har hnx hsc hpv;have hv1 : wrap64 (pv + ar) = pv + ar:=wrap64_of (by omega) (by omega);have hv2 : wrap64 (pv + ar - 1) = pv + ar - 1:=wrap64_of (by omega) (by omega);obtain ⟨pa,hpa⟩ : ∃ pa,pv + ar = pa:=⟨_,rfl⟩;rw [hpa] at hv1 hv2 hnx;obtain ⟨pl,hple⟩ : ∃ pl,pa - 1 = pl:=⟨_,rfl⟩;rw [hple] at hv2 hnx;have hw1 : IntKind.i64.wrap pa = pa:=IntWalk.i64_in _ (by omega);have hw2 : IntKind.i64.wrap pl = pl:=IntWalk.i64_in _ (by omega);have HNX:=hide hnx;have hx0 : (0 : Int) ≤ (xk : Int):=by omega
       have hx1 : (xk : Int) < (k : Int):=by omega
       obtain ⟨-,-,-,-,hpl,-⟩:=HLT.out _ (grown_trB HG8.out (grown_ofB HB0.out (some qb)));obtain ⟨v,r0,r1⟩:=plan_box hpl;have HSC9:=hide hsc
       have HS10:=hide (show w10.cell? ⟨qb + 1,1,none⟩ = some (.slice (some ⟨qb,0,none⟩) k k) ∧ w10.cell? ⟨qb,xk,none⟩ = some (.int .i64 pv) from by
        obtain ⟨-,-,-,-,hpl',-⟩:=HLT.out _ HG8.out;refine ⟨(plan_box hpl').2.2,?_⟩;rw [HQ10.out.cell,List.getElem?_map,List.getElem?_eq_getElem (by omega),← hpve,List.getD_eq_getElem?_getD,List.getElem?_eq_getElem (by omega)]
        rfl)
       have HKS:=hide (fun (x1 x2 : World) (hb : Below x1.heap.size x1 x2) (hs : x1.cell? ⟨qb + 1,1,none⟩ = some (.slice (some ⟨qb,0,none⟩) k k) ∧ x1.cell? ⟨qb,xk,none⟩ = some (.int .i64 pv))=>(show x2.cell? ⟨qb + 1,1,none⟩ = some (.slice (some ⟨qb,0,none⟩) k k) ∧ x2.cell? ⟨qb,xk,none⟩ = some (.int .i64 pv) from ⟨keepC hb hs.1,keepC hb hs.2⟩));have hS0 : wr.drew.cell? ⟨qb + 1,1,none⟩ = some (.slice (some ⟨qb,0,none⟩) k k) ∧ wr.drew.cell? ⟨qb,xk,none⟩ = some (.int .i64 pv):=⟨r1,cq⟩;have HBD0:=hide (show Below w10.heap.size w10 wr.drew from HB0.out.drew);clear hpv hpve hare hnx hsc hpl v r0 r1 cq hx hlb;go_upto_region 24 with fail
       refine wp_region_B (fun w' : World=>w'.cell? ⟨qb + 1,1,none⟩ = some (.slice (some ⟨qb,0,none⟩) k k) ∧ w'.cell? ⟨qb,xk,none⟩ = some (.int .i64 pv)) (fun _=>false) (by kernel_rfl) ?_;refine AnyB.fr (i:=0) (.slice BA j bc) rfl (by kernel_rfl) (fun w'=>?_) ?_
       ·go_simp
       try simp only [Act.put,lsa]
       refine AnyB.fr (i:=1) (.pointer (some ⟨qb + 1,1,none⟩)) rfl (by kernel_rfl) (fun w'=>?_) ?_
       ·go_simp
       try simp only [Act.put]
       refine AnyB.tk (i:=2) (.slice (some ⟨qb,0,none⟩) k k) rfl (by kernel_rfl) (fun w' hS'=>?_) hS0 ?_
       ·obtain ⟨e0,e1⟩:=hS'
        go_simp
       try simp only [Act.put]
       refine AnyB.fr (i:=3) (.int .i64 (xk : Int)) rfl (by kernel_rfl) (fun w'=>?_) ?_
       ·go_simp
       try simp only [Act.put]
       refine AnyB.fr (i:=4) (.pointer (some ⟨qb,xk,none⟩)) rfl (by kernel_rfl) (fun w'=>?_) ?_
       ·go_simp
       try simp only [Act.put]
       refine AnyB.tk (i:=5) (.int .i64 pv) rfl (by kernel_rfl) (fun w' hS'=>?_) hS0 ?_
       ·obtain ⟨e0,e1⟩:=hS'
        go_simp
       try simp only [Act.put]
       refine AnyB.fr (i:=6) (.pointer (some ⟨qb + 1,1,none⟩)) rfl (by kernel_rfl) (fun w'=>?_) ?_
       ·go_simp
       try simp only [Act.put]
       refine AnyB.tk (i:=7) (.slice (some ⟨qb,0,none⟩) k k) rfl (by kernel_rfl) (fun w' hS'=>?_) hS0 ?_
       ·obtain ⟨e0,e1⟩:=hS'
        go_simp
       try simp only [Act.put]
       refine AnyB.fr (i:=8) (.int .i64 (xk : Int)) rfl (by kernel_rfl) (fun w'=>?_) ?_
       ·go_simp
       try simp only [Act.put]
       refine AnyB.fr (i:=9) (.pointer (some ⟨qb,xk,none⟩)) rfl (by kernel_rfl) (fun w'=>?_) ?_
       ·go_simp
       try simp only [Act.put]
       refine AnyB.tk (i:=10) (.int .i64 pv) rfl (by kernel_rfl) (fun w' hS'=>?_) hS0 ?_
       ·obtain ⟨e0,e1⟩:=hS'
        go_simp
       try simp only [Act.put]
       refine AnyB.fr (i:=11) (.func (.func 82) #[] #[.pointer (some ⟨w7.heap.size,0,none⟩)]) rfl (by kernel_rfl) (fun w'=>?_) ?_
       ·go_simp
       try simp only [Act.put]
       refine AnyB.fr (i:=12) (.int .i64 (xk : Int)) rfl (by kernel_rfl) (fun w'=>?_) ?_
       ·go_simp
       try simp only [Act.put]
       refine AnyB.one (i:=13) (by kernel_rfl) rfl (fun K hK=>?_)
       go_simp;go_at_call 82;refine ((unhide HSC9) _ HBD0.out).mono ?_;rintro e w11 ⟨rfl,hE11⟩;refine hK.out _ _ (fun _ hs=>(unhide HKS) _ _ hE11 hs) ?_;clear hK K;try simp only [Act.put,lsa,lsz,lss]
       refine AnyB.fr (i:=14) (.int .i64 pa) rfl (by kernel_rfl) (fun w'=>?_) ?_
       ·go_simp
       try simp only [Act.put,lsa]
       refine AnyB.fr (i:=15) (.int .i64 pl) rfl (by kernel_rfl) (fun w'=>?_) ?_
       ·go_simp
       try simp only [Act.put]
       refine AnyB.fr (i:=16) (.agg #[.int .i64 pv,.int .i64 pl]) rfl (by kernel_rfl) (fun w'=>?_) ?_
       ·go_simp
       try simp only [Act.put]
       refine AnyB.one (i:=17) (by kernel_rfl) rfl (fun K hK=>?_)
       go_simp;refine hK.out _ _ (fun _ hs=>(unhide HKS) _ _ ((Below.refl _ _).alloc (Nat.le_refl _) _) hs) ?_;clear hK K;try simp only [Act.put,lsa,lsz,lss]
       have hb1 : Below wr.heap.size wr w11:=(Below.refl _ _).drew.trans hE11;have hb2 : Below wr.heap.size wr (w11.alloc (.cells #[.int .i64 pv,.int .i64 pl] 41)):=hb1.alloc hb1.size _;have hs2:=hb2.size;have hs3:=HB0.out.size;refine AnyB.one (i:=18) (by kernel_rfl) rfl (fun K hK=>?_)
       refine step_app1W _ _ (by rfl) _ _ 32 (by rfl) w10.heap.size 41 is0 _ 2 16 Try.underlying32 hs0 sz0 sz1 sz2 rfl (by omega) BA j bc _ (spnCells ⟨pv,pl⟩) (by rfl) (Own.keep HBA.out hb2) (by rfl) (Blk.newE rfl) rfl (spn_one _) (by omega) (by omega) (by omega) ?_;intro A9 c9 w9 hown9 hg9 hat9;have hb9 : Below w10.heap.size w10 w9:=Below.grownOwn (HB0.out.trans (hb2.mono HB0.out.size)) (Own.keep HBA.out hb2) hg9 (by omega) (Nat.le_refl _);have HB9:=hide hb9;have HO9:=hide (show Own w9 w10.heap.size 41 2 A9 (j + 1) c9 (((busyAt f L i).take (j + 1)).flatMap spnCells) from by rw [HNX.out,List.flatMap_append]; simpa using hown9);have hS9:=(unhide HKS) _ _ hb9 HS10.out;try go_simp
       refine hK.out _ _ (fun _ _=>hS9) ?_;clear hK K hb9 hS9 hown9 hg9 hat9 hb1 hb2 hE11 hs2 hs3;try simp only [Act.put,lsa,lsz,lss]
       refine AnyB.fr (i:=19) (.slice A9 (j + 1) c9) rfl (by kernel_rfl) (fun w'=>?_) ?_
       ·go_simp
       try simp only [Act.put,lsa]
       refine AnyB.done (by kernel_rfl) ?_;go_wp2_with fail;go_roundw
       case rel=>exact ⟨j + 1,A9,c9,by omega,by go_num,rfl,HO9,HB9⟩
       case measure=>simp [intOf]; omega
      ·obtain rfl : j = m:=by omega
       have hbl : (busyAt f L i).length = j:=by rw [HBS.out,List.length_map]; exact HLV.out.2.1
       have hbt : (busyAt f L i).take j = busyAt f L i:=List.take_of_length_le (by omega);rw [hbt] at HBA;have har:=area_bd HFO.out (k:=kc) (by have:=HCO.out.2.1; have:=HFN.out; omega)
       have hpc:=fun (W9 : World) (h9 : Below wr.heap.size wr W9)=>place_any BA j bc (busyAt f L i) (areaOf f kc) W9 hbl (by omega) (Cells.keep HBA.out.cells h9) (by omega) (fun x hx=>by
        rw [HBS.out] at hx;obtain ⟨y,hy,rfl⟩:=List.mem_map.1 hx;obtain ⟨xk,rfl,-,h2,h3,h4⟩:=HBD.out y hy;simp only [Int.toNat_natCast]
        omega)
       obtain ⟨pz,hpz⟩ : ∃ pz,placeOf (busyAt f L i) (areaOf f kc) = pz:=⟨_,rfl⟩;rw [hpz] at hpc;obtain ⟨ar,hare⟩ : ∃ ar,areaOf f kc = ar:=⟨_,rfl⟩;have hscc:=fun (W9 : World) (h9 : Below w10.heap.size w10 W9)=>(unhide HSC) kc HCO.out.2.1 W9 h9;rw [hare] at hpc hscc;have HPC:=hide hpc;have HSC9:=hide hscc
       have HPZ:=hide (show placesTo f (startP f) (i + 1) = L.set kc pz from by
        simp only [placesTo]
        rw [HLV.out.2.2,HCO.out.1,hpz])
       have hL9 : L.length = k:=by rw [← HLV.out.2.2,placesTo_len]; exact hqn
       have hkc:=HCO.out.2.1;have hk0' : (0 : Int) ≤ (kc : Int):=by omega
       have hk1' : (kc : Int) < (k : Int):=by omega
       have hqw:=HQ10.out.keep HB0.out
       have cq : wr.cell? ⟨qb,kc,none⟩ = some (.int .i64 (L.getD kc 0)):=by
        rw [hqw.cell,List.getElem?_map,List.getElem?_eq_getElem (by omega),List.getD_eq_getElem?_getD,List.getElem?_eq_getElem (by omega)];rfl
       generalize L.getD kc 0 = u0 at cq;have HQW:=hide hqw;obtain ⟨-,-,-,-,hpl,-⟩:=HLT.out _ (grown_trB HG8.out (grown_ofB HB0.out (some qb)));obtain ⟨v,r0,r1⟩:=plan_box hpl;have HKS:=hide (fun (x1 x2 : World) (hb : Below x1.heap.size x1 x2) (hs : x1.cell? ⟨qb + 1,1,none⟩ = some (.slice (some ⟨qb,0,none⟩) k k))=>(show x2.cell? ⟨qb + 1,1,none⟩ = some (.slice (some ⟨qb,0,none⟩) k k) from keepC hb hs));have hS0 : wr.drew.cell? ⟨qb + 1,1,none⟩ = some (.slice (some ⟨qb,0,none⟩) k k):=r1;have HBD0:=hide (show Below w10.heap.size w10 wr.drew from HB0.out.drew);clear hbl hbt har hpc hpz hare hscc hqw hpl v r0 r1;go_upto_region 26 with fail
       refine wp_region_B (fun w' : World=>w'.cell? ⟨qb + 1,1,none⟩ = some (.slice (some ⟨qb,0,none⟩) k k)) (fun i=>decide (i = 9)) (by kernel_rfl) ?_;refine AnyB.fr (i:=0) (.pointer (some ⟨qb + 1,1,none⟩)) rfl (by kernel_rfl) (fun w'=>?_) ?_
       ·go_simp
       try simp only [Act.put,lsa]
       refine AnyB.tk (i:=1) (.slice (some ⟨qb,0,none⟩) k k) rfl (by kernel_rfl) (fun w' hS'=>?_) hS0 ?_
       ·obtain e0:=hS'
        go_simp
       try simp only [Act.put]
       refine AnyB.fr (i:=2) (.int .i64 (kc : Int)) rfl (by kernel_rfl) (fun w'=>?_) ?_
       ·go_simp
       try simp only [Act.put]
       refine AnyB.fr (i:=3) (.slice BA j bc) rfl (by kernel_rfl) (fun w'=>?_) ?_
       ·go_simp
       try simp only [Act.put]
       refine AnyB.fr (i:=4) (.func (.func 82) #[] #[.pointer (some ⟨w7.heap.size,0,none⟩)]) rfl (by kernel_rfl) (fun w'=>?_) ?_
       ·go_simp
       try simp only [Act.put]
       refine AnyB.fr (i:=5) (.int .i64 (kc : Int)) rfl (by kernel_rfl) (fun w'=>?_) ?_
       ·go_simp
       try simp only [Act.put]
       refine AnyB.one (i:=6) (by kernel_rfl) rfl (fun K hK=>?_)
       go_simp;go_at_call 82;refine ((unhide HSC9) _ HBD0.out).mono ?_;rintro e w11 ⟨rfl,hE11⟩;have hb1 : Below wr.heap.size wr w11:=(Below.refl _ _).drew.trans hE11;refine hK.out _ _ (fun _ hs=>(unhide HKS) _ _ hE11 hs) ?_;clear hK K;try simp only [Act.put,lsa,lsz,lss]
       refine AnyB.one (i:=7) (by kernel_rfl) rfl (fun K hK=>?_)
       go_simp;go_at_call 81;refine ((unhide HPC) _ hb1).mono ?_;rintro e w12 ⟨rfl,hE12⟩;have hb12 : Below wr.heap.size wr w12:=hb1.trans (hE12.mono hb1.size);refine hK.out _ _ (fun _ hs=>(unhide HKS) _ _ hE12 hs) ?_;clear hK K;try simp only [Act.put,lsa,lsz,lss]
       refine AnyB.fr (i:=8) (.pointer (some ⟨qb,kc,none⟩)) rfl (by kernel_rfl) (fun w'=>?_) ?_
       ·go_simp
       try simp only [Act.put,lsa]
       have cq12 : w12.cell? ⟨qb,kc,none⟩ = some (.int .i64 u0):=keepC hb12 cq;have hq12:=HQW.out.keep hb12;have fq12:=hq12.frozen kc;refine AnyB.one (i:=9) (by kernel_rfl) rfl (fun K hK=>?_)
       go_simp;refine hK.out _ _ (fun h _=>by cases h) ?_;clear hK K;try simp only [Act.put,lsa,lsz,lss]
       refine AnyB.done (by kernel_rfl) ?_;have hlz : Own (w12.setCell ⟨qb,kc,none⟩ (.int .i64 pz)) w8.heap.size 3 1 LB j ld (lv.map (.int .i64)):=((HLB.out.keep HB0.out).keep hb12).far (p:=⟨qb,kc,none⟩) (by simp only; omega) _;have hgz : w8.grownBy (w12.setCell ⟨qb,kc,none⟩ (.int .i64 pz)) (some qb):=grown_trB (grown_trB (grown_trB HG8.out (grown_ofB HB0.out _)) (grown_ofB hb12 _)) (grown_put w12 ⟨qb,kc,none⟩ _);have hqz : Blk (w12.setCell ⟨qb,kc,none⟩ (.int .i64 pz)) qb 3 ((placesTo f (startP f) (i + 1)).map (.int .i64)):=by rw [HPZ.out,List.map_set]; exact hq12.set_ kc _
       have hzs : w8.heap.size ≤ (w12.setCell ⟨qb,kc,none⟩ (.int .i64 pz)).heap.size:=hgz.size;have HLZ:=hide hlz;have HGZ:=hide hgz;have HQZ:=hide hqz;clear hlz hgz hqz cq12 hq12 fq12 hb12 hb1 hE11 hE12 cq hS0;go_wp2_with (at_builtin; go_loud (refine wpList_app1H (w12.setCell ⟨qb,kc,none⟩ (.int .i64 pz)) w12.heap.size (by simp [World.setCell]) rfl _ _ 25 rfl w8.heap.size 3 i0 _ 1 8 Try.underlying25 hi0 hz0 hz1 hz2 rfl (by omega) LB j ld _ [.int .i64 (kc : Int)] rfl HLZ.out rfl rfl (one_int _) (by omega) (by omega) hzs ?_; intro A9 c9 w9 hown9 hg9))
       have hpv : preLive f (i + 1) = lv ++ [(kc : Int)]:=by simp only [preLive]; rw [HLV.out.1,HCO.out.1]
       have hpl9 : (preLive f (i + 1)).length = j + 1:=by rw [hpv,List.length_append,HLV.out.2.1]; rfl
       go_roundw
       case rel =>
        refine ⟨i + 1,A9,c9,by omega,by go_num,by rw [hpl9],hide (Blk.grown (HQZ.out.alloc _) (HLZ.out.alloc _) hg9 (by omega)),?_,hide (grown_row HGZ.out HLZ.out (Nat.le_refl _) hg9)⟩;rw [hpl9,hpv,List.map_append];exact hide hown9
       case measure=>simp [intOf]; omega
    ·obtain rfl : i = ol:=by omega
     have hq1:=HE2.out.size;have hq2:=HQB.out;have hres:=(HRX.out.later _ HBW8.out).but HGW.out (by omega);obtain ⟨v',s0,s1⟩:=plan_box hres;have f0:=hres.frozen 0;have f1:=hres.frozen 1;have hol:=HOW8.out.butQ HGW.out (by omega);have hpl' : placesTo f (startP f) i = (comp f).Places:=by rw [← HOL.out]; exact start_eq
     rw [hpl'] at HQW;have hbe:=HB.out.trans ((HBW8.out.trans (below_of_grown HGW.out HBW8.out.size (by omega))).mono HB.out.size);have HOF:=hide ((hol.far (p:=⟨w.heap.size + 1,0,none⟩) (by simp only; omega) (.slice OA i oc)).far (p:=⟨w.heap.size + 1,1,none⟩) (by simp only; omega) (.slice (some ⟨qb,0,none⟩) k k));have HQF:=hide ((HQW.out.far (p:=⟨w.heap.size + 1,0,none⟩) (by simp only; omega) (.slice OA i oc)).far (p:=⟨w.heap.size + 1,1,none⟩) (by simp only; omega) (.slice (some ⟨qb,0,none⟩) k k));have HBF:=hide ((hbe.setCell (p:=⟨w.heap.size + 1,0,none⟩) (by simp) (.slice OA i oc)).setCell (p:=⟨w.heap.size + 1,1,none⟩) (by simp) (.slice (some ⟨qb,0,none⟩) k k));have HRF:=hide ((hres.set_ 0 (.slice OA i oc)).set_ 1 (.slice (some ⟨qb,0,none⟩) k k));clear hres hol hpl' hbe hsb hss hzb hzs hpl hoi;go_wp2_with fail;obtain ⟨v9,t0,t1⟩:=plan_box HRF.out;refine bodyPost_ret (v:=.tuple #[.agg #[.slice OA i oc,.slice (some ⟨qb,0,none⟩) k k],.int .i64 0]) ?_ rfl ?_
     ·simp [results,Try.results50,go_sem,t0,t1]
     ·have hcp : (comp f).Places.length = k:=by show (placesTo f (List.replicate f.P.length (-1)) (compO f).length).length = k; rw [placesTo_len,List.length_replicate]; exact HFN.out
      exact ⟨OA,i,oc,some ⟨qb,0,none⟩,k,k,rfl,HOL.out,hcp,HOF.out.cells,HQF.out.cells,hoc,Nat.le_refl _,(Mine.of_own HOF.out).mono (by omega),NewFrom.some_ (by omega),HBF.out⟩
end Go.Proofs.Ytibpmogmeoappab
