/- Walk: underpaintref.CompileOf. -/
import Derived.Test.YtibpmogmeoappabJFitI
import Derived.Test.YtibpmogmeoappabJFitF
set_option maxRecDepth 100000
set_option maxHeartbeats 16000000
namespace Go.Proofs.Ytibpmogmeoappab
open Go.RowKit
def RetPln (w : World) (p : Pln) (e : Ending) (w' : World) : Prop :=
 ∃ (OA : Option Addr) (on oc : Nat) (QA : Option Addr) (qn qc : Nat),e = .returned (.agg #[.slice OA on oc,.slice QA qn qc]) ∧ p.Order.length = on ∧ p.Places.length = qn ∧ Ints w' OA p.Order ∧ Ints w' QA p.Places ∧ on ≤ oc ∧ qn ≤ qc ∧ Below w.heap.size w w'
def stN (n k : Nat) : List Int:=(List.range n).map fun i=>if i < k then -1 else 0
theorem stN_len (n k : Nat) : (stN n k).length = n:=by simp [stN]
theorem stN_at {n k i : Nat} (hi : i < n) : (stN n k)[i]? = some (if i < k then -1 else 0):=by
 unfold stN;rw [List.getElem?_map,List.getElem?_range hi];rfl
theorem stN_zero (n : Nat) : stN n 0 = List.replicate n 0:=by
 apply List.ext_getElem?
 intro i;by_cases hi : i < n
 ·rw [stN_at hi,List.getElem?_replicate,if_pos hi,if_neg (by omega)]
 ·rw [List.getElem?_eq_none (by rw [stN_len]; omega),List.getElem?_eq_none (by simp; omega)]
theorem stN_set {n k : Nat} (hk : k < n) : stN n (k + 1) = (stN n k).set k (-1):=by
 apply List.ext_getElem?
 intro i;by_cases hi : i < n
 ·rw [stN_at hi,List.getElem?_set]
  by_cases e : k = i
  ·subst e
   rw [if_pos rfl,if_pos (by omega),if_pos (by rw [stN_len]; exact hk)]
  ·rw [if_neg e,stN_at hi]
   have : (i < k + 1) ↔ (i < k):=by omega
   simp only [this]
 ·rw [List.getElem?_eq_none (by rw [stN_len]; omega),List.getElem?_eq_none (by rw [List.length_set,stN_len]; omega)]
theorem stN_all (n : Nat) : stN n n = List.replicate n (-1):=by
 apply List.ext_getElem?
 intro i;by_cases hi : i < n
 ·rw [stN_at hi,List.getElem?_replicate,if_pos hi,if_pos hi]
 ·rw [List.getElem?_eq_none (by rw [stN_len]; omega),List.getElem?_eq_none (by simp; omega)]
def pickTo (f : Frm) (i j : Nat) : List Int:=((compO f).take j).filter fun x=>decide ((i : Int) ≤ (cspan f x.toNat).Last)
def busyTo (f : Frm) (L : List Int) (i j : Nat) : List Spn:=(pickTo f i j).map fun x=>⟨L.getD x.toNat 0,L.getD x.toNat 0 + areaOf f x.toNat - 1⟩
theorem busyTo_all (f : Frm) (L : List Int) (i : Nat) : busyTo f L i i = busyAt f L i:=rfl
theorem busyTo_len (f : Frm) (L : List Int) (i j : Nat) : (busyTo f L i j).length ≤ j:=by
 unfold busyTo pickTo;rw [List.length_map];refine Nat.le_trans (List.length_filter_le _ _) ?_;rw [List.length_take];omega
theorem pick_yes {f : Frm} {i j : Nat} (hj : j < (compO f).length) (h : (i : Int) ≤ (cspan f (co f j)).Last) : pickTo f i (j + 1) = pickTo f i j ++ [((co f j : Nat) : Int)]:=by
 unfold pickTo;rw [List.take_add_one,(co_at hj).1,List.filter_append];simp only [Option.toList_some,List.filter_cons,Int.toNat_natCast,List.filter_nil];rw [if_pos (by simpa using h)]
theorem pick_no {f : Frm} {i j : Nat} (hj : j < (compO f).length) (h : ¬ (i : Int) ≤ (cspan f (co f j)).Last) : pickTo f i (j + 1) = pickTo f i j:=by
 unfold pickTo;rw [List.take_add_one,(co_at hj).1,List.filter_append];simp only [Option.toList_some,List.filter_cons,Int.toNat_natCast,List.filter_nil];rw [if_neg (by simpa using h),List.append_nil]
theorem busy_yes {f : Frm} {L : List Int} {i j : Nat} (hj : j < (compO f).length) (h : (i : Int) ≤ (cspan f (co f j)).Last) : busyTo f L i (j + 1) = busyTo f L i j ++ [⟨L.getD (co f j) 0,L.getD (co f j) 0 + areaOf f (co f j) - 1⟩]:=by
 unfold busyTo;rw [pick_yes hj h,List.map_append];rfl
theorem busy_no {f : Frm} {L : List Int} {i j : Nat} (hj : j < (compO f).length) (h : ¬ (i : Int) ≤ (cspan f (co f j)).Last) : busyTo f L i (j + 1) = busyTo f L i j:=by
 unfold busyTo;rw [pick_no hj h]
theorem compileOf_ref (W H S O : Int) (PA : Option Addr) (n c : Nat) (ps : List Pas) (w : World) (hn : ps.length = n) (hP : Passes w PA ps) (hf0 : FrmOk ⟨W,H,S,O,ps⟩) :
 Calls Try.prog 51 #[.agg #[.int .i64 W,.int .i64 H,.int .i64 S,.int .i64 O,.slice PA n c]] w (RetPln w (comp ⟨W,H,S,O,ps⟩)):=by
 obtain ⟨i0,hi0,hz0,hz1,hz2⟩:=info_parts Try.info3;have hb:=((Below.refl w.heap.size w).alloc (Nat.le_refl _) (.cells #[.int .i64 W,.int .i64 H,.int .i64 S,.int .i64 O,.slice PA n c] 24)).alloc (by simp) (.cells #[.slice none 0 0,.slice none 0 0] 27);have hbx:=(show FrmBox (w.alloc (.cells #[.int .i64 W,.int .i64 H,.int .i64 S,.int .i64 O,.slice PA n c] 24)) w.heap.size W H S O PA n c from Blk.new w 24 (frmCells W H S O PA n c)).alloc (.cells #[.slice none 0 0,.slice none 0 0] 27);have hrx : Blk ((w.alloc (.cells #[.int .i64 W,.int .i64 H,.int .i64 S,.int .i64 O,.slice PA n c] 24)).alloc (.cells #[.slice none 0 0,.slice none 0 0] 27)) (w.heap.size + 1) 27 [.slice none 0 0,.slice none 0 0]:=Blk.newE (by simp);have h12:=hf0.many;have hn12 : 1 ≤ n ∧ n ≤ 12:=by simp only at h12; omega
 have hcf:=fun (W0 : World) (h1 : Passes W0 PA ps)=>checkFrame_ref W H S O PA n c ps W0 hn h1 (by omega);have hkp:=fun (W0 : World) (h1 : Passes W0 PA ps)=>keptOf_ref W H S O PA n c ps W0 hn h1 hf0;have hsp:=fun (OA : Option Addr) (on oc : Nat) (QA : Option Addr) (qn qc : Nat) (p : Pln) (W0 : World) (h1 : Passes W0 PA ps) (h2 : Ints W0 OA p.Order) (h3 : p.Order.length = on) (h4 : on ≤ 9223372036854775807) (h5 : OrdTo ⟨W,H,S,O,ps⟩ p p.Order.length) (h6 : p.Order.length ≤ n)=>spansOf_ord W H S O PA n c ps OA on oc QA qn qc p W0 hn h1 h2 h3 h4 hf0 h5 (by show p.Order.length ≤ ps.length; omega);have hpp:=hP.keep hb;obtain ⟨f,hf⟩ : ∃ f : Frm,f = ⟨W,H,S,O,ps⟩:=⟨_,rfl⟩;have hfn : f.P.length = n:=by rw [hf]; exact hn
 rw [← hf] at hcf hkp hsp hf0 ⊢;obtain ⟨er,her⟩ : ∃ er,frErr f = er:=⟨_,rfl⟩;rw [her] at hcf;obtain ⟨w1,hw1⟩ : ∃ w1,(w.alloc (.cells #[.int .i64 W,.int .i64 H,.int .i64 S,.int .i64 O,.slice PA n c] 24)).alloc (.cells #[.slice none 0 0,.slice none 0 0] 27) = w1:=⟨_,rfl⟩;rw [hw1] at hb hbx hrx hpp;have HB:=hide hb;have HBX:=hide (Keeps.blk hbx);have HRX:=hide (Keeps.blk hrx);have HP:=hide (Keeps.passes hpp);have HCF:=hide hcf;have HKP:=hide hkp;have HSP:=hide hsp;have HFN:=hide hfn;have HFO:=hide hf0;have HKL:=hide (keptL_len f);have hrs:=hrx.lt;obtain ⟨x,q0,q1,q2,q3,q4⟩:=FrmBox.cells (show FrmBox _ _ W H S O PA n c from hbx);have hmk:=fun W0 : World=>run_make_ints (P:=Try.prog) 25 3 i0 Try.underlying25 hi0 hz0 hz1 hz2 (n : Int) n rfl (by omega) W0;have HMK:=hide hmk;clear hn hP hb hbx hrx hpp hcf hkp hsp hf0 hfn her h12 hf hmk;go_enter Try.func51,Try.ntmps51
 go_wp2_with fail;refine ((unhide HCF) _ HP.out.now).mono ?_;rintro e w2 ⟨ZA,zn,zc,rfl,hzn,hZS,hE2⟩;obtain rfl : n = zn:=by rw [← hzn,sizes_len HFO.out]; exact HFN.out.symm
 have HE2:=hide hE2;have HZS:=hide (show Keeps w2 (fun W9=>Sizes W9 ZA (frSizes f)) from ⟨hZS,fun _ hb=>Cells.keep hZS hb⟩);have HBX2:=hide (HBX.out.move hE2);have HP2:=hide (HP.out.move hE2);have HRX2:=hide (HRX.out.move hE2);have HB2:=hide (HB.out.trans (hE2.mono HB.out.size));clear hw1 x q0 q1 q2 q3 q4 hzn hZS hE2 HCF HBX HP HRX;obtain ⟨x,q0,q1,q2,q3,q4⟩:=FrmBox.cells (show FrmBox _ _ W H S O PA n c from HBX2.out.now);go_wp2_with fail;refine ((unhide HKP) _ HP2.out.now).mono ?_;rintro e w3 ⟨KA,kn,kc,rfl,hkn,hKC,hE3⟩;obtain rfl : n = kn:=by have h1:=HKL.out; have h2:=HFN.out; omega
 obtain ⟨qb,hqb⟩ : ∃ qb,w3.heap.size = qb:=⟨_,rfl⟩;have HW13:=hide (Nat.le_trans HE2.out.size hE3.size);have HE3:=hide hE3;have HKC:=hide hKC;have HQB:=hide hqb;have HZS3:=hide (HZS.out.move hE3);have HBX3:=hide (HBX2.out.move hE3);have HP3:=hide (HP2.out.move hE3);have HRX3:=hide (HRX2.out.move hE3);have HB3:=hide (HB2.out.trans (hE3.mono HB2.out.size));have hmk:=HMK.out;clear x q0 q1 q2 q3 q4 hkn hKC hE3 HKP HZS HBX2 HP2 HRX2;go_wp2_with fail;have hpl3 : Blk ((w3.alloc (.cells (Array.replicate n (Value.int .i64 0)) 3)).alloc (.cells #[.slice none 0 0,.slice (some ⟨qb,0,none⟩) n n] 27)) (qb + 1) 27 [.slice none 0 0,.slice (some ⟨qb,0,none⟩) n n]:=Blk.newE (by simp [hqb])
 have hqs3 : Blk ((w3.alloc (.cells (Array.replicate n (Value.int .i64 0)) 3)).alloc (.cells #[.slice none 0 0,.slice (some ⟨qb,0,none⟩) n n] 27)) qb 3 ((stN n 0).map (.int .i64)):=by
  have e : (Array.replicate n (Value.int .i64 0)) = ((stN n 0).map (Value.int .i64)).toArray:=by rw [stN_zero]; simp
  rw [e];exact (Blk.newE hqb).alloc _
 have hbq3 : Below qb w3 ((w3.alloc (.cells (Array.replicate n (Value.int .i64 0)) 3)).alloc (.cells #[.slice none 0 0,.slice (some ⟨qb,0,none⟩) n n] 27)):=((Below.refl _ _).alloc (by omega) _).alloc (by simp; omega) _;have HPL3:=hide hpl3;have HQS3:=hide hqs3;have HBQ3:=hide hbq3;clear hpl3 hqs3 hbq3 hmk;go_loopw [7] (fun s7 wr=>∃ (k : Nat) (OA : Option Addr) (oc : Nat),k ≤ n ∧ s7 = .int .i64 (k : Int) ∧ Hid (Blk wr (qb + 1) 27 [.slice OA (compTo f k).length oc,.slice (some ⟨qb,0,none⟩) n n]) ∧ Hid (Own wr (qb + 2) 3 1 OA (compTo f k).length oc ((compTo f k).map (.int .i64))) ∧ Hid (Blk wr qb 3 ((stN n k).map (.int .i64))) ∧ Hid (Below qb w3 wr)) (fun s7 _=>n - (intOf s7).toNat)
 case atStart=>exact ⟨0,none,0,Nat.zero_le _,rfl,HPL3,hide (Own.nil _ _ _ _),HQS3,HBQ3⟩
 case round =>
  obtain ⟨k,OA,oc,hk,rfl,HPL,HOW,HQS,HBQ⟩:=hrel;obtain ⟨v,r0,r1⟩:=plan_box HPL.out;by_cases hlt : k < n
  ·have hk0 : (0 : Int) ≤ (k : Int):=by omega
   have hk1 : (k : Int) < (n : Int):=by omega
   have hkf : k < f.P.length:=by rw [HFN.out]; exact hlt
   have HW3:=hide (show Below w3.heap.size w3 wr from by rw [HQB.out]; exact HBQ.out);obtain ⟨b,o,rfl,hb,ck'⟩:=keptAt_cell HKC.out hkf;have cq : wr.cell? ⟨qb,k,none⟩ = some (.int .i64 ((stN n k).getD k 0)):=by rw [HQS.out.cell,List.getElem?_map,stN_at hlt,List.getD_eq_getElem?_getD,stN_at hlt]; rfl
   have fq:=HQS.out.frozen k;generalize (stN n k).getD k 0 = u0 at cq
   have ck : (wr.setCell ⟨qb,k,none⟩ (.int .i64 (-1))).cell? ⟨b,o + k,none⟩ = some (.bool (keptAt f k)) :=
    (World.cell?_of_block (a:=⟨b,o + k,none⟩) (Below.heap_setCell wr ⟨qb,k,none⟩ (.int .i64 (-1)) b (by have:=HQB.out; simp only; omega))).trans (keepC HW3.out ck')
   have hpl9:=HPL.out.far (p:=⟨qb,k,none⟩) (by simp) (.int .i64 (-1));have how9:=HOW.out.far (p:=⟨qb,k,none⟩) (by simp only; omega) (.int .i64 (-1));have hqs9 : Blk (wr.setCell ⟨qb,k,none⟩ (.int .i64 (-1))) qb 3 ((stN n (k + 1)).map (.int .i64)):=by rw [stN_set hlt,List.map_set]; exact HQS.out.set_ k (.int .i64 (-1))
   have hbq9:=HBQ.out.setCell (p:=⟨qb,k,none⟩) (Nat.le_refl _) (.int .i64 (-1));obtain ⟨v',r0',r1'⟩:=plan_box hpl9;have f0':=hpl9.frozen 0;have HOW9:=hide how9;have HQS9:=hide hqs9;have HPL9:=hide hpl9;have HBQ9:=hide hbq9;have hlq:=HBQ.out.size;obtain ⟨kb,hkb⟩ : ∃ kb,keptAt f k = kb:=⟨_,rfl⟩;rw [hkb] at ck;have hcs:=compTo_succ f k;rw [hkb] at hcs;clear hkb hkf ck' hb how9 hqs9 hpl9 hbq9
   have hlen : (compTo f k).length ≤ 12:=by
    have h1:=compTo_le f k;omega
   obtain ⟨ol,hol⟩ : ∃ ol,(compTo f k).length = ol:=⟨_,rfl⟩;rw [hol] at HPL HOW r0 r0' hlen HOW9 HPL9;have HOL:=hide hol;clear hol
   cases kb with
   | true =>
     have HCS:=hide (show compTo f (k + 1) = compTo f k ++ [(k : Int)] from by rw [hcs]; rfl);clear hcs;have hbs : qb + 2 ≤ (wr.setCell ⟨qb,k,none⟩ (.int .i64 (-1))).heap.size:=HPL9.out.lt;go_wp2_with (at_builtin; go_loud (refine wpList_app1A (wr.setCell ⟨qb,k,none⟩ (.int .i64 (-1))) wr.heap.size (by simp [World.setCell]) rfl _ _ 25 rfl (qb + 2) 3 i0 _ 1 8 Try.underlying25 hi0 hz0 hz1 hz2 rfl (by omega) OA ol oc _ [.int .i64 (k : Int)] rfl HOW9.out rfl rfl (one_int _) (by omega) (by omega) hbs ?_; intro A9 c9 w9 hown9 hg9 hat9; have hp9:=Blk.grown (HPL9.out.alloc (.cells #[.int .i64 (k : Int)] 3)) (HOW9.out.alloc _) hg9 (by omega); obtain ⟨v3,r3,r4⟩:=plan_box hp9; have f3:=hp9.frozen 0))
     have hq9:=Blk.grown (HQS9.out.alloc (.cells #[.int .i64 (k : Int)] 3)) (HOW9.out.alloc _) hg9 (by omega);have hcl : (compTo f (k + 1)).length = ol + 1:=by rw [HCS.out,List.length_append,HOL.out]; rfl
     go_roundw
     case rel =>
      refine ⟨k + 1,A9,c9,by omega,by go_num,?_,?_,?_,?_⟩
      ·rw [hcl]; exact hide (hp9.set_ 0 _)
      ·rw [hcl,HCS.out,List.map_append]; exact hide (hown9.far (p:=⟨qb + 1,0,none⟩) (by simp) _)
      ·exact hide (hq9.far (p:=⟨qb + 1,0,none⟩) (by simp) _)
      ·exact hide ((Below.grownOwn (HBQ9.out.alloc (by have:=HBQ9.out.size; omega) _) (HOW9.out.alloc _) hg9 (by simp only [World.size_alloc]; omega) (by omega)).setCell (p:=⟨qb + 1,0,none⟩) (by simp) _)
     case measure=>simp [intOf]; omega
   | false =>
     have HCS:=hide (show compTo f (k + 1) = compTo f k from by rw [hcs]; simp);clear hcs;go_wp2_with fail;go_roundw
     case rel =>
      refine ⟨k + 1,OA,oc,by omega,by go_num,?_,?_,HQS9,HBQ9⟩
      ·rw [HCS.out,HOL.out]; exact HPL9
      ·rw [HCS.out,HOL.out]; exact HOW9
     case measure=>simp [intOf]; omega
  ·obtain rfl : k = n:=by omega
   have hco : compTo f k = compO f:=by unfold compO; rw [HFN.out]
   rw [hco] at HPL HOW r0;rw [stN_all] at HQS;have HW3:=hide (show Below w3.heap.size w3 wr from by rw [HQB.out]; exact HBQ.out);obtain ⟨x,q0,q1,q2,q3,q4⟩:=FrmBox.cells (show FrmBox _ _ W H S O PA k c from HBX3.out.later _ HW3.out);have hcl:=compO_len HFO.out
   have hoc : (compO f).length ≤ oc:=by
    rcases HOW.out.2 with ⟨e0,h0⟩ | ⟨g9,cap9,cur9,hv9,_,_,hc9,_⟩
    ·injection e0 with _ _ e3; omega
    ·injection hv9 with _ _ e3; omega
   have hle:=compTo_le f k;rw [hco] at hle;obtain ⟨ol,hol⟩ : ∃ ol,(compO f).length = ol:=⟨_,rfl⟩;rw [hol] at HPL HOW r0 hcl hoc hle;have HOL:=hide hol;have hqn : (List.replicate k (-1 : Int)).length = k:=by simp
   have hs4:=(unhide HSP) OA ol oc (some ⟨qb,0,none⟩) k k ⟨compO f,[]⟩ wr (HP3.out.later _ HW3.out) HOW.out.cells hol (by omega) (comp_ord HFO.out rfl) (by show (compO f).length ≤ k; omega);have HS4:=hide hs4;clear hco hol hs4 HSP HKC;go_wp2_with fail;refine (unhide HS4).mono ?_;rintro e w8 ⟨SA,sn,sc,rfl,hsn,hSS8,hE8⟩;obtain rfl : k = sn:=by rw [← hsn]; simp [spansTo]
   have hPL8:=HPL.out.keep hE8;have hOW8:=HOW.out.keep hE8;have hQS8:=HQS.out.keep hE8;have hZS8:=HZS3.out.later _ (HW3.out.trans (hE8.mono HW3.out.size));have HBW8:=hide (HW3.out.trans (hE8.mono HW3.out.size));have hSn:=cells_few hSS8 hQS8 (by rw [List.length_map,hqn,flatMap_len spnCells 2 (fun _=>rfl)]; simp [spansTo]; omega);have hZn:=cells_few hZS8 hQS8 (by rw [List.length_map,hqn,flatMap_len szCells 2 (fun _=>rfl),sizes_len HFO.out,HFN.out]; omega)
   have hlater : ∀ W9 : World,w8.grownBy W9 (some qb) → Spns W9 SA (spansTo f ⟨compO f,[]⟩ k) ∧ Sizes W9 ZA (frSizes f) ∧ Blk W9 (qb + 1) 27 [.slice OA ol oc,.slice (some ⟨qb,0,none⟩) k k] ∧ Ints W9 OA (compO f):=fun W9 hg =>
    ⟨Cells.but hSS8 hg (fun _=>hSn),Cells.but hZS8 hg (fun _=>hZn),hPL8.but hg (by omega),Ints.but hOW8.cells hg (fun _ a ha=>by have:=hOW8.new a ha; omega)⟩
   have HLT:=hide hlater;have HQS8:=hide hQS8;have HOW8:=hide hOW8;have hqz : qb + 2 ≤ w8.heap.size:=hPL8.lt;clear hZS8 hSS8 hPL8 hOW8 hQS8 hSn hZn hlater hsn hE8 HPL HOW HQS HS4 x q0 q1 q2 q3 q4 v r0 r1;go_wp2_with fail;go_loopw [9,10,11,12] (fun s9 _ _ _ wr=>∃ i : Nat,i ≤ ol ∧ s9 = .int .i64 (i : Int) ∧ Hid (Blk wr qb 3 ((placesTo f (List.replicate k (-1)) i).map (.int .i64))) ∧ Hid (w8.grownBy wr (some qb))) (fun s9 _ _ _ _=>ol - (intOf s9).toNat)
   case atStart=>exact ⟨0,Nat.zero_le _,rfl,HQS8,hide (grown_rfl _ _)⟩
   case round =>
    obtain ⟨i,hi,rfl,HQW,HGW⟩:=hrel;obtain ⟨wo,rfl⟩ : ∃ wo : World,wo = wr:=⟨_,rfl⟩;obtain ⟨hss,hzs,hpl,hoi⟩:=HLT.out _ HGW.out;obtain ⟨v,r0,r1⟩:=plan_box hpl;have hgs:=HGW.out.size;by_cases hlt : i < ol
    ·have hi0' : (0 : Int) ≤ (i : Int):=by omega
     have hi1 : (i : Int) < (ol : Int):=by omega
     have hic : i < (compO f).length:=by rw [HOL.out]; exact hlt
     have HIC:=hide hic;obtain ⟨L,hL⟩ : ∃ L,placesTo f (List.replicate k (-1)) i = L:=⟨_,rfl⟩;rw [hL] at HQW;have hL9 : L.length = k:=by rw [← hL,placesTo_len]; exact hqn
     have HLE:=hide hL
     have HBD:=hide (fun (j : Nat) (hj : j < i)=>(show ∃ xk : Nat,co f j = xk ∧ xk < k ∧ (0 ≤ L.getD xk 0 ∧ L.getD xk 0 + areaOf f xk ≤ 4096) ∧ 1 ≤ areaOf f xk ∧ areaOf f xk ≤ 256 from by
      have h2 : j < (compO f).length:=by omega
      have h3:=(co_at h2).2.1;have h4:=laid_bd HFO.out (st:=List.replicate k (-1)) (by rw [HFN.out]; exact hqn) (i:=i) (by omega) j hj;have h5:=areas_le HFO.out;have h6:=areas_mono HFO.out (i:=j + 1) (j:=(compO f).length) (by omega) (Nat.le_refl _);have h7:=area_bd HFO.out h3;rw [hL] at h4
      exact ⟨co f j,rfl,by rw [← HFN.out]; exact h3,by omega,h7⟩))
     clear hss hzs hpl hoi hic hL;obtain ⟨is0,hs0,sz0,sz1,sz2⟩:=info_parts Try.infoSpn;go_wp2_with fail;clear v r0 r1;go_loopw [10,11,12] (fun s10 s11 _ wr=>∃ (j : Nat) (BA : Option Addr) (bc : Nat),j ≤ i ∧ s11 = .int .i64 (j : Int) ∧ s10 = .slice BA (busyTo f L i j).length bc ∧ Hid (Own wr wo.heap.size 41 2 BA (busyTo f L i j).length bc ((busyTo f L i j).flatMap spnCells)) ∧ Hid (Below wo.heap.size wo wr)) (fun _ s11 _ _=>i - (intOf s11).toNat)
     case atStart=>exact ⟨0,none,0,Nat.zero_le _,rfl,rfl,hide (Own.nil _ _ _ _),hide (Below.refl _ _)⟩
     case round =>
      obtain ⟨j,BA,bc,hj,rfl,rfl,HBA,HB0⟩:=hrel;obtain ⟨hss,hzs,hpl,hoi⟩:=HLT.out _ (grown_trB HGW.out (grown_ofB HB0.out (some qb)));obtain ⟨v,r0,r1⟩:=plan_box hpl;by_cases hjm : j < i
      ·have hj0 : (0 : Int) ≤ (j : Int):=by omega
       have hj1 : (j : Int) < (ol : Int):=by omega
       have hj2 : (j : Int) < (i : Int):=by omega
       have hjc : j < (compO f).length:=by have:=HIC.out; omega
       obtain ⟨xk,hxe,hxk,hpv,har⟩:=HBD.out j hjm;obtain ⟨ob,oo,x,rfl,hob,hx,co⟩:=hoi.at_ j hjc;obtain rfl : x = (xk : Int):=by rw [(co_at hjc).1,hxe] at hx; injection hx with h; exact h.symm
       obtain ⟨sb,so,rfl,hsb,cs1,cs2⟩:=spns_at hss hxk;rw [show spanOf f ⟨compO f,[]⟩ xk = cspan f xk from rfl] at cs1 cs2;obtain ⟨zb,zo,rfl,hzb,cz1,cz2⟩:=size_cells HFO.out hzs (k:=xk) (by rw [HFN.out]; exact hxk)
       have cq : wr.cell? ⟨qb,xk,none⟩ = some (.int .i64 (L.getD xk 0)):=by
        rw [(HQW.out.keep HB0.out).cell,List.getElem?_map,List.getElem?_eq_getElem (by omega),List.getD_eq_getElem?_getD,List.getElem?_eq_getElem (by omega)];rfl
       have hx0 : (0 : Int) ≤ (xk : Int):=by omega
       have hx1 : (xk : Int) < (k : Int):=by omega
       obtain ⟨m,hm⟩ : ∃ m,(busyTo f L i j).length = m:=⟨_,rfl⟩;have hm12 : m ≤ 12:=by rw [← hm]; have:=busyTo_len f L i j; omega
       rw [hm] at HBA;rw [hm];have HMM:=hide hm;obtain ⟨la,hla⟩ : ∃ la,(cspan f xk).Last = la:=⟨_,rfl⟩;rw [hla] at cs2;by_cases hge : (i : Int) ≤ la
       ·have hnx:=busy_yes (L:=L) hjc (i:=i) (by rw [hxe,hla]; exact hge)
        rw [hxe] at hnx
        have hS10 : wo.cell? ⟨qb + 1,1,none⟩ = some (.slice (some ⟨qb,0,none⟩) k k) ∧ wo.cell? ⟨qb,xk,none⟩ = some (.int .i64 (L.getD xk 0)) ∧ wo.cell? ⟨zb,zo + xk * 2,none⟩ = some (.int .i64 (frSize f xk).W) ∧ wo.cell? ⟨zb,zo + xk * 2 + 1,none⟩ = some (.int .i64 (frSize f xk).H):=by
         obtain ⟨-,hzs',hpl',-⟩:=HLT.out _ HGW.out;obtain ⟨zb',zo',ez,-,c1,c2⟩:=size_cells HFO.out hzs' (k:=xk) (by rw [HFN.out]; exact hxk);obtain ⟨rfl,rfl⟩ : zb = zb' ∧ zo = zo':=by simpa using ez
         refine ⟨(plan_box hpl').2.2,?_,c1,c2⟩;rw [HQW.out.cell,List.getElem?_map,List.getElem?_eq_getElem (by omega),List.getD_eq_getElem?_getD,List.getElem?_eq_getElem (by omega)];rfl
        obtain ⟨sw,hsw⟩ : ∃ sw,(frSize f xk).W = sw:=⟨_,rfl⟩;obtain ⟨sh,hsh⟩ : ∃ sh,(frSize f xk).H = sh:=⟨_,rfl⟩;have hmul : sw * sh = areaOf f xk:=by rw [← hsw,← hsh]; rfl
        rw [hsw] at cz1;rw [hsh] at cz2;obtain ⟨pv,hpve⟩ : ∃ pv,L.getD xk 0 = pv:=⟨_,rfl⟩;obtain ⟨ar,hare⟩ : ∃ ar,areaOf f xk = ar:=⟨_,rfl⟩;rw [hpve] at hpv cq hnx hS10;rw [hsw,hsh] at hS10;have HS10:=hide hS10;rw [hare] at har hnx hpv hmul;have hv1 : wrap64 (pv + ar) = pv + ar:=wrap64_of (by omega) (by omega);have hv2 : wrap64 (pv + ar - 1) = pv + ar - 1:=wrap64_of (by omega) (by omega);have hsc:=fun (W9 : World)=>area_is hmul (by omega) W9;obtain ⟨pa,hpa⟩ : ∃ pa,pv + ar = pa:=⟨_,rfl⟩;rw [hpa] at hv1 hv2 hnx;obtain ⟨pl,hple⟩ : ∃ pl,pa - 1 = pl:=⟨_,rfl⟩;rw [hple] at hv2 hnx;have hw1 : IntKind.i64.wrap pa = pa:=IntWalk.i64_in _ (by omega);have hw2 : IntKind.i64.wrap pl = pl:=IntWalk.i64_in _ (by omega);have HNX:=hide hnx;have HSC9:=hide hsc;have HKS:=hide (fun (x1 x2 : World) (hb : Below x1.heap.size x1 x2) (hs : x1.cell? ⟨qb + 1,1,none⟩ = some (.slice (some ⟨qb,0,none⟩) k k) ∧ x1.cell? ⟨qb,xk,none⟩ = some (.int .i64 pv) ∧ x1.cell? ⟨zb,zo + xk * 2,none⟩ = some (.int .i64 sw) ∧ x1.cell? ⟨zb,zo + xk * 2 + 1,none⟩ = some (.int .i64 sh))=>(show x2.cell? ⟨qb + 1,1,none⟩ = some (.slice (some ⟨qb,0,none⟩) k k) ∧ x2.cell? ⟨qb,xk,none⟩ = some (.int .i64 pv) ∧ x2.cell? ⟨zb,zo + xk * 2,none⟩ = some (.int .i64 sw) ∧ x2.cell? ⟨zb,zo + xk * 2 + 1,none⟩ = some (.int .i64 sh) from ⟨keepC hb hs.1,keepC hb hs.2.1,keepC hb hs.2.2.1,keepC hb hs.2.2.2⟩));have hS0 : wr.drew.cell? ⟨qb + 1,1,none⟩ = some (.slice (some ⟨qb,0,none⟩) k k) ∧ wr.drew.cell? ⟨qb,xk,none⟩ = some (.int .i64 pv) ∧ wr.drew.cell? ⟨zb,zo + xk * 2,none⟩ = some (.int .i64 sw) ∧ wr.drew.cell? ⟨zb,zo + xk * 2 + 1,none⟩ = some (.int .i64 sh):=⟨r1,cq,cz1,cz2⟩;have HS00:=hide hS0;have HBD0:=hide (show Below wo.heap.size wo wr.drew from HB0.out.drew);clear hpv hpve hare hnx hsc hpl hx hss hzs hoi hxe hla hm hsw hsh hmul hS0 cz1 cz2 cq hS10;go_upto_region 20 with fail
        have hS0:=HS00.out;refine wp_region_B (fun w' : World=>w'.cell? ⟨qb + 1,1,none⟩ = some (.slice (some ⟨qb,0,none⟩) k k) ∧ w'.cell? ⟨qb,xk,none⟩ = some (.int .i64 pv) ∧ w'.cell? ⟨zb,zo + xk * 2,none⟩ = some (.int .i64 sw) ∧ w'.cell? ⟨zb,zo + xk * 2 + 1,none⟩ = some (.int .i64 sh)) (fun _=>false) (by kernel_rfl) ?_;refine AnyB.fr (i:=0) (.slice BA m bc) rfl (by kernel_rfl) (fun w'=>?_) ?_
        ·go_simp
        try simp only [Act.put,lsa]
        refine AnyB.fr (i:=1) (.pointer (some ⟨qb + 1,1,none⟩)) rfl (by kernel_rfl) (fun w'=>?_) ?_
        ·go_simp
        try simp only [Act.put]
        refine AnyB.tk (i:=2) (.slice (some ⟨qb,0,none⟩) k k) rfl (by kernel_rfl) (fun w' hS'=>?_) hS0 ?_
        ·obtain ⟨e0,e1,e2,e3⟩:=hS'
         go_simp
        try simp only [Act.put]
        refine AnyB.fr (i:=3) (.int .i64 (xk : Int)) rfl (by kernel_rfl) (fun w'=>?_) ?_
        ·go_simp
        try simp only [Act.put]
        refine AnyB.fr (i:=4) (.pointer (some ⟨qb,xk,none⟩)) rfl (by kernel_rfl) (fun w'=>?_) ?_
        ·go_simp
        try simp only [Act.put]
        refine AnyB.tk (i:=5) (.int .i64 pv) rfl (by kernel_rfl) (fun w' hS'=>?_) hS0 ?_
        ·obtain ⟨e0,e1,e2,e3⟩:=hS'
         go_simp
        try simp only [Act.put]
        refine AnyB.fr (i:=6) (.pointer (some ⟨qb + 1,1,none⟩)) rfl (by kernel_rfl) (fun w'=>?_) ?_
        ·go_simp
        try simp only [Act.put]
        refine AnyB.tk (i:=7) (.slice (some ⟨qb,0,none⟩) k k) rfl (by kernel_rfl) (fun w' hS'=>?_) hS0 ?_
        ·obtain ⟨e0,e1,e2,e3⟩:=hS'
         go_simp
        try simp only [Act.put]
        refine AnyB.fr (i:=8) (.int .i64 (xk : Int)) rfl (by kernel_rfl) (fun w'=>?_) ?_
        ·go_simp
        try simp only [Act.put]
        refine AnyB.fr (i:=9) (.pointer (some ⟨qb,xk,none⟩)) rfl (by kernel_rfl) (fun w'=>?_) ?_
        ·go_simp
        try simp only [Act.put]
        refine AnyB.tk (i:=10) (.int .i64 pv) rfl (by kernel_rfl) (fun w' hS'=>?_) hS0 ?_
        ·obtain ⟨e0,e1,e2,e3⟩:=hS'
         go_simp
        try simp only [Act.put]
        refine AnyB.fr (i:=11) (.slice (some ⟨zb,zo,none⟩) k zc) rfl (by kernel_rfl) (fun w'=>?_) ?_
        ·go_simp
        try simp only [Act.put]
        refine AnyB.fr (i:=12) (.int .i64 (xk : Int)) rfl (by kernel_rfl) (fun w'=>?_) ?_
        ·go_simp
        try simp only [Act.put]
        refine AnyB.fr (i:=13) (.pointer (some ⟨zb,zo + xk * 2,none⟩)) rfl (by kernel_rfl) (fun w'=>?_) ?_
        ·go_simp
        try simp only [Act.put]
        refine AnyB.tk (i:=14) (.agg #[.int .i64 sw,.int .i64 sh]) rfl (by kernel_rfl) (fun w' hS'=>?_) hS0 ?_
        ·obtain ⟨e0,e1,e2,e3⟩:=hS'
         go_simp
        try simp only [Act.put]
        refine AnyB.one (i:=15) (by kernel_rfl) rfl (fun K hK=>?_)
        go_simp;go_at_call 62;refine ((unhide HSC9) _).mono ?_;rintro e w11 ⟨rfl,hE11⟩;refine hK.out _ _ (fun _ hs=>(unhide HKS) _ _ hE11 hs) ?_;clear hK K;try simp only [Act.put,lsa,lsz,lss]
        refine AnyB.fr (i:=16) (.int .i64 pa) rfl (by kernel_rfl) (fun w'=>?_) ?_
        ·go_simp
        try simp only [Act.put,lsa]
        refine AnyB.fr (i:=17) (.int .i64 pl) rfl (by kernel_rfl) (fun w'=>?_) ?_
        ·go_simp
        try simp only [Act.put]
        refine AnyB.fr (i:=18) (.agg #[.int .i64 pv,.int .i64 pl]) rfl (by kernel_rfl) (fun w'=>?_) ?_
        ·go_simp
        try simp only [Act.put]
        refine AnyB.one (i:=19) (by kernel_rfl) rfl (fun K hK=>?_)
        go_simp;refine hK.out _ _ (fun _ hs=>(unhide HKS) _ _ ((Below.refl _ _).alloc (Nat.le_refl _) _) hs) ?_;clear hK K;try simp only [Act.put,lsa,lsz,lss]
        have hb1 : Below wr.heap.size wr w11:=(Below.refl _ _).drew.trans hE11;have hb2 : Below wr.heap.size wr (w11.alloc (.cells #[.int .i64 pv,.int .i64 pl] 41)):=hb1.alloc hb1.size _;have hs2:=hb2.size;have hs3:=HB0.out.size;refine AnyB.one (i:=20) (by kernel_rfl) rfl (fun K hK=>?_)
        refine step_app1W _ _ (by rfl) _ _ 32 (by rfl) wo.heap.size 41 is0 _ 2 16 Try.underlying32 hs0 sz0 sz1 sz2 rfl (by omega) BA m bc _ (spnCells ⟨pv,pl⟩) (by rfl) (Own.keep HBA.out hb2) (by rfl) (Blk.newE rfl) rfl (spn_one _) (by omega) (by omega) (by omega) ?_;intro A9 c9 w9 hown9 hg9 hat9;have hb9 : Below wo.heap.size wo w9:=Below.grownOwn (HB0.out.trans (hb2.mono HB0.out.size)) (Own.keep HBA.out hb2) hg9 (by omega) (Nat.le_refl _);have HB9:=hide hb9;have HO9:=hide (show Own w9 wo.heap.size 41 2 A9 (m + 1) c9 ((busyTo f L i (j + 1)).flatMap spnCells) from by rw [HNX.out,List.flatMap_append]; simpa using hown9);have hln : (busyTo f L i (j + 1)).length = m + 1:=by rw [HNX.out,List.length_append,HMM.out]; rfl
        have HLN:=hide hln;have hS9 : w9.cell? ⟨qb + 1,1,none⟩ = some (.slice (some ⟨qb,0,none⟩) k k) ∧ w9.cell? ⟨qb,xk,none⟩ = some (.int .i64 pv) ∧ w9.cell? ⟨zb,zo + xk * 2,none⟩ = some (.int .i64 sw) ∧ w9.cell? ⟨zb,zo + xk * 2 + 1,none⟩ = some (.int .i64 sh):=(unhide HKS) _ _ hb9 HS10.out;try go_simp
        refine hK.out _ _ (fun _ _=>hS9) ?_;clear hK K hb9 hS9 hown9 hg9 hat9 hb1 hb2 hE11 hs2 hs3 hln;try simp only [Act.put,lsa,lsz,lss]
        refine AnyB.fr (i:=21) (.slice A9 (m + 1) c9) rfl (by kernel_rfl) (fun w'=>?_) ?_
        ·go_simp
        try simp only [Act.put,lsa]
        refine AnyB.done (by kernel_rfl) ?_;go_wp2_with fail;go_roundw
        case rel=>exact ⟨j + 1,A9,c9,by omega,by go_num,by rw [HLN.out],by rw [HLN.out]; exact HO9,HB9⟩
        case measure=>simp [intOf]; omega
       ·have HNX:=hide (busy_no (L:=L) hjc (i:=i) (by rw [hxe,hla]; exact hge))
        clear hpl hx hss hzs hoi hxe hla hm cz1 cz2 cq;go_wp2_with fail;go_roundw
        case rel=>exact ⟨j + 1,BA,bc,by omega,by go_num,by rw [HNX.out,HMM.out],by rw [HNX.out,HMM.out]; exact HBA,HB0⟩
        case measure=>simp [intOf]; omega
      ·obtain rfl : j = i:=by omega
       rw [busyTo_all] at HBA;rw [busyTo_all];have hbl:=busyTo_len f L j j;rw [busyTo_all] at hbl;obtain ⟨m,hm⟩ : ∃ m,(busyAt f L j).length = m:=⟨_,rfl⟩;rw [hm] at HBA hbl;rw [hm];have hjc:=HIC.out;obtain ⟨kc,hkc⟩ : ∃ kc,co f j = kc:=⟨_,rfl⟩;have hco:=co_at hjc;rw [hkc] at hco;have hk2 : kc < k:=by have h:=HFN.out; have:=hco.2.1; omega
       obtain ⟨ob,oo,x,rfl,hob,hx,ck⟩:=hoi.at_ j hjc;obtain rfl : x = (kc : Int):=by rw [hco.1] at hx; injection hx with h; exact h.symm
       obtain ⟨zb,zo,rfl,hzb,cz1,cz2⟩:=size_cells HFO.out hzs (k:=kc) hco.2.1;have har:=area_bd HFO.out (k:=kc) hco.2.1
       have hpc:=fun (W9 : World) (h9 : Below wr.heap.size wr W9)=>placeOf_ref BA m bc (busyAt f L j) (areaOf f kc) W9 hm (by omega) (Cells.keep HBA.out.cells h9) (by omega) (fun x hx=>by
        unfold busyAt at hx;obtain ⟨y,hy,rfl⟩:=List.mem_map.1 hx;obtain ⟨j9,g1,g2,rfl,-⟩:=mem_live.1 hy;obtain ⟨xk,g3,-,h2,h3,h4⟩:=HBD.out j9 g1;simp only [Int.toNat_natCast];rw [g3]
        omega)
       obtain ⟨pz,hpz⟩ : ∃ pz,placeOf (busyAt f L j) (areaOf f kc) = pz:=⟨_,rfl⟩;rw [hpz] at hpc;obtain ⟨sw,hsw⟩ : ∃ sw,(frSize f kc).W = sw:=⟨_,rfl⟩;obtain ⟨sh,hsh⟩ : ∃ sh,(frSize f kc).H = sh:=⟨_,rfl⟩;have hmul : sw * sh = areaOf f kc:=by rw [← hsw,← hsh]; rfl
       rw [hsw] at cz1;rw [hsh] at cz2
       have HPZ:=hide (show placesTo f (List.replicate k (-1)) (j + 1) = L.set kc pz from by
        simp only [placesTo]
        rw [HLE.out,hkc,hpz])
       obtain ⟨ar,hare⟩ : ∃ ar,areaOf f kc = ar:=⟨_,rfl⟩;rw [hare] at hpc har hmul;have hsc:=fun (W9 : World)=>area_is hmul (by omega) W9;have HPC:=hide hpc;have HSC9:=hide hsc;have hj0 : (0 : Int) ≤ (j : Int):=by omega
       have hj1 : (j : Int) < (ol : Int):=by omega
       have hk0' : (0 : Int) ≤ (kc : Int):=by omega
       have hk1' : (kc : Int) < (k : Int):=by omega
       have hqw:=HQW.out.keep HB0.out
       have cq : wr.cell? ⟨qb,kc,none⟩ = some (.int .i64 (L.getD kc 0)):=by
        rw [hqw.cell,List.getElem?_map,List.getElem?_eq_getElem (by omega),List.getD_eq_getElem?_getD,List.getElem?_eq_getElem (by omega)];rfl
       generalize L.getD kc 0 = u0 at cq;have HQW9:=hide hqw;have HCQ:=hide cq;have HKS:=hide (fun (x1 x2 : World) (hb : Below x1.heap.size x1 x2) (hs : x1.cell? ⟨qb + 1,0,none⟩ = some (.slice (some ⟨ob,oo,none⟩) ol oc) ∧ x1.cell? ⟨qb + 1,1,none⟩ = some (.slice (some ⟨qb,0,none⟩) k k) ∧ x1.cell? ⟨ob,oo + j,none⟩ = some (.int .i64 (kc : Int)) ∧ x1.cell? ⟨zb,zo + kc * 2,none⟩ = some (.int .i64 sw) ∧ x1.cell? ⟨zb,zo + kc * 2 + 1,none⟩ = some (.int .i64 sh))=>(show x2.cell? ⟨qb + 1,0,none⟩ = some (.slice (some ⟨ob,oo,none⟩) ol oc) ∧ x2.cell? ⟨qb + 1,1,none⟩ = some (.slice (some ⟨qb,0,none⟩) k k) ∧ x2.cell? ⟨ob,oo + j,none⟩ = some (.int .i64 (kc : Int)) ∧ x2.cell? ⟨zb,zo + kc * 2,none⟩ = some (.int .i64 sw) ∧ x2.cell? ⟨zb,zo + kc * 2 + 1,none⟩ = some (.int .i64 sh) from ⟨keepC hb hs.1,keepC hb hs.2.1,keepC hb hs.2.2.1,keepC hb hs.2.2.2.1,keepC hb hs.2.2.2.2⟩));have HS00:=hide (show wr.drew.cell? ⟨qb + 1,0,none⟩ = some (.slice (some ⟨ob,oo,none⟩) ol oc) ∧ wr.drew.cell? ⟨qb + 1,1,none⟩ = some (.slice (some ⟨qb,0,none⟩) k k) ∧ wr.drew.cell? ⟨ob,oo + j,none⟩ = some (.int .i64 (kc : Int)) ∧ wr.drew.cell? ⟨zb,zo + kc * 2,none⟩ = some (.int .i64 sw) ∧ wr.drew.cell? ⟨zb,zo + kc * 2 + 1,none⟩ = some (.int .i64 sh) from ⟨r0,r1,ck,cz1,cz2⟩);clear hbl hm har hpc hpz hare hsc hqw hpl v r0 r1 hss hzs hoi hx hob hzb cz1 cz2 ck hmul hsw hsh cq hco hkc hjc;go_upto_region 21 with fail
       have hS0:=HS00.out;refine wp_region_B (fun w' : World=>w'.cell? ⟨qb + 1,0,none⟩ = some (.slice (some ⟨ob,oo,none⟩) ol oc) ∧ w'.cell? ⟨qb + 1,1,none⟩ = some (.slice (some ⟨qb,0,none⟩) k k) ∧ w'.cell? ⟨ob,oo + j,none⟩ = some (.int .i64 (kc : Int)) ∧ w'.cell? ⟨zb,zo + kc * 2,none⟩ = some (.int .i64 sw) ∧ w'.cell? ⟨zb,zo + kc * 2 + 1,none⟩ = some (.int .i64 sh)) (fun i=>decide (i = 19)) (by kernel_rfl) ?_;refine AnyB.fr (i:=0) (.pointer (some ⟨qb + 1,1,none⟩)) rfl (by kernel_rfl) (fun w'=>?_) ?_
       ·go_simp
       try simp only [Act.put,lsa]
       refine AnyB.tk (i:=1) (.slice (some ⟨qb,0,none⟩) k k) rfl (by kernel_rfl) (fun w' hS'=>?_) hS0 ?_
       ·obtain ⟨e0,e1,e2,e3,e4⟩:=hS'
        go_simp
       try simp only [Act.put]
       refine AnyB.fr (i:=2) (.pointer (some ⟨qb + 1,0,none⟩)) rfl (by kernel_rfl) (fun w'=>?_) ?_
       ·go_simp
       try simp only [Act.put]
       refine AnyB.tk (i:=3) (.slice (some ⟨ob,oo,none⟩) ol oc) rfl (by kernel_rfl) (fun w' hS'=>?_) hS0 ?_
       ·obtain ⟨e0,e1,e2,e3,e4⟩:=hS'
        go_simp
       try simp only [Act.put]
       refine AnyB.fr (i:=4) (.int .i64 (j : Int)) rfl (by kernel_rfl) (fun w'=>?_) ?_
       ·go_simp
       try simp only [Act.put]
       refine AnyB.fr (i:=5) (.pointer (some ⟨ob,oo + j,none⟩)) rfl (by kernel_rfl) (fun w'=>?_) ?_
       ·go_simp
       try simp only [Act.put]
       refine AnyB.tk (i:=6) (.int .i64 (kc : Int)) rfl (by kernel_rfl) (fun w' hS'=>?_) hS0 ?_
       ·obtain ⟨e0,e1,e2,e3,e4⟩:=hS'
        go_simp
       try simp only [Act.put]
       refine AnyB.fr (i:=7) (.slice BA m bc) rfl (by kernel_rfl) (fun w'=>?_) ?_
       ·go_simp
       try simp only [Act.put]
       refine AnyB.fr (i:=8) (.slice (some ⟨zb,zo,none⟩) k zc) rfl (by kernel_rfl) (fun w'=>?_) ?_
       ·go_simp
       try simp only [Act.put]
       refine AnyB.fr (i:=9) (.pointer (some ⟨qb + 1,0,none⟩)) rfl (by kernel_rfl) (fun w'=>?_) ?_
       ·go_simp
       try simp only [Act.put]
       refine AnyB.tk (i:=10) (.slice (some ⟨ob,oo,none⟩) ol oc) rfl (by kernel_rfl) (fun w' hS'=>?_) hS0 ?_
       ·obtain ⟨e0,e1,e2,e3,e4⟩:=hS'
        go_simp
       try simp only [Act.put]
       refine AnyB.fr (i:=11) (.int .i64 (j : Int)) rfl (by kernel_rfl) (fun w'=>?_) ?_
       ·go_simp
       try simp only [Act.put]
       refine AnyB.fr (i:=12) (.pointer (some ⟨ob,oo + j,none⟩)) rfl (by kernel_rfl) (fun w'=>?_) ?_
       ·go_simp
       try simp only [Act.put]
       refine AnyB.tk (i:=13) (.int .i64 (kc : Int)) rfl (by kernel_rfl) (fun w' hS'=>?_) hS0 ?_
       ·obtain ⟨e0,e1,e2,e3,e4⟩:=hS'
        go_simp
       try simp only [Act.put]
       refine AnyB.fr (i:=14) (.pointer (some ⟨zb,zo + kc * 2,none⟩)) rfl (by kernel_rfl) (fun w'=>?_) ?_
       ·go_simp
       try simp only [Act.put]
       refine AnyB.tk (i:=15) (.agg #[.int .i64 sw,.int .i64 sh]) rfl (by kernel_rfl) (fun w' hS'=>?_) hS0 ?_
       ·obtain ⟨e0,e1,e2,e3,e4⟩:=hS'
        go_simp
       try simp only [Act.put]
       refine AnyB.one (i:=16) (by kernel_rfl) rfl (fun K hK=>?_)
       go_simp;go_at_call 62;refine ((unhide HSC9) _).mono ?_;rintro e w11 ⟨rfl,hE11⟩;have hb1 : Below wr.heap.size wr w11:=(Below.refl _ _).drew.trans hE11;refine hK.out _ _ (fun _ hs=>(unhide HKS) _ _ hE11 hs) ?_;clear hK K;try simp only [Act.put,lsa,lsz,lss]
       refine AnyB.one (i:=17) (by kernel_rfl) rfl (fun K hK=>?_)
       go_simp;go_at_call 48;refine ((unhide HPC) _ hb1).mono ?_;rintro e w12 ⟨rfl,hE12⟩;have hb12 : Below wr.heap.size wr w12:=hb1.trans (hE12.mono hb1.size);refine hK.out _ _ (fun _ hs=>(unhide HKS) _ _ hE12 hs) ?_;clear hK K;try simp only [Act.put,lsa,lsz,lss]
       refine AnyB.fr (i:=18) (.pointer (some ⟨qb,kc,none⟩)) rfl (by kernel_rfl) (fun w'=>?_) ?_
       ·go_simp
       try simp only [Act.put,lsa]
       have cq12 : w12.cell? ⟨qb,kc,none⟩ = some (.int .i64 u0):=keepC hb12 HCQ.out;have hq12:=HQW9.out.keep hb12;have fq12:=hq12.frozen kc;refine AnyB.one (i:=19) (by kernel_rfl) rfl (fun K hK=>?_)
       go_simp;refine hK.out _ _ (fun h _=>by cases h) ?_;clear hK K;try simp only [Act.put,lsa,lsz,lss]
       refine AnyB.done (by kernel_rfl) ?_;have hgz : w8.grownBy (w12.setCell ⟨qb,kc,none⟩ (.int .i64 pz)) (some qb):=grown_trB (grown_trB (grown_trB HGW.out (grown_ofB HB0.out _)) (grown_ofB hb12 _)) (grown_put w12 ⟨qb,kc,none⟩ _);have hqz9 : Blk (w12.setCell ⟨qb,kc,none⟩ (.int .i64 pz)) qb 3 ((placesTo f (List.replicate k (-1)) (j + 1)).map (.int .i64)):=by rw [HPZ.out,List.map_set]; exact hq12.set_ kc _
       have HGZ:=hide hgz;have HQZ:=hide hqz9;clear hgz hqz9 cq12 hq12 fq12 hb12 hb1 hE11 hE12 hS0;go_wp2_with fail;go_roundw
       case rel=>exact ⟨j + 1,by omega,by go_num,HQZ,HGZ⟩
       case measure=>simp [intOf]; omega
    ·obtain rfl : i = ol:=by omega
     have hw13:=HW13.out;have hqb0:=HQB.out;have hres:=(HRX3.out.later _ HBW8.out).but HGW.out (by have h1:=HB3.out.size; have h2:=HQB.out; have h3:=hrs; omega);obtain ⟨v',s0,s1⟩:=plan_box hres;have f0:=hres.frozen 0;have f1:=hres.frozen 1;have hol:=HOW8.out.butQ HGW.out (by omega);have hpl' : placesTo f (List.replicate k (-1)) i = (comp f).Places:=by rw [← HOL.out,← HFN.out]; rfl
     rw [hpl'] at HQW;have hqb1:=HB3.out.size;have hqb2:=HQB.out;have hbe:=HB3.out.trans ((HBW8.out.trans (below_of_grown HGW.out HBW8.out.size (by omega))).mono HB3.out.size);have HOF:=hide ((hol.far (p:=⟨w.heap.size + 1,0,none⟩) (by simp only; omega) (.slice OA i oc)).far (p:=⟨w.heap.size + 1,1,none⟩) (by simp only; omega) (.slice (some ⟨qb,0,none⟩) k k));have HQF:=hide ((HQW.out.far (p:=⟨w.heap.size + 1,0,none⟩) (by simp only; omega) (.slice OA i oc)).far (p:=⟨w.heap.size + 1,1,none⟩) (by simp only; omega) (.slice (some ⟨qb,0,none⟩) k k));have HBF:=hide ((hbe.setCell (p:=⟨w.heap.size + 1,0,none⟩) (by simp) (.slice OA i oc)).setCell (p:=⟨w.heap.size + 1,1,none⟩) (by simp) (.slice (some ⟨qb,0,none⟩) k k));have HRF:=hide ((hres.set_ 0 (.slice OA i oc)).set_ 1 (.slice (some ⟨qb,0,none⟩) k k));clear hres hol hpl' hbe hss hzs hpl hoi;go_wp2_with fail;obtain ⟨v9,t0,t1⟩:=plan_box HRF.out;refine bodyPost_ret (v:=.agg #[.slice OA i oc,.slice (some ⟨qb,0,none⟩) k k]) ?_ rfl ?_
     ·simp [results,Try.results51,go_sem,t0,t1]
     ·have hcp : (comp f).Places.length = k:=by show (placesTo f (List.replicate f.P.length (-1)) (compO f).length).length = k; rw [placesTo_len,List.length_replicate]; exact HFN.out
      exact ⟨OA,i,oc,some ⟨qb,0,none⟩,k,k,rfl,HOL.out,hcp,HOF.out.cells,HQF.out.cells,hoc,Nat.le_refl _,HBF.out⟩
end Go.Proofs.Ytibpmogmeoappab
