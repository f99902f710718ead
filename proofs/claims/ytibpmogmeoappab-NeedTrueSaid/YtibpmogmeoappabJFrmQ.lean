/- Walks: Images. -/
import Derived.Test.YtibpmogmeoappabJFrmO
import Derived.Test.YtibpmogmeoappabJFrmN
import Derived.Test.YtibpmogmeoappabJMem
set_option maxRecDepth 100000
set_option maxHeartbeats 8000000
namespace Go.Proofs.Ytibpmogmeoappab
open Go.RowKit
def takes (f : Frm) (k : Nat) : List Img:=(srcs f k).map (imgOf (frImgs f k))
theorem takes_a {f : Frm} {k : Nat} (h : hasA (f.pas k).Op = true) : (takes f k)[0]? = some (imgOf (frImgs f k) (writerTo f k (f.pas k).A)):=by
 unfold takes srcs; rw [if_pos h]; rfl
theorem takes_b {f : Frm} {k : Nat} (h : hasB (f.pas k).Op = true) (hA : hasA (f.pas k).Op = true) : (takes f k)[1]? = some (imgOf (frImgs f k) (writerTo f k (f.pas k).B)):=by
 unfold takes srcs; rw [if_pos hA,if_pos h]; rfl
theorem Spelt.withNew {α : Type} {E : Kind α} {w : World} {own : Option Nat} {xs : List α} {es : List Sp} {B0 : Nat} (h : Spelt E w own xs es) (hn : ∀ e ∈ es,e.2.2 ≠ [] → NewFrom B0 e.2.1) :
 Spelt (fun x cs B ds=>E x cs B ds ∧ (ds ≠ [] → NewFrom B0 B)) w own xs es :=
 ⟨h.1,fun i x e h1 h2=>⟨⟨(h.2 i x e h1 h2).1,hn e (List.mem_of_getElem? h2)⟩,(h.2 i x e h1 h2).2⟩⟩
def ImgsN (w : World) (A : Option Addr) (L : List Img) (B0 : Nat) : Prop :=
 ∀ (i : Nat) (x : Img),L[i]? = some x → ∃ b o B m d,A = some ⟨b,o,none⟩ ∧ b < w.heap.size ∧ w.cell? ⟨b,o + i * 3,none⟩ = some (.int .i64 x.W) ∧ w.cell? ⟨b,o + i * 3 + 1,none⟩ = some (.int .i64 x.H) ∧ w.cell? ⟨b,o + i * 3 + 2,none⟩ = some (.slice B m d) ∧ x.P.length = m ∧ Ints w B x.P ∧ (x.P.map (Value.int .i64) ≠ [] → NewFrom B0 B)
theorem GRow.imgsN {ty : TypeId} {w : World} {base n c B0 : Nat} {A : Option Addr} {M : List Img} {es : List Sp} (h : GRow ImgK 3 ty w base A n c M es) (hn : ∀ e ∈ es,e.2.2 ≠ [] → NewFrom B0 e.2.1) : ImgsN w A M B0:=by
 intro i x hx;have h' : GRow (fun x cs B ds=>ImgK x cs B ds ∧ (ds ≠ [] → NewFrom B0 B)) 3 ty w base A n c M es:=⟨h.own,h.spelt.withNew hn⟩;obtain ⟨b,o,cs,B,ds,h1,h2,⟨⟨m,d,rfl,h3,rfl⟩,h6⟩,h4,h5⟩:=h'.at_ (fun x cs B ds ⟨⟨m,d,e,_⟩,_⟩=>by rw [e]; rfl) hx (by omega);exact ⟨b,o,B,m,d,h1,h2,h5 0 (by omega),h5 1 (by omega),h5 2 (by omega),h3,h4,h6⟩
def RetImgs (w : World) (L : List Img) (e : Ending) (w' : World) : Prop:=∃ (A : Option Addr) (n c : Nat),e = .returned (.slice A n c) ∧ L.length = n ∧ ImgsN w' A L w.heap.size ∧ Below w.heap.size w w'
theorem images_ref (W H S O : Int) (PA : Option Addr) (n c : Nat) (ps : List Pas) (w : World) (hn : ps.length = n) (hP : Passes w PA ps) (hf0 : FrmOk ⟨W,H,S,O,ps⟩) :
 Calls Try.prog 70 #[.agg #[.int .i64 W,.int .i64 H,.int .i64 S,.int .i64 O,.slice PA n c]] w (RetImgs w (frImgs ⟨W,H,S,O,ps⟩ n)):=by
 have h12 : n ≤ 12:=by have:=hf0.many.2; simp only at this; omega
 obtain ⟨f,hf⟩ : ∃ f : Frm,f = ⟨W,H,S,O,ps⟩:=⟨_,rfl⟩;rw [← hf] at hf0 ⊢;have HOK:=hide hf0;have HFW:=hide (show f.W = W ∧ f.H = H ∧ f.P = ps from by rw [hf]; exact ⟨rfl,rfl,rfl⟩);have HF:=hide hf;have HN:=hide hn;have hb:=(Below.refl w.heap.size w).alloc (Nat.le_refl _) (.cells #[.int .i64 W,.int .i64 H,.int .i64 S,.int .i64 O,.slice PA n c] 24);have HS:=hide (sourcesOf_ref W H S O PA n c ps _ hn (hP.keep hb) h12);rw [← hf] at HS;have HP:=hide (Keeps.passes hP);have HB:=hide hb;have HBX:=hide (show FrmBox (w.alloc (.cells #[.int .i64 W,.int .i64 H,.int .i64 S,.int .i64 O,.slice PA n c] 24)) w.heap.size W H S O PA n c from Blk.new w 24 (frmCells W H S O PA n c));obtain ⟨i0,hi0,hz0,hz1,hz2⟩:=info_parts Try.infoImg;have HI0:=hide hi0;have HZ0:=hide hz0;have HZ1:=hide hz1;have HZ2:=hide hz2;clear hn hP hf hb hf0 hi0 hz0 hz1 hz2;go_enter Try.func70,Try.ntmps70
 go_wp2_with fail;refine (unhide HS).mono ?_;rintro e w1 ⟨SA,sn,sc,rfl,hsn,hSR,hE⟩;have hsn : sn = n:=by rw [← hsn]; simp [srcsTo]
 subst hsn;have HX1:=hide (Blk.keep HBX.out hE);have HB1:=hide (HB.out.trans (hE.mono HB.out.size));have HSR:=hide (Keeps.intRows hSR);have hw1:=hE.size;simp only [World.size_alloc] at hw1;clear hE hSR HBX HB HS hsn;obtain ⟨x,q0,q1,q2,q3,q4⟩:=FrmBox.cells HX1.out;go_wp2_with fail;go_loopw [4,5,6,7] (fun s i _ _ wr=>∃ (k : Nat) (A : Option Addr) (d : Nat) (es : List Sp),k ≤ sn ∧ i = .int .i64 k ∧ s = .slice A k d ∧ Hid (GRow ImgK 3 56 wr w1.heap.size A k d (frImgs f k) es) ∧ Hid (Below w1.heap.size w1 wr) ∧ Hid (∀ e ∈ es,e.2.2 ≠ [] → NewFrom w1.heap.size e.2.1)) (fun _ i _ _ _=>sn - (intOf i).toNat)
 case atStart=>exact ⟨0,none,0,[],Nat.zero_le _,rfl,rfl,hide (GRow.nil _ _ _ _ _),hide (Below.refl _ _),hide (fun e he=>by cases he)⟩
 case round =>
  obtain ⟨k,A,d,es,hk,rfl,rfl,HR,HBW,HNW⟩:=hrel;clear x q0 q1 q2 q3 q4;have HX2:=hide (Blk.keep HX1.out HBW.out);obtain ⟨x,q0,q1,q2,q3,q4⟩:=FrmBox.cells HX2.out;by_cases hlt : k < sn
  ·have hk0 : (0 : Int) ≤ (k : Int):=by omega
   have hk1 : (k : Int) < (sn : Int):=by omega
   obtain ⟨sb,so,RB,rm,rd,rfl,hsb,hsc,hrm,hRI⟩:=(HSR.out.later _ HBW.out) k (srcs f k) (by simp [srcsTo,hlt]);have hrm2 : rm ≤ 2:=by have:=srcs_len f k; omega
   have HRA:=hide (fun b (h : (Value.slice A k d).ownBlock = some b)=>(HR.out.own.lt h).2);have HIM:=hide (Keeps.imgs HR.out.imgs);have HRI:=hide (Keeps.ints hRI);have HSC:=hide (Keeps.cell hsc);have HRM:=hide hrm;have HLT:=hide hlt;clear hRI hrm;go_wp2_with fail;obtain ⟨wo,hwo⟩ : ∃ wo : World,wo = wr:=⟨_,rfl⟩;rw [← hwo];have HR0 : Hid (GRow ImgK 3 56 wo w1.heap.size A k d (frImgs f k) es):=hide (by rw [hwo]; exact HR.out);have HBW0 : Hid (Below w1.heap.size w1 wo):=hide (by rw [hwo]; exact HBW.out);rw [← hwo] at HIM HRI HSC HRA;clear q0 q1 q2 q3 q4 x HX2 HR HBW hsc;subst hwo;go_loopw [6,7] (fun s i wr=>∃ (j : Nat) (A' : Option Addr) (d' : Nat) (es' : List Sp),j ≤ rm ∧ i = .int .i64 j ∧ s = .slice A' j d' ∧ Hid (GRow ImgK 3 56 wr wo.heap.size A' j d' ((takes f k).take j) es') ∧ Hid (Below wo.heap.size wo wr)) (fun _ i _=>rm - (intOf i).toNat)
   case atStart=>exact ⟨0,none,0,[],Nat.zero_le _,rfl,rfl,hide (GRow.nil _ _ _ _ _),hide (Below.refl _ _)⟩
   case round =>
    obtain ⟨j,A',d',es',hj,rfl,rfl,HR',HB'⟩:=hrel;have hsc:=HSC.out.later _ HB'.out;by_cases hlt2 : j < rm
    ·have hj0 : (0 : Int) ≤ (j : Int):=by omega
     have hj1 : (j : Int) < (rm : Int):=by omega
     obtain ⟨rb,ro,v,rfl,hrb,hv,hrc⟩:=(HRI.out.later _ HB'.out).at_ j (by have:=HRM.out; omega);have hmem:=List.mem_of_getElem? hv;obtain ⟨v0,v1⟩:=HOK.out.src (by rw [HFW.out.2.2]; have:=HN.out; omega) hmem
     have hvx : (frImgs f k)[v.toNat]? = some (imgOf (frImgs f k) v):=by
      unfold imgOf;rw [if_neg (by omega),List.getD_eq_getElem?_getD,List.getElem?_eq_getElem (by rw [frImgs_len]; omega)];rfl
     obtain ⟨ib,io,IB,im,id',hia,hib,ic0,ic1,ic2,hil,hII⟩:=(HIM.out.later _ HB'.out) v.toNat _ hvx;subst hia;have hvk : v < (k : Int):=v1;have hTK : (takes f k)[j]? = some (imgOf (frImgs f k) v):=by unfold takes; rw [List.getElem?_map,hv]; rfl
     have HTK:=hide hTK;generalize hx : imgOf (frImgs f k) v = xi at *;have HIL:=hide hil;have HII:=hide hII
     have HIB:=hide (show ∀ a,IB = some a → xi.P.map (Value.int .i64) ≠ [] → a.block < wo.heap.size from fun a ha hne=>by
      obtain ⟨b2,o2,B2,m2,d2,h1,h2,h3,h4,h5,h6,h7⟩:=HIM.out.now v.toNat _ hvx;injection h1 with h1;injection h1 with e1 e2;subst e1 e2;have:=keepC HB'.out h5;rw [ic2] at this;injection this with this;injection this with e3 e4 e5;subst e3;obtain ⟨b3,o3,h8,h9,_⟩:=h7 0 (by rw [List.length_map]; exact List.length_pos_iff.2 (fun e=>hne (by rw [e]; rfl)));rw [ha] at h8;injection h8 with h8
      rw [h8]; exact h9)
     have hi0:=HI0.out;have hz0:=HZ0.out;have hz1:=HZ1.out;have hz2:=HZ2.out;have hs5:=HB'.out.size;clear hmem hvx hTK hil hII hv;go_wp2_with (at_builtin; go_loud (refine wpList_app1A wr wr.heap.size rfl rfl _ _ 111 rfl wo.heap.size 56 i0 _ 3 40 Try.underlying111 hi0 hz0 hz1 hz2 rfl (by omega) A' j d' _ [.int .i64 xi.W,.int .i64 xi.H,.slice IB im id'] rfl HR'.out.own rfl rfl (one_img _ _ _ _ _) (by omega) (by omega) hs5 ?_; intro A9 c9 w9 hown9 hg9 hat9))
     go_roundw
     case rel =>
      refine ⟨j + 1,A9,c9,es' ++ [([.int .i64 xi.W,.int .i64 xi.H,.slice IB im id'],IB,xi.P.map (.int .i64))],by omega,by go_num,rfl,?_,?_⟩
      ·rw [List.take_add_one,HTK.out]
       refine hide (HR'.out.app (x:=xi) ⟨im,id',rfl,HIL.out,rfl⟩ HII.out (fun hne a ha e=>?_) hown9 hg9 hat9);have h1:=HIB.out a ha hne;have h2:=(HR'.out.own.lt e).1;omega
      ·exact hide (Below.grownOwn (HB'.out.alloc HB'.out.size _) (HR'.out.own.alloc _) hg9 (by simp only [World.size_alloc]; omega) (Nat.le_refl _))
     case measure=>simp [intOf]; omega
    ·have hjr : j = rm:=by omega
     subst hjr;have hrl : j = (srcs f k).length:=HRM.out.symm;obtain ⟨x,q0,q1,q2,q3,q4⟩:=FrmBox.cells HX1.out;obtain ⟨b,o,LA,m,dd,p,rfl,hb,hp,c0,c1,c2,c3,c4,c5,hm,hL,hml⟩:=(HP.out.later _ HB1.out).at_ k (by have:=HN.out; omega);have hPK : f.pas k = p:=by unfold Frm.pas; rw [HFW.out.2.2]; exact hp
     have HBr:=hide (HBW0.out.trans (HB'.out.mono HBW0.out.size));have HKS:=hide (show Keeps w1 (fun w' : World=>w'.cell? ⟨w.heap.size,0,none⟩ = some (.int .i64 W) ∧ w'.cell? ⟨w.heap.size,1,none⟩ = some (.int .i64 H) ∧ w'.cell? ⟨w.heap.size,2,none⟩ = some (.int .i64 S) ∧ w'.cell? ⟨w.heap.size,3,none⟩ = some (.int .i64 O) ∧ w'.cell? ⟨w.heap.size,4,none⟩ = some (.slice (some ⟨b,o,none⟩) sn c) ∧ w'.cell? ⟨b,o + k * 6,none⟩ = some (.int .i64 p.Op) ∧ w'.cell? ⟨b,o + k * 6 + 1,none⟩ = some (.int .i64 p.To) ∧ w'.cell? ⟨b,o + k * 6 + 2,none⟩ = some (.int .i64 p.A) ∧ w'.cell? ⟨b,o + k * 6 + 3,none⟩ = some (.int .i64 p.B) ∧ w'.cell? ⟨b,o + k * 6 + 4,none⟩ = some (.int .i64 p.K) ∧ w'.cell? ⟨b,o + k * 6 + 5,none⟩ = some (.slice LA m dd)) from ⟨⟨q0,q1,q2,q3,q4,c0,c1,c2,c3,c4,c5⟩,fun _ hb=>⟨keepC hb q0,keepC hb q1,keepC hb q2,keepC hb q3,keepC hb q4,keepC hb c0,keepC hb c1,keepC hb c2,keepC hb c3,keepC hb c4,keepC hb c5⟩⟩);have hM:=frMade HOK.out (k:=k) (by rw [HFW.out.2.2]; have:=HN.out; omega);have hA0:=takes_a (f:=f) (k:=k);have hB0:=takes_b (f:=f) (k:=k);have hfr : frImg f k = passImg f.W f.H (f.pas k) (imgOf (frImgs f k) (writerTo f k (f.pas k).A)) (imgOf (frImgs f k) (writerTo f k (f.pas k).B)):=rfl;rw [hPK] at hM hA0 hB0 hfr;rw [HFW.out.1,HFW.out.2.1] at hM hfr;have HMD:=hide (fun (W0 : World) (h1 : Lamps W0 LA p.L) (h2 : Imgs W0 A' (takes f k))=>refMade_all W H S O (some ⟨b,o,none⟩) sn c p LA m dd A' j d' (takes f k) _ _ W0 h1 hm h2 (by unfold takes; rw [List.length_map,hrl]) hM hA0 (fun h=>hB0 h (hasA_of_B h)));rw [← hfr] at HMD;have HLD : Hid (Lamps wr.drew LA p.L):=hide (hL.keep HBr.out.drew)
     have HIMG : Hid (Imgs wr.drew A' (takes f k)):=hide (by
      have h:=HR'.out.imgs.keep (Below.refl _ _).drew;rw [List.take_of_length_le (by unfold takes; rw [List.length_map,hrl]; exact Nat.le_refl _)] at h
      exact h)
     have HR5:=hide (HR0.out.keep HB'.out);have y0:=keepC HBr.out q0;have y1:=keepC HBr.out q1;have y2:=keepC HBr.out q2;have y3:=keepC HBr.out q3;have y4:=keepC HBr.out q4;have d0:=keepC HBr.out c0;have d1:=keepC HBr.out c1;have d2:=keepC HBr.out c2;have d3:=keepC HBr.out c3;have d4:=keepC HBr.out c4;have d5:=keepC HBr.out c5;have hi0:=HI0.out;have hz0:=HZ0.out;have hz1:=HZ1.out;have hz2:=HZ2.out;have hkk : (k : Int) < (sn : Int):=hk1;clear hrl hp hPK hM hA0 hB0 hfr hm hL hml q0 q1 q2 q3 q4 c0 c1 c2 c3 c4 c5;go_wp2_with fail
     go_region_held3 (fun w' : World=>w'.cell? ⟨w.heap.size,0,none⟩ = some (.int .i64 W) ∧ w'.cell? ⟨w.heap.size,1,none⟩ = some (.int .i64 H) ∧ w'.cell? ⟨w.heap.size,2,none⟩ = some (.int .i64 S) ∧ w'.cell? ⟨w.heap.size,3,none⟩ = some (.int .i64 O) ∧ w'.cell? ⟨w.heap.size,4,none⟩ = some (.slice (some ⟨b,o,none⟩) sn c) ∧ w'.cell? ⟨b,o + k * 6,none⟩ = some (.int .i64 p.Op) ∧ w'.cell? ⟨b,o + k * 6 + 1,none⟩ = some (.int .i64 p.To) ∧ w'.cell? ⟨b,o + k * 6 + 2,none⟩ = some (.int .i64 p.A) ∧ w'.cell? ⟨b,o + k * 6 + 3,none⟩ = some (.int .i64 p.B) ∧ w'.cell? ⟨b,o + k * 6 + 4,none⟩ = some (.int .i64 p.K) ∧ w'.cell? ⟨b,o + k * 6 + 5,none⟩ = some (.slice LA m dd))
      (first | exact HKS.out.later _ hb9 | exact HKS.out.later _ hB2 | exact HKS.out.later _ (hB2.alloc hB2.size _) | exact HKS.out.later _ HBr.out.drew)
      (first
        | (go_simp; go_at_call 77; refine ((unhide HMD) _ HLD.out HIMG.out).mono ?_; rintro e w2 ⟨W1,H1,P1,A1,n1,c1,hr,hn1,rfl,hI1,hA1,hE2⟩; have hB2 : Below w1.heap.size w1 w2:=HBr.out.drew.trans (hE2.mono HBr.out.size))
        | (refine step_app1W _ _ (by rfl) _ _ 111 (by rfl) w1.heap.size 56 i0 _ 3 40 Try.underlying111 hi0 hz0 hz1 hz2 rfl (by omega) A k d _ [.int .i64 W1,.int .i64 H1,.slice A1 n1 c1] (by rfl) (Own.keep HR5.out.own (by refine Below.alloc ?_ hE2.size _; exact (Below.refl _ _).drew.trans hE2)) (by rfl) (by first | exact Blk.newE (by first | rfl | simp)) rfl (one_img _ _ _ _ _) (by omega) (by omega) (by have:=hB2.size; simp only [World.size_alloc]; omega) ?_; intro A9 c9 w9 hown9 hg9 hat9; have hb9 : Below w1.heap.size w1 w9:=Below.grownOwn (hB2.alloc hB2.size _) (Own.keep HR5.out.own (by refine Below.alloc ?_ hE2.size _; exact (Below.refl _ _).drew.trans hE2)) hg9 (by have:=hB2.size; simp only [World.size_alloc]; omega) (Nat.le_refl _)))
     go_wp2_with fail;go_roundw
     case rel =>
      refine ⟨k + 1,A9,c9,es ++ [([.int .i64 W1,.int .i64 H1,.slice A1 n1 c1],A1,P1.map (.int .i64))],by omega,by go_num,rfl,?_,hide hb9,?_⟩
      rotate_left
      ·refine hide (fun e he hd=>?_)
       rcases List.mem_append.1 he with he | he
       ·exact HNW.out e he hd
       ·rw [List.mem_singleton] at he
        subst he
        exact fun a ha=>by
         have h2 : wr.heap.size ≤ a.block:=hA1.new a ha;have h3:=HBr.out.size;omega
      rw [frImgs_succ,← hr];refine hide ((HR5.out.keep ((Below.refl _ _).drew.trans hE2)).app (x:=⟨W1,H1,P1⟩) ⟨n1,c1,rfl,hn1,rfl⟩ hI1 (fun _ a ha e=>?_) hown9 hg9 hat9);have h1:=HRA.out _ e;have h2 : wr.heap.size ≤ a.block:=hA1.new a ha;have h3:=HB'.out.size;omega
     case measure=>simp [intOf]; omega
  ·go_wp2_with fail
   go_ret;obtain rfl : k = sn:=by omega
   exact ⟨A,k,d,rfl,frImgs_len _ _,HR.out.imgsN (fun e he hd a ha=>Nat.le_trans (by omega) (HNW.out e he hd a ha)),HB1.out.trans (HBW.out.mono HB1.out.size)⟩
end Go.Proofs.Ytibpmogmeoappab
