/- Walks: SourcesOf. -/
import Derived.Test.YtibpmogmeoappabGreatJFrmC
import Derived.Test.YtibpmogmeoappabGreatJMem
import Derived.Deep.DeepCutAuto
set_option maxRecDepth 100000
set_option maxHeartbeats 4000000
namespace Go.Proofs.YtibpmogmeoappabGreat
open Go.RowKit
theorem Tryz.infoRow : (Tryz.prog.info? 25).map (fun i=>(i.zero,i.size,i.bytes)) = some (some (.slice none 0 0),1,24):=by kernel_rfl
theorem one_row (A : Option Addr) (n c : Nat) : ∀ u ∈ [Value.slice A n c],u.oneCell' = true:=by
 intro u hu;rw [List.mem_singleton] at hu;subst hu;rfl
def RetRows (w : World) (L : List (List Int)) (e : Ending) (w' : World) : Prop :=
 ∃ (A : Option Addr) (n c : Nat),e = .returned (.slice A n c) ∧ L.length = n ∧ IntRows w' A L ∧ Below w.heap.size w w'
theorem sourcesOf_ref (W H S O : Int) (PA : Option Addr) (n c : Nat) (ps : List Pas) (w : World) (hn : ps.length = n) (hP : Passes w PA ps) (h12 : n ≤ 12) :
 Calls Tryz.prog 35 #[.agg #[.int .i64 W,.int .i64 H,.int .i64 S,.int .i64 O,.slice PA n c]] w (RetRows w (srcsTo ⟨W,H,S,O,ps⟩ n)):=by
 obtain ⟨f,hf⟩ : ∃ f : Frm,f = ⟨W,H,S,O,ps⟩:=⟨_,rfl⟩;rw [← hf];have HF:=hide hf;have HFP : Hid (f.P = ps):=hide (by rw [hf]);have HN:=hide hn;have HP:=hide (Keeps.passes hP);have HB:=hide ((Below.refl w.heap.size w).alloc (Nat.le_refl _) (.cells #[.int .i64 W,.int .i64 H,.int .i64 S,.int .i64 O,.slice PA n c] 24));have HBX:=hide (show FrmBox (w.alloc (.cells #[.int .i64 W,.int .i64 H,.int .i64 S,.int .i64 O,.slice PA n c] 24)) w.heap.size W H S O PA n c from Blk.new w 24 (frmCells W H S O PA n c));obtain ⟨j0,hj0,jz0,jz1,jz2⟩:=info_parts Tryz.info3;obtain ⟨l0,hl0,lz0,lz1,lz2⟩:=info_parts Tryz.infoRow;have HJ0:=hide hj0;have KZ0:=hide jz0;have KZ1:=hide jz1;have KZ2:=hide jz2;have HL0:=hide hl0;have LZ0:=hide lz0;have LZ1:=hide lz1;have LZ2:=hide lz2;have HWR:=hide (fun (k : Nat) (s : Int) (W0 : World) (h1 : Passes W0 PA ps) (h2 : k ≤ n)=>writer_any W H S O PA n c ps k s W0 hn h1 (by omega) h2);clear hn hP hf hj0 jz0 jz1 jz2 hl0 lz0 lz1 lz2;go_enter Tryz.func35,Tryz.ntmps35
 go_wp2_with fail;go_loopw [3,4] (fun s i wr=>∃ (k : Nat) (A : Option Addr) (d : Nat) (es : List (List Value × Option Addr × List Value)),k ≤ n ∧ i = .int .i64 k ∧ s = .slice A k d ∧ Hid (GRow IntK 1 25 wr (w.heap.size + 1) A k d (srcsTo f k) es) ∧ Hid (FrmBox wr w.heap.size W H S O PA n c) ∧ Hid (Below w.heap.size w wr)) (fun _ i _=>n - (intOf i).toNat)
 case atStart=>exact ⟨0,none,0,[],Nat.zero_le _,rfl,rfl,hide (GRow.nil _ _ _ _ _),HBX,HB⟩
 case round =>
  obtain ⟨k,A,d,es,hk,rfl,rfl,HR,HX,HBe⟩:=hrel;clear HBX HB;obtain ⟨x,q0,q1,q2,q3,q4⟩:=FrmBox.cells HX.out;by_cases hlt : k < n
  ·have hk0 : (0 : Int) ≤ (k : Int):=by omega
   have hk1 : (k : Int) < (n : Int):=by omega
   obtain ⟨b,o,LA,m,dd,p,rfl,hb,hp,c0,c1,c2,c3,c4,c5,hm,hL,hml⟩:=(HP.out.later _ HBe.out).at_ k (by have:=HN.out; omega);have HPK : Hid (f.pas k = p):=hide (by unfold Frm.pas; rw [HFP.out]; exact hp);have HRA:=hide (fun b (h : (Value.slice A k d).ownBlock = some b)=>(HR.out.own.lt h).2);have hal : Below wr.heap.size wr (wr.alloc (.cells (passCells p LA m dd).toArray 72)):=(Below.refl _ _).alloc (Nat.le_refl _) _;have HR1:=hide (HR.out.keep hal);have HX1:=hide (Blk.keep HX.out hal);have HB1:=hide (HBe.out.trans (hal.mono HBe.out.size));have HPB:=hide (show PasBox (wr.alloc (.cells (passCells p LA m dd).toArray 72)) wr.heap.size p LA m dd from Blk.new wr 72 (passCells p LA m dd));have hs1 : w.heap.size + 1 ≤ wr.heap.size:=by omega
   clear hp hL hm hal;go_wp2_with fail;refine (has_any p.Op _).mono ?_;rintro e w1 ⟨rfl,he⟩;rw [← he];clear he w1;clear c0 c1 c2 c3 c4 c5 q0 q1 q2 q3 q4 x HR HX HBe;go_upto_if 31 with fail
   generalize hwl : (wr.alloc (.cells #[.int .i64 p.Op,.int .i64 p.To,.int .i64 p.A,.int .i64 p.B,.int .i64 p.K,.slice LA m dd] 72)) = wL at *;have HR2 : Hid (GRow IntK 1 25 wL (w.heap.size + 1) A k d (srcsTo f k) es):=hide (hwl ▸ HR1.out);have HX2 : Hid (FrmBox wL w.heap.size W H S O (some ⟨b,o,none⟩) n c):=hide (hwl ▸ HX1.out);have HB2 : Hid (Below w.heap.size w wL):=hide (hwl ▸ HB1.out);have HP2 : Hid (PasBox wL wr.heap.size p LA m dd):=hide (hwl ▸ HPB.out);have hs2 : wr.heap.size < wL.heap.size:=by rw [← hwl]; simp
   clear HR1 HX1 HB1 HPB hwl;go_cut [6,10] (fun s6 s10 wx=>∃ (A1 : Option Addr) (m1 d1 : Nat),s6 = .bool (hasA p.Op) ∧ s10 = .slice A1 m1 d1 ∧ Hid (Own wx wL.heap.size 3 1 A1 m1 d1 ((if hasA p.Op = true then [writerTo f k p.A] else []).map (.int .i64))) ∧ Hid (Below wL.heap.size wL wx))
   case first =>
    cases ha : hasA p.Op with
    | false =>
      go_wp2_with fail;go_meet
      exact ⟨none,0,0,by rw [ha],rfl,hide (by simpa [ha] using Own.nil wL wL.heap.size 3 1),hide (Below.refl _ _)⟩
    | true =>
      obtain ⟨x,q0,q1,q2,q3,q4⟩:=FrmBox.cells HX2.out;obtain ⟨y,y0,y1,y2,y3,y4,y5⟩:=PasBox.cells HP2.out;go_wp2_with fail;refine ((unhide HWR) k p.A _ (HP.out.later _ HB2.out) (by omega)).mono ?_;rw [← HF.out];rintro e w2 ⟨rfl,hE2⟩;have HE2:=hide hE2;have hs3:=hE2.size;have hj0:=HJ0.out;have jz0:=KZ0.out;have jz1:=KZ1.out;have jz2:=KZ2.out;clear hE2 q0 q1 q2 q3 q4 y0 y1 y2 y3 y4 y5;go_wp2_with (at_builtin; go_loud (refine wpList_app1 w2 rfl _ _ 25 rfl wL.heap.size 3 j0 _ 1 8 Tryz.underlying25 hj0 jz0 jz1 jz2 rfl (by omega) none 0 0 [] [.int .i64 (writerTo f k p.A)] rfl (Own.nil _ _ _ _) rfl rfl (one_int _) (by omega) (by omega) hs3 ?_; intro A9 c9 w9 hown9 hg9))
      go_meet
      exact ⟨A9,1,c9,by rw [ha],rfl,hide (by simpa [ha] using hown9),hide (Below.grownOwn (HE2.out.alloc hs3 _) ((Own.nil w2 wL.heap.size 3 1).alloc _) hg9 (Nat.le_trans hs3 (by simp)) (Nat.le_refl _))⟩
   case rest =>
    obtain ⟨A1,m1,d1,rfl,rfl,HO1,HB5⟩:=hcut;have hs5:=HB5.out.size;go_upto_if 40 with fail
    go_cut [7,10] (fun s7 s10 wx=>∃ (A1 : Option Addr) (m1 d1 : Nat),s7 = .bool (hasB p.Op) ∧ s10 = .slice A1 m1 d1 ∧ Hid (Own wx wL.heap.size 3 1 A1 m1 d1 ((srcs f k).map (.int .i64))) ∧ Hid (Below wL.heap.size wL wx))
    case first =>
     cases ha : hasB p.Op with
     | false =>
       go_wp2_with fail;go_meet
       exact ⟨A1,m1,d1,by rw [ha],rfl,hide (by have e : srcs f k = if hasA p.Op = true then [writerTo f k p.A] else []:=(by unfold srcs; rw [HPK.out]; simp [ha]); rw [e]; exact HO1.out),HB5⟩
     | true =>
       have hm1 : m1 ≤ 1:=by
        have:=HO1.out.len;rw [List.length_map] at this;split at this
        ·simp only [List.length_singleton] at this; omega
        ·simp only [List.length_nil] at this; omega
       obtain ⟨x,q0,q1,q2,q3,q4⟩:=FrmBox.cells (Blk.keep HX2.out HB5.out);obtain ⟨y,y0,y1,y2,y3,y4,y5⟩:=PasBox.cells (Blk.keep HP2.out HB5.out);go_wp2_with fail;refine ((unhide HWR) k p.B _ (HP.out.later _ (HB2.out.trans (HB5.out.mono HB2.out.size))) (by omega)).mono ?_;rw [← HF.out];rintro e w2 ⟨rfl,hE2⟩;have HE2:=hide hE2;have hs3:=hE2.size;have hs4 : wL.heap.size ≤ w2.heap.size:=by omega
       have hj0:=HJ0.out;have jz0:=KZ0.out;have jz1:=KZ1.out;have jz2:=KZ2.out;have HO2:=hide (HO1.out.keep hE2);clear hE2 q0 q1 q2 q3 q4 y0 y1 y2 y3 y4 y5;go_wp2_with (at_builtin; go_loud (refine wpList_app1 w2 rfl _ _ 25 rfl wL.heap.size 3 j0 _ 1 8 Tryz.underlying25 hj0 jz0 jz1 jz2 rfl (by omega) A1 m1 d1 _ [.int .i64 (writerTo f k p.B)] rfl HO2.out rfl rfl (one_int _) (by omega) (by omega) hs4 ?_; intro A9 c9 w9 hown9 hg9))
       go_meet
       exact ⟨A9,_,c9,by rw [ha],rfl,hide (by have e2 : (srcs f k).map (Value.int .i64) = (if hasA p.Op = true then [writerTo f k p.A] else []).map (Value.int .i64) ++ [.int .i64 (writerTo f k p.B)]:=(by unfold srcs; rw [HPK.out]; simp [ha]); rw [e2]; exact hown9),hide (Below.grownOwn ((HB5.out.trans (HE2.out.mono hs5)).alloc hs4 _) (HO2.out.alloc _) hg9 (Nat.le_trans hs4 (by simp)) (Nat.le_refl _))⟩
    case rest =>
     obtain ⟨A1,m1,d1,rfl,rfl,HO1,HB5⟩:=hcut;have hs6:=HB5.out.size;have HR5:=hide (HR2.out.keep HB5.out);have HX5:=hide (Blk.keep HX2.out HB5.out);have HBE:=hide (HB2.out.trans (HB5.out.mono HB2.out.size));have hlen1 : (srcs f k).length = m1:=by have:=HO1.out.len; rw [List.length_map] at this; omega
     have HLN:=hide hlen1;have hl0:=HL0.out;have lz0:=LZ0.out;have lz1:=LZ1.out;have lz2:=LZ2.out;have hk8 : k ≤ 1073741824:=by omega
     have hs7 : w.heap.size + 1 ≤ wc.heap.size:=by omega
     clear hlen1;go_wp2_with (at_builtin; go_loud (refine wpList_app1A wc wc.heap.size rfl rfl _ _ 63 rfl (w.heap.size + 1) 25 l0 _ 1 24 Tryz.underlying63 hl0 lz0 lz1 lz2 rfl (by omega) A k d _ [.slice A1 m1 d1] rfl HR5.out.own rfl rfl (one_row _ _ _) hk8 (by omega) hs7 ?_; intro A9 c9 w9 hown9 hg9 hat9))
     go_roundw
     case rel =>
      refine ⟨k + 1,A9,c9,es ++ [([.slice A1 m1 d1],A1,(srcs f k).map (.int .i64))],by omega,by go_num,rfl,?_,?_,?_⟩
      ·rw [srcsTo_succ]
       refine hide (HR5.out.app (x:=srcs f k) (news:=[.slice A1 m1 d1]) (B:=A1) (ds:=(srcs f k).map (.int .i64)) ⟨m1,d1,rfl,HLN.out,rfl⟩ HO1.out.cells (fun _ a ha e=>?_) hown9 hg9 hat9);have h1:=HRA.out _ e;have h2:=HO1.out.new a ha;omega
      ·exact hide ((HX5.out.alloc _).grown (HR5.out.own.alloc _) hg9 (by omega))
      ·exact hide (Below.grownOwn (HBE.out.alloc HBE.out.size _) (HR5.out.own.alloc _) hg9 (by simp only [World.size_alloc]; omega) (by omega))
     case measure=>simp [intOf]; omega
  ·go_wp2_with fail
   go_ret;obtain rfl : k = n:=by omega
   exact ⟨A,k,d,rfl,by simp [srcsTo],HR.out.intRows,HBe.out⟩
end Go.Proofs.YtibpmogmeoappabGreat
