/- Walks: the references of One: OneSize, OneOf. (The six cases are printed by gen_oneof.py.) -/
import Derived.Test.YtibpmogmeoappabGreatJImgA
set_option maxRecDepth 100000
set_option maxHeartbeats 600000
namespace Go.Proofs.YtibpmogmeoappabGreat
open Go.RowKit
theorem oneSize_ref (op cw ch : Int) (w : World) (hw1 : 0 ≤ cw) (hw2 : cw ≤ 16) (hh1 : 0 ≤ ch) (hh2 : ch ≤ 16) :
 Calls Tryz.prog 64 #[.int .i64 op,.int .i64 cw,.int .i64 ch] w fun e w'=>e = .returned (.tuple #[.int .i64 (sizeW op cw),.int .i64 (sizeW op ch)]) ∧ w = w':=by
 by_cases h1 : op = 11
 ·subst h1
  go_enter Tryz.func64,Tryz.ntmps64
  go_wp2
  go_ret2;exact ⟨rfl,rfl⟩
 ·by_cases h2 : op = 12
  ·subst h2
   go_enter Tryz.func64,Tryz.ntmps64
   go_wp2
   go_ret2;exact ⟨rfl,rfl⟩
  ·have e1 : (op == 11) = false:=by simpa using h1
   have e2 : (op == 12) = false:=by simpa using h2
   have e3 : sizeW op cw = cw:=by unfold sizeW; rw [if_neg h1,if_neg h2]
   have e4 : sizeW op ch = ch:=by unfold sizeW; rw [if_neg h1,if_neg h2]
   rw [e3,e4];clear e3 e4;go_enter Tryz.func64,Tryz.ntmps64
   go_wp2
   go_ret2;exact ⟨rfl,rfl⟩
theorem oneErr_ops {op : Int} {a : Img} {k : Int} (h : oneErr op a k = 0) :
 op = 3 ∨ (op = 8 ∧ 0 ≤ k ∧ k ≤ 65535) ∨ (op = 9 ∧ -16 ≤ k ∧ k ≤ 16) ∨ op = 10 ∨ (op = 11 ∧ a.W % 2 = 0 ∧ a.H % 2 = 0) ∨ (op = 12 ∧ 2 * a.W ≤ 16 ∧ 2 * a.H ≤ 16):=by
 unfold oneErr at h;split at h
 ·omega
 ·split at h
  ·split at h <;> omega
  ·split at h
   ·split at h <;> omega
   ·split at h
    ·split at h <;> omega
    ·split at h
     ·split at h <;> omega
     ·omega
theorem oneOf_start (w : World) (W H SW SH : Int) (A : Option Addr) (n c : Nat) :
 (∀ b ∈ [(w.heap.size, 29, [Value.int .i64 W, .int .i64 H, .slice A n c]), (w.heap.size + 1, 29, [Value.int .i64 0, .int .i64 0, .slice none 0 0])],
   Blk (((w.alloc (.cells #[.int .i64 W,.int .i64 H,.slice A n c] 29)).alloc (.cells #[.int .i64 0,.int .i64 0,.slice none 0 0] 29)).alloc (.cells #[.int .i64 SW,.int .i64 SH,.slice none 0 0] 29)) b.1 b.2.1 b.2.2 ∧ b.1 < w.heap.size + 3 ∧ b.1 ≠ w.heap.size + 2) ∧
 Blk (((w.alloc (.cells #[.int .i64 W,.int .i64 H,.slice A n c] 29)).alloc (.cells #[.int .i64 0,.int .i64 0,.slice none 0 0] 29)).alloc (.cells #[.int .i64 SW,.int .i64 SH,.slice none 0 0] 29)) (w.heap.size + 2) 29 [.int .i64 SW,.int .i64 SH,.slice none 0 0] ∧
 Below w.heap.size w (((w.alloc (.cells #[.int .i64 W,.int .i64 H,.slice A n c] 29)).alloc (.cells #[.int .i64 0,.int .i64 0,.slice none 0 0] 29)).alloc (.cells #[.int .i64 SW,.int .i64 SH,.slice none 0 0] 29)):=by
 have b0:=Blk.new w 29 [Value.int .i64 W,.int .i64 H,.slice A n c];have b1:=Blk.new (w.alloc (.cells #[.int .i64 W,.int .i64 H,.slice A n c] 29)) 29 [Value.int .i64 0,.int .i64 0,.slice none 0 0];have b2:=Blk.new ((w.alloc (.cells #[.int .i64 W,.int .i64 H,.slice A n c] 29)).alloc (.cells #[.int .i64 0,.int .i64 0,.slice none 0 0] 29)) 29 [Value.int .i64 SW,.int .i64 SH,.slice none 0 0];simp only [World.size_alloc] at b1 b2;refine ⟨?_,b2,?_⟩
 ·intro b hb
  simp only [List.mem_cons,List.not_mem_nil,or_false] at hb;rcases hb with rfl | rfl
  ·exact ⟨(b0.alloc _).alloc _,by simp,by simp⟩
  ·exact ⟨b1.alloc _,by simp,by simp⟩
 ·exact ((((Below.refl _ _).alloc (Nat.le_refl _) _).alloc (by simp) _).alloc (by simp; omega) _)
theorem oneOf3 (W H : Int) (A : Option Addr) (n c : Nat) (P : List Int) (k : Int) (w : World) (hF : Img.Fine ⟨W,H,P⟩) (hn : P.length = n) (hI : Ints w A P) :
 Calls Tryz.prog 60 #[.int .i64 3,.agg #[.int .i64 W,.int .i64 H,.slice A n c],.int .i64 k] w (RetImg w (drawn W H (onePix 3 ⟨W,H,P⟩ k))):=by
 obtain ⟨i0,hi0,hz0,hz1,hz2⟩:=info_parts Tryz.info3;obtain ⟨⟨d1,d2⟩,⟨d3,d4⟩,_⟩:=id hF;simp only at d1 d2 d3 d4;have HF:=hide hF;have HN:=hide hn;have HI:=hide hI;have hsz : ∀ W0 : World,Calls Tryz.prog 64 #[.int .i64 3,.int .i64 W,.int .i64 H] W0 fun e w'=>e = .returned (.tuple #[.int .i64 W,.int .i64 H]) ∧ W0 = w':=fun W0=>oneSize_ref 3 W H W0 (by omega) d2 (by omega) d4;have HSZ:=hide hsz;clear hF hn hI hsz;go_enter Tryz.func60,Tryz.ntmps60
 go_wp2_with (go_at_call 64; refine ((unhide HSZ) _).mono ?_; rintro e w' ⟨rfl,rfl⟩)
 go_loopw [8] (fun j wr=>∃ (y : Int) (A' : Option Addr) (n' c' : Nat),0 ≤ y ∧ y ≤ H ∧ j = .int .i64 y ∧ GridRel w W H (onePix 3 ⟨W,H,P⟩ k) (w.heap.size + 2) (w.heap.size + 3) [(w.heap.size,29,[.int .i64 W,.int .i64 H,.slice A n c]),(w.heap.size + 1,29,[.int .i64 0,.int .i64 0,.slice none 0 0])] y 0 A' n' c' wr)
  (fun j _=>(H - intOf j).toNat)
 case atStart =>
  have HB:=oneOf_start w W H W H A n c;exact ⟨0,none,0,0,by omega,by omega,rfl,GridRel.start HB.2.1 (by omega) (by omega) (by simp) HB.1 HB.2.2⟩
 case round =>
  obtain ⟨y,A',n',c',hy0,hy1,rfl,hG⟩:=hrel;obtain ⟨t0,t1,t2,t3,t4⟩:=hG.cells;have HG:=hide hG;clear hG;by_cases hlt : y < H
  ·go_wp2_with fail
   obtain ⟨wo,rfl⟩ : ∃ wo : World,wo = wr:=⟨_,rfl⟩
   go_loopw [9] (fun i wr=>∃ (x : Int) (A' : Option Addr) (n' c' : Nat),0 ≤ x ∧ x ≤ W ∧ i = .int .i64 x ∧ GridRel w W H (onePix 3 ⟨W,H,P⟩ k) (w.heap.size + 2) (w.heap.size + 3) [(w.heap.size,29,[.int .i64 W,.int .i64 H,.slice A n c]),(w.heap.size + 1,29,[.int .i64 0,.int .i64 0,.slice none 0 0])] y x A' n' c' wr)
    (fun i _=>(W - intOf i).toNat)
   case atStart=>exact ⟨0,A',n',c',by omega,by omega,rfl,HG.out⟩
   case round =>
    obtain ⟨x,A',n',c',hx0,hx1,rfl,hG⟩:=hrel;clear HG t0 t1 t2 t3 t4;have HG:=hide hG;have hle:=gridPart_le (W:=W) (onePix 3 ⟨W,H,P⟩ k) (y:=y) (x:=x) (by omega) (by omega) (by omega);have hn : n' ≤ 1073741824:=by rw [hG.len]; omega
    have hs:=hG.size;have hW0:=hG.below;obtain ⟨t0,t1,t2,t3,t4⟩:=hG.cells;have hba:=hG.others (w.heap.size,29,[.int .i64 W,.int .i64 H,.slice A n c]) (by simp);obtain ⟨q0,q1,q2,q3⟩:=ImgBox.cells hba.1;simp only at q0 q1 q2 q3;clear hG hle hba;by_cases hli : x < W
    ·have hcall : ∀ W0 : World,Below w.heap.size w W0 → Calls Tryz.prog 88 #[.agg #[.int .i64 W,.int .i64 H,.slice A n c],.int .i64 (x),.int .i64 (y)] W0 fun e w'=>e = .returned (.int .i64 (Img.at_ ⟨W,H,P⟩ (x) (y))) ∧ Below W0.heap.size W0 w' :=
      fun W0 hb=>at_ref W H A n c P (x) (y) W0 HF.out HN.out (HI.out.keep hb) (by omega) (by omega) (by omega) (by omega)
     have hpix : onePix 3 ⟨W,H,P⟩ k x y = Img.at_ ⟨W,H,P⟩ x y:=rfl;generalize Img.at_ ⟨W,H,P⟩ x y = v at *;have HC:=hide hcall;have HP:=hide hpix;clear hcall hpix;go_wp2_with fail;refine ((unhide HC) wr hW0).mono ?_;rintro e w1 ⟨rfl,hE⟩;have HG1:=hide (HG.out.keep hE);have hs1:=HG1.out.size;obtain ⟨g0,g1,g2,g3,g4⟩:=HG1.out.cells;go_wp2_with (at_builtin; refine wpList_app1 w1 rfl _ _ 25 rfl (w.heap.size + 3) 3 i0 _ 1 8 Tryz.underlying25 hi0 hz0 hz1 hz2 rfl (by omega) A' n' c' _ [.int .i64 v] rfl HG1.out.own rfl rfl (one_int _) hn (by omega) hs1 ?_; intro A1 c1 wz hown1 hg1; obtain ⟨p0,p1,p2⟩:=HG1.out.midCells hg1)
     go_roundw
     case rel=>exact ⟨x + 1,A1,n' + 1,c1,by omega,by omega,by go_num,HG1.out.step hx0 hg1 (by rw [HP.out]; exact hown1)⟩
     case measure=>simp [intOf]; omega
    ·go_wp2_with fail
     go_roundw
     case rel=>exact ⟨y + 1,A',n',c',by omega,by omega,by go_num,HG.out.row hy0 (by omega)⟩
     case measure=>simp [intOf]; omega
  ·have hy : y = H:=by omega
   have hGE:=HG.out;rw [hy] at hGE;have HGE:=hide hGE;clear hGE hy;have hR:=(HG.out.others (w.heap.size + 1,29,[.int .i64 0,.int .i64 0,.slice none 0 0]) (by simp)).1;have r0 : wr.cell? ⟨w.heap.size + 1,0,none⟩ = some (.int .i64 0):=by rw [hR.cell]; rfl
   have r1' : wr.cell? ⟨w.heap.size + 1,1,none⟩ = some (.int .i64 0):=by rw [hR.cell]; rfl
   have r2' : wr.cell? ⟨w.heap.size + 1,2,none⟩ = some (.slice none 0 0):=by rw [hR.cell]; rfl
   have f0:=hR.frozen 0;have f1:=hR.frozen 1;have f2:=hR.frozen 2;simp only at f0 f1 f2;clear hR;go_wp2_with fail;refine bodyPost_ret (v:=.agg #[.int .i64 W,.int .i64 H,.slice A' n' c']) (by simp [results,Tryz.results60,go_sem,r0,r1',r2']) rfl ?_;exact HGE.out.done (u:=[.int .i64 0,.int .i64 0,.slice none 0 0]) (by simp) (by omega)
theorem oneOf8 (W H : Int) (A : Option Addr) (n c : Nat) (P : List Int) (k : Int) (w : World) (hF : Img.Fine ⟨W,H,P⟩) (hn : P.length = n) (hI : Ints w A P) (_k1 : 0 ≤ k) (_k2 : k ≤ 65535) :
 Calls Tryz.prog 60 #[.int .i64 8,.agg #[.int .i64 W,.int .i64 H,.slice A n c],.int .i64 k] w (RetImg w (drawn W H (onePix 8 ⟨W,H,P⟩ k))):=by
 obtain ⟨i0,hi0,hz0,hz1,hz2⟩:=info_parts Tryz.info3;obtain ⟨⟨d1,d2⟩,⟨d3,d4⟩,_⟩:=id hF;simp only at d1 d2 d3 d4;have HF:=hide hF;have HN:=hide hn;have HI:=hide hI;have hsz : ∀ W0 : World,Calls Tryz.prog 64 #[.int .i64 8,.int .i64 W,.int .i64 H] W0 fun e w'=>e = .returned (.tuple #[.int .i64 W,.int .i64 H]) ∧ W0 = w':=fun W0=>oneSize_ref 8 W H W0 (by omega) d2 (by omega) d4;have HSZ:=hide hsz;clear hF hn hI hsz;go_enter Tryz.func60,Tryz.ntmps60
 go_wp2_with (go_at_call 64; refine ((unhide HSZ) _).mono ?_; rintro e w' ⟨rfl,rfl⟩)
 go_loopw [8] (fun j wr=>∃ (y : Int) (A' : Option Addr) (n' c' : Nat),0 ≤ y ∧ y ≤ H ∧ j = .int .i64 y ∧ GridRel w W H (onePix 8 ⟨W,H,P⟩ k) (w.heap.size + 2) (w.heap.size + 3) [(w.heap.size,29,[.int .i64 W,.int .i64 H,.slice A n c]),(w.heap.size + 1,29,[.int .i64 0,.int .i64 0,.slice none 0 0])] y 0 A' n' c' wr)
  (fun j _=>(H - intOf j).toNat)
 case atStart =>
  have HB:=oneOf_start w W H W H A n c;exact ⟨0,none,0,0,by omega,by omega,rfl,GridRel.start HB.2.1 (by omega) (by omega) (by simp) HB.1 HB.2.2⟩
 case round =>
  obtain ⟨y,A',n',c',hy0,hy1,rfl,hG⟩:=hrel;obtain ⟨t0,t1,t2,t3,t4⟩:=hG.cells;have HG:=hide hG;clear hG;by_cases hlt : y < H
  ·go_wp2_with fail
   obtain ⟨wo,rfl⟩ : ∃ wo : World,wo = wr:=⟨_,rfl⟩
   go_loopw [9] (fun i wr=>∃ (x : Int) (A' : Option Addr) (n' c' : Nat),0 ≤ x ∧ x ≤ W ∧ i = .int .i64 x ∧ GridRel w W H (onePix 8 ⟨W,H,P⟩ k) (w.heap.size + 2) (w.heap.size + 3) [(w.heap.size,29,[.int .i64 W,.int .i64 H,.slice A n c]),(w.heap.size + 1,29,[.int .i64 0,.int .i64 0,.slice none 0 0])] y x A' n' c' wr)
    (fun i _=>(W - intOf i).toNat)
   case atStart=>exact ⟨0,A',n',c',by omega,by omega,rfl,HG.out⟩
   case round =>
    obtain ⟨x,A',n',c',hx0,hx1,rfl,hG⟩:=hrel;clear HG t0 t1 t2 t3 t4;have HG:=hide hG;have hle:=gridPart_le (W:=W) (onePix 8 ⟨W,H,P⟩ k) (y:=y) (x:=x) (by omega) (by omega) (by omega);have hn : n' ≤ 1073741824:=by rw [hG.len]; omega
    have hs:=hG.size;have hW0:=hG.below;obtain ⟨t0,t1,t2,t3,t4⟩:=hG.cells;have hba:=hG.others (w.heap.size,29,[.int .i64 W,.int .i64 H,.slice A n c]) (by simp);obtain ⟨q0,q1,q2,q3⟩:=ImgBox.cells hba.1;simp only at q0 q1 q2 q3;clear hG hle hba;by_cases hli : x < W
    ·have hcall : ∀ W0 : World,Below w.heap.size w W0 → Calls Tryz.prog 88 #[.agg #[.int .i64 W,.int .i64 H,.slice A n c],.int .i64 (x),.int .i64 (y)] W0 fun e w'=>e = .returned (.int .i64 (Img.at_ ⟨W,H,P⟩ (x) (y))) ∧ Below W0.heap.size W0 w' :=
      fun W0 hb=>at_ref W H A n c P (x) (y) W0 HF.out HN.out (HI.out.keep hb) (by omega) (by omega) (by omega) (by omega)
     have hpix : onePix 8 ⟨W,H,P⟩ k x y = if k ≤ Img.at_ ⟨W,H,P⟩ x y then Img.at_ ⟨W,H,P⟩ x y else 0:=rfl;generalize Img.at_ ⟨W,H,P⟩ x y = v at *;have HC:=hide hcall;have HP:=hide hpix;clear hcall hpix;by_cases hkv : k ≤ v
     ·rw [if_pos hkv] at HP
      go_wp2_with fail;refine ((unhide HC) wr hW0).mono ?_;rintro e wa ⟨rfl,hEa⟩;have HGa:=hide (HG.out.keep hEa);have hs1a:=HGa.out.size;obtain ⟨g0,g1,g2,g3,g4⟩:=HGa.out.cells;have hWa:=HGa.out.below;have hba:=HGa.out.others (w.heap.size,29,[.int .i64 W,.int .i64 H,.slice A n c]) (by simp);obtain ⟨b0,b1,b2,b3⟩:=ImgBox.cells hba.1;simp only at b0 b1 b2 b3;clear hba;go_wp2_with fail;refine ((unhide HC) wa hWa).mono ?_;rintro e w1 ⟨rfl,hE⟩;have HG1:=hide (HGa.out.keep hE);have hs1:=HG1.out.size;obtain ⟨g0,g1,g2,g3,g4⟩:=HG1.out.cells;go_wp2_with (at_builtin; refine wpList_app1 w1 rfl _ _ 25 rfl (w.heap.size + 3) 3 i0 _ 1 8 Tryz.underlying25 hi0 hz0 hz1 hz2 rfl (by omega) A' n' c' _ [.int .i64 v] rfl HG1.out.own rfl rfl (one_int _) hn (by omega) hs1 ?_; intro A1 c1 wz hown1 hg1; obtain ⟨p0,p1,p2⟩:=HG1.out.midCells hg1)
      go_roundw
      case rel=>exact ⟨x + 1,A1,n' + 1,c1,by omega,by omega,by go_num,HG1.out.step hx0 hg1 (by rw [HP.out]; exact hown1)⟩
      case measure=>simp [intOf]; omega
     ·rw [if_neg hkv] at HP
      go_wp2_with fail;refine ((unhide HC) wr hW0).mono ?_;rintro e w1 ⟨rfl,hE⟩;have HG1:=hide (HG.out.keep hE);have hs1:=HG1.out.size;obtain ⟨g0,g1,g2,g3,g4⟩:=HG1.out.cells;go_wp2_with (at_builtin; refine wpList_app1 w1 rfl _ _ 25 rfl (w.heap.size + 3) 3 i0 _ 1 8 Tryz.underlying25 hi0 hz0 hz1 hz2 rfl (by omega) A' n' c' _ [.int .i64 0] rfl HG1.out.own rfl rfl (one_int _) hn (by omega) hs1 ?_; intro A1 c1 wz hown1 hg1; obtain ⟨p0,p1,p2⟩:=HG1.out.midCells hg1)
      go_roundw
      case rel=>exact ⟨x + 1,A1,n' + 1,c1,by omega,by omega,by go_num,HG1.out.step hx0 hg1 (by rw [HP.out]; exact hown1)⟩
      case measure=>simp [intOf]; omega
    ·go_wp2_with fail
     go_roundw
     case rel=>exact ⟨y + 1,A',n',c',by omega,by omega,by go_num,HG.out.row hy0 (by omega)⟩
     case measure=>simp [intOf]; omega
  ·have hy : y = H:=by omega
   have hGE:=HG.out;rw [hy] at hGE;have HGE:=hide hGE;clear hGE hy;have hR:=(HG.out.others (w.heap.size + 1,29,[.int .i64 0,.int .i64 0,.slice none 0 0]) (by simp)).1;have r0 : wr.cell? ⟨w.heap.size + 1,0,none⟩ = some (.int .i64 0):=by rw [hR.cell]; rfl
   have r1' : wr.cell? ⟨w.heap.size + 1,1,none⟩ = some (.int .i64 0):=by rw [hR.cell]; rfl
   have r2' : wr.cell? ⟨w.heap.size + 1,2,none⟩ = some (.slice none 0 0):=by rw [hR.cell]; rfl
   have f0:=hR.frozen 0;have f1:=hR.frozen 1;have f2:=hR.frozen 2;simp only at f0 f1 f2;clear hR;go_wp2_with fail;refine bodyPost_ret (v:=.agg #[.int .i64 W,.int .i64 H,.slice A' n' c']) (by simp [results,Tryz.results60,go_sem,r0,r1',r2']) rfl ?_;exact HGE.out.done (u:=[.int .i64 0,.int .i64 0,.slice none 0 0]) (by simp) (by omega)
theorem oneOf9 (W H : Int) (A : Option Addr) (n c : Nat) (P : List Int) (k : Int) (w : World) (hF : Img.Fine ⟨W,H,P⟩) (hn : P.length = n) (hI : Ints w A P) (k1 : -16 ≤ k) (k2 : k ≤ 16) :
 Calls Tryz.prog 60 #[.int .i64 9,.agg #[.int .i64 W,.int .i64 H,.slice A n c],.int .i64 k] w (RetImg w (drawn W H (onePix 9 ⟨W,H,P⟩ k))):=by
 obtain ⟨i0,hi0,hz0,hz1,hz2⟩:=info_parts Tryz.info3;obtain ⟨⟨d1,d2⟩,⟨d3,d4⟩,_⟩:=id hF;simp only at d1 d2 d3 d4;have HF:=hide hF;have HN:=hide hn;have HI:=hide hI;have hsz : ∀ W0 : World,Calls Tryz.prog 64 #[.int .i64 9,.int .i64 W,.int .i64 H] W0 fun e w'=>e = .returned (.tuple #[.int .i64 W,.int .i64 H]) ∧ W0 = w':=fun W0=>oneSize_ref 9 W H W0 (by omega) d2 (by omega) d4;have HSZ:=hide hsz;clear hF hn hI hsz;go_enter Tryz.func60,Tryz.ntmps60
 go_wp2_with (go_at_call 64; refine ((unhide HSZ) _).mono ?_; rintro e w' ⟨rfl,rfl⟩)
 go_loopw [8] (fun j wr=>∃ (y : Int) (A' : Option Addr) (n' c' : Nat),0 ≤ y ∧ y ≤ H ∧ j = .int .i64 y ∧ GridRel w W H (onePix 9 ⟨W,H,P⟩ k) (w.heap.size + 2) (w.heap.size + 3) [(w.heap.size,29,[.int .i64 W,.int .i64 H,.slice A n c]),(w.heap.size + 1,29,[.int .i64 0,.int .i64 0,.slice none 0 0])] y 0 A' n' c' wr)
  (fun j _=>(H - intOf j).toNat)
 case atStart =>
  have HB:=oneOf_start w W H W H A n c;exact ⟨0,none,0,0,by omega,by omega,rfl,GridRel.start HB.2.1 (by omega) (by omega) (by simp) HB.1 HB.2.2⟩
 case round =>
  obtain ⟨y,A',n',c',hy0,hy1,rfl,hG⟩:=hrel;obtain ⟨t0,t1,t2,t3,t4⟩:=hG.cells;have HG:=hide hG;clear hG;by_cases hlt : y < H
  ·go_wp2_with fail
   obtain ⟨wo,rfl⟩ : ∃ wo : World,wo = wr:=⟨_,rfl⟩
   go_loopw [9] (fun i wr=>∃ (x : Int) (A' : Option Addr) (n' c' : Nat),0 ≤ x ∧ x ≤ W ∧ i = .int .i64 x ∧ GridRel w W H (onePix 9 ⟨W,H,P⟩ k) (w.heap.size + 2) (w.heap.size + 3) [(w.heap.size,29,[.int .i64 W,.int .i64 H,.slice A n c]),(w.heap.size + 1,29,[.int .i64 0,.int .i64 0,.slice none 0 0])] y x A' n' c' wr)
    (fun i _=>(W - intOf i).toNat)
   case atStart=>exact ⟨0,A',n',c',by omega,by omega,rfl,HG.out⟩
   case round =>
    obtain ⟨x,A',n',c',hx0,hx1,rfl,hG⟩:=hrel;clear HG t0 t1 t2 t3 t4;have HG:=hide hG;have hle:=gridPart_le (W:=W) (onePix 9 ⟨W,H,P⟩ k) (y:=y) (x:=x) (by omega) (by omega) (by omega);have hn : n' ≤ 1073741824:=by rw [hG.len]; omega
    have hs:=hG.size;have hW0:=hG.below;obtain ⟨t0,t1,t2,t3,t4⟩:=hG.cells;have hba:=hG.others (w.heap.size,29,[.int .i64 W,.int .i64 H,.slice A n c]) (by simp);obtain ⟨q0,q1,q2,q3⟩:=ImgBox.cells hba.1;simp only at q0 q1 q2 q3;clear hG hle hba;by_cases hli : x < W
    ·obtain ⟨u,hu⟩ : ∃ u,u = max 0 (min (W - 1) (x - k)):=⟨_,rfl⟩
     have hu0 : 0 ≤ u:=by omega
     have hu1 : u < W:=by omega
     have hcall : ∀ W0 : World,Below w.heap.size w W0 → Calls Tryz.prog 88 #[.agg #[.int .i64 W,.int .i64 H,.slice A n c],.int .i64 (u),.int .i64 (y)] W0 fun e w'=>e = .returned (.int .i64 (Img.at_ ⟨W,H,P⟩ (u) (y))) ∧ Below W0.heap.size W0 w' :=
      fun W0 hb=>at_ref W H A n c P (u) (y) W0 HF.out HN.out (HI.out.keep hb) (by omega) (by omega) (by omega) (by omega)
     have hpix : onePix 9 ⟨W,H,P⟩ k x y = Img.at_ ⟨W,H,P⟩ u y:=by rw [hu]; rfl
     generalize Img.at_ ⟨W,H,P⟩ u y = v at *;have HC:=hide hcall;have HP:=hide hpix;clear hcall hpix;have hmin : (if x - k < W - 1 then x - k else W - 1) = min (W - 1) (x - k):=by omega
     have hmax : (if 0 < min (W - 1) (x - k) then min (W - 1) (x - k) else 0) = u:=by omega
     clear hu;go_wp2_with fail;refine ((unhide HC) wr hW0).mono ?_;rintro e w1 ⟨rfl,hE⟩;have HG1:=hide (HG.out.keep hE);have hs1:=HG1.out.size;obtain ⟨g0,g1,g2,g3,g4⟩:=HG1.out.cells;go_wp2_with (at_builtin; refine wpList_app1 w1 rfl _ _ 25 rfl (w.heap.size + 3) 3 i0 _ 1 8 Tryz.underlying25 hi0 hz0 hz1 hz2 rfl (by omega) A' n' c' _ [.int .i64 v] rfl HG1.out.own rfl rfl (one_int _) hn (by omega) hs1 ?_; intro A1 c1 wz hown1 hg1; obtain ⟨p0,p1,p2⟩:=HG1.out.midCells hg1)
     go_roundw
     case rel=>exact ⟨x + 1,A1,n' + 1,c1,by omega,by omega,by go_num,HG1.out.step hx0 hg1 (by rw [HP.out]; exact hown1)⟩
     case measure=>simp [intOf]; omega
    ·go_wp2_with fail
     go_roundw
     case rel=>exact ⟨y + 1,A',n',c',by omega,by omega,by go_num,HG.out.row hy0 (by omega)⟩
     case measure=>simp [intOf]; omega
  ·have hy : y = H:=by omega
   have hGE:=HG.out;rw [hy] at hGE;have HGE:=hide hGE;clear hGE hy;have hR:=(HG.out.others (w.heap.size + 1,29,[.int .i64 0,.int .i64 0,.slice none 0 0]) (by simp)).1;have r0 : wr.cell? ⟨w.heap.size + 1,0,none⟩ = some (.int .i64 0):=by rw [hR.cell]; rfl
   have r1' : wr.cell? ⟨w.heap.size + 1,1,none⟩ = some (.int .i64 0):=by rw [hR.cell]; rfl
   have r2' : wr.cell? ⟨w.heap.size + 1,2,none⟩ = some (.slice none 0 0):=by rw [hR.cell]; rfl
   have f0:=hR.frozen 0;have f1:=hR.frozen 1;have f2:=hR.frozen 2;simp only at f0 f1 f2;clear hR;go_wp2_with fail;refine bodyPost_ret (v:=.agg #[.int .i64 W,.int .i64 H,.slice A' n' c']) (by simp [results,Tryz.results60,go_sem,r0,r1',r2']) rfl ?_;exact HGE.out.done (u:=[.int .i64 0,.int .i64 0,.slice none 0 0]) (by simp) (by omega)
theorem oneOf10 (W H : Int) (A : Option Addr) (n c : Nat) (P : List Int) (k : Int) (w : World) (hF : Img.Fine ⟨W,H,P⟩) (hn : P.length = n) (hI : Ints w A P) :
 Calls Tryz.prog 60 #[.int .i64 10,.agg #[.int .i64 W,.int .i64 H,.slice A n c],.int .i64 k] w (RetImg w (drawn W H (onePix 10 ⟨W,H,P⟩ k))):=by
 obtain ⟨i0,hi0,hz0,hz1,hz2⟩:=info_parts Tryz.info3;obtain ⟨⟨d1,d2⟩,⟨d3,d4⟩,_⟩:=id hF;simp only at d1 d2 d3 d4;have HF:=hide hF;have HN:=hide hn;have HI:=hide hI;have hsz : ∀ W0 : World,Calls Tryz.prog 64 #[.int .i64 10,.int .i64 W,.int .i64 H] W0 fun e w'=>e = .returned (.tuple #[.int .i64 W,.int .i64 H]) ∧ W0 = w':=fun W0=>oneSize_ref 10 W H W0 (by omega) d2 (by omega) d4;have HSZ:=hide hsz;clear hF hn hI hsz;go_enter Tryz.func60,Tryz.ntmps60
 go_wp2_with (go_at_call 64; refine ((unhide HSZ) _).mono ?_; rintro e w' ⟨rfl,rfl⟩)
 go_loopw [8] (fun j wr=>∃ (y : Int) (A' : Option Addr) (n' c' : Nat),0 ≤ y ∧ y ≤ H ∧ j = .int .i64 y ∧ GridRel w W H (onePix 10 ⟨W,H,P⟩ k) (w.heap.size + 2) (w.heap.size + 3) [(w.heap.size,29,[.int .i64 W,.int .i64 H,.slice A n c]),(w.heap.size + 1,29,[.int .i64 0,.int .i64 0,.slice none 0 0])] y 0 A' n' c' wr)
  (fun j _=>(H - intOf j).toNat)
 case atStart =>
  have HB:=oneOf_start w W H W H A n c;exact ⟨0,none,0,0,by omega,by omega,rfl,GridRel.start HB.2.1 (by omega) (by omega) (by simp) HB.1 HB.2.2⟩
 case round =>
  obtain ⟨y,A',n',c',hy0,hy1,rfl,hG⟩:=hrel;obtain ⟨t0,t1,t2,t3,t4⟩:=hG.cells;have HG:=hide hG;clear hG;by_cases hlt : y < H
  ·go_wp2_with fail
   obtain ⟨wo,rfl⟩ : ∃ wo : World,wo = wr:=⟨_,rfl⟩
   go_loopw [9] (fun i wr=>∃ (x : Int) (A' : Option Addr) (n' c' : Nat),0 ≤ x ∧ x ≤ W ∧ i = .int .i64 x ∧ GridRel w W H (onePix 10 ⟨W,H,P⟩ k) (w.heap.size + 2) (w.heap.size + 3) [(w.heap.size,29,[.int .i64 W,.int .i64 H,.slice A n c]),(w.heap.size + 1,29,[.int .i64 0,.int .i64 0,.slice none 0 0])] y x A' n' c' wr)
    (fun i _=>(W - intOf i).toNat)
   case atStart=>exact ⟨0,A',n',c',by omega,by omega,rfl,HG.out⟩
   case round =>
    obtain ⟨x,A',n',c',hx0,hx1,rfl,hG⟩:=hrel;clear HG t0 t1 t2 t3 t4;have HG:=hide hG;have hle:=gridPart_le (W:=W) (onePix 10 ⟨W,H,P⟩ k) (y:=y) (x:=x) (by omega) (by omega) (by omega);have hn : n' ≤ 1073741824:=by rw [hG.len]; omega
    have hs:=hG.size;have hW0:=hG.below;obtain ⟨t0,t1,t2,t3,t4⟩:=hG.cells;have hba:=hG.others (w.heap.size,29,[.int .i64 W,.int .i64 H,.slice A n c]) (by simp);obtain ⟨q0,q1,q2,q3⟩:=ImgBox.cells hba.1;simp only at q0 q1 q2 q3;clear hG hle hba;by_cases hli : x < W
    ·have hcall : ∀ W0 : World,Below w.heap.size w W0 → Calls Tryz.prog 90 #[.agg #[.int .i64 W,.int .i64 H,.slice A n c],.int .i64 (x - 1),.int .i64 (y - 1),.int .i64 (x + 1),.int .i64 (y + 1)] W0 fun e w'=>e = .returned (.int .i64 (mean ⟨W,H,P⟩ (x - 1) (y - 1) (x + 1) (y + 1))) ∧ Below W0.heap.size W0 w' :=
      fun W0 hb=>mean_any W H A n c P (x - 1) (y - 1) (x + 1) (y + 1) W0 HF.out HN.out (HI.out.keep hb) (by omega) (by omega) (by omega) (by omega) (by omega) (by omega)
     have hpix : onePix 10 ⟨W,H,P⟩ k x y = mean ⟨W,H,P⟩ (x - 1) (y - 1) (x + 1) (y + 1):=rfl;generalize mean ⟨W,H,P⟩ (x - 1) (y - 1) (x + 1) (y + 1) = v at *;have HC:=hide hcall;have HP:=hide hpix;clear hcall hpix;go_wp2_with fail;refine ((unhide HC) wr hW0).mono ?_;rintro e w1 ⟨rfl,hE⟩;have HG1:=hide (HG.out.keep hE);have hs1:=HG1.out.size;obtain ⟨g0,g1,g2,g3,g4⟩:=HG1.out.cells;go_wp2_with (at_builtin; refine wpList_app1 w1 rfl _ _ 25 rfl (w.heap.size + 3) 3 i0 _ 1 8 Tryz.underlying25 hi0 hz0 hz1 hz2 rfl (by omega) A' n' c' _ [.int .i64 v] rfl HG1.out.own rfl rfl (one_int _) hn (by omega) hs1 ?_; intro A1 c1 wz hown1 hg1; obtain ⟨p0,p1,p2⟩:=HG1.out.midCells hg1)
     go_roundw
     case rel=>exact ⟨x + 1,A1,n' + 1,c1,by omega,by omega,by go_num,HG1.out.step hx0 hg1 (by rw [HP.out]; exact hown1)⟩
     case measure=>simp [intOf]; omega
    ·go_wp2_with fail
     go_roundw
     case rel=>exact ⟨y + 1,A',n',c',by omega,by omega,by go_num,HG.out.row hy0 (by omega)⟩
     case measure=>simp [intOf]; omega
  ·have hy : y = H:=by omega
   have hGE:=HG.out;rw [hy] at hGE;have HGE:=hide hGE;clear hGE hy;have hR:=(HG.out.others (w.heap.size + 1,29,[.int .i64 0,.int .i64 0,.slice none 0 0]) (by simp)).1;have r0 : wr.cell? ⟨w.heap.size + 1,0,none⟩ = some (.int .i64 0):=by rw [hR.cell]; rfl
   have r1' : wr.cell? ⟨w.heap.size + 1,1,none⟩ = some (.int .i64 0):=by rw [hR.cell]; rfl
   have r2' : wr.cell? ⟨w.heap.size + 1,2,none⟩ = some (.slice none 0 0):=by rw [hR.cell]; rfl
   have f0:=hR.frozen 0;have f1:=hR.frozen 1;have f2:=hR.frozen 2;simp only at f0 f1 f2;clear hR;go_wp2_with fail;refine bodyPost_ret (v:=.agg #[.int .i64 W,.int .i64 H,.slice A' n' c']) (by simp [results,Tryz.results60,go_sem,r0,r1',r2']) rfl ?_;exact HGE.out.done (u:=[.int .i64 0,.int .i64 0,.slice none 0 0]) (by simp) (by omega)
theorem oneOf11 (W H : Int) (A : Option Addr) (n c : Nat) (P : List Int) (k : Int) (w : World) (hF : Img.Fine ⟨W,H,P⟩) (hn : P.length = n) (hI : Ints w A P) (k1 : W % 2 = 0) (k2 : H % 2 = 0) :
 Calls Tryz.prog 60 #[.int .i64 11,.agg #[.int .i64 W,.int .i64 H,.slice A n c],.int .i64 k] w (RetImg w (drawn (W / 2) (H / 2) (onePix 11 ⟨W,H,P⟩ k))):=by
 obtain ⟨i0,hi0,hz0,hz1,hz2⟩:=info_parts Tryz.info3;obtain ⟨⟨d1,d2⟩,⟨d3,d4⟩,_⟩:=id hF;simp only at d1 d2 d3 d4;have HF:=hide hF;have HN:=hide hn;have HI:=hide hI;have hsz : ∀ W0 : World,Calls Tryz.prog 64 #[.int .i64 11,.int .i64 W,.int .i64 H] W0 fun e w'=>e = .returned (.tuple #[.int .i64 (W / 2),.int .i64 (H / 2)]) ∧ W0 = w':=fun W0=>oneSize_ref 11 W H W0 (by omega) d2 (by omega) d4;have HSZ:=hide hsz;clear hF hn hI hsz;go_enter Tryz.func60,Tryz.ntmps60
 go_wp2_with (go_at_call 64; refine ((unhide HSZ) _).mono ?_; rintro e w' ⟨rfl,rfl⟩)
 go_loopw [8] (fun j wr=>∃ (y : Int) (A' : Option Addr) (n' c' : Nat),0 ≤ y ∧ y ≤ (H / 2) ∧ j = .int .i64 y ∧ GridRel w (W / 2) (H / 2) (onePix 11 ⟨W,H,P⟩ k) (w.heap.size + 2) (w.heap.size + 3) [(w.heap.size,29,[.int .i64 W,.int .i64 H,.slice A n c]),(w.heap.size + 1,29,[.int .i64 0,.int .i64 0,.slice none 0 0])] y 0 A' n' c' wr)
  (fun j _=>((H / 2) - intOf j).toNat)
 case atStart =>
  have HB:=oneOf_start w W H (W / 2) (H / 2) A n c;exact ⟨0,none,0,0,by omega,by omega,rfl,GridRel.start HB.2.1 (by omega) (by omega) (by simp) HB.1 HB.2.2⟩
 case round =>
  obtain ⟨y,A',n',c',hy0,hy1,rfl,hG⟩:=hrel;obtain ⟨t0,t1,t2,t3,t4⟩:=hG.cells;have HG:=hide hG;clear hG;by_cases hlt : y < (H / 2)
  ·go_wp2_with fail
   obtain ⟨wo,rfl⟩ : ∃ wo : World,wo = wr:=⟨_,rfl⟩
   go_loopw [9] (fun i wr=>∃ (x : Int) (A' : Option Addr) (n' c' : Nat),0 ≤ x ∧ x ≤ (W / 2) ∧ i = .int .i64 x ∧ GridRel w (W / 2) (H / 2) (onePix 11 ⟨W,H,P⟩ k) (w.heap.size + 2) (w.heap.size + 3) [(w.heap.size,29,[.int .i64 W,.int .i64 H,.slice A n c]),(w.heap.size + 1,29,[.int .i64 0,.int .i64 0,.slice none 0 0])] y x A' n' c' wr)
    (fun i _=>((W / 2) - intOf i).toNat)
   case atStart=>exact ⟨0,A',n',c',by omega,by omega,rfl,HG.out⟩
   case round =>
    obtain ⟨x,A',n',c',hx0,hx1,rfl,hG⟩:=hrel;clear HG t0 t1 t2 t3 t4;have HG:=hide hG;have hle:=gridPart_le (W:=(W / 2)) (onePix 11 ⟨W,H,P⟩ k) (y:=y) (x:=x) (by omega) (by omega) (by omega);have hn : n' ≤ 1073741824:=by rw [hG.len]; omega
    have hs:=hG.size;have hW0:=hG.below;obtain ⟨t0,t1,t2,t3,t4⟩:=hG.cells;have hba:=hG.others (w.heap.size,29,[.int .i64 W,.int .i64 H,.slice A n c]) (by simp);obtain ⟨q0,q1,q2,q3⟩:=ImgBox.cells hba.1;simp only at q0 q1 q2 q3;clear hG hle hba;by_cases hli : x < (W / 2)
    ·have hcall : ∀ W0 : World,Below w.heap.size w W0 → Calls Tryz.prog 90 #[.agg #[.int .i64 W,.int .i64 H,.slice A n c],.int .i64 (2 * x),.int .i64 (2 * y),.int .i64 (2 * x + 1),.int .i64 (2 * y + 1)] W0 fun e w'=>e = .returned (.int .i64 (mean ⟨W,H,P⟩ (2 * x) (2 * y) (2 * x + 1) (2 * y + 1))) ∧ Below W0.heap.size W0 w' :=
      fun W0 hb=>mean_any W H A n c P (2 * x) (2 * y) (2 * x + 1) (2 * y + 1) W0 HF.out HN.out (HI.out.keep hb) (by omega) (by omega) (by omega) (by omega) (by omega) (by omega)
     have hpix : onePix 11 ⟨W,H,P⟩ k x y = mean ⟨W,H,P⟩ (2 * x) (2 * y) (2 * x + 1) (2 * y + 1):=rfl;generalize mean ⟨W,H,P⟩ (2 * x) (2 * y) (2 * x + 1) (2 * y + 1) = v at *;have HC:=hide hcall;have HP:=hide hpix;clear hcall hpix;go_wp2_with fail;refine ((unhide HC) wr hW0).mono ?_;rintro e w1 ⟨rfl,hE⟩;have HG1:=hide (HG.out.keep hE);have hs1:=HG1.out.size;obtain ⟨g0,g1,g2,g3,g4⟩:=HG1.out.cells;go_wp2_with (at_builtin; refine wpList_app1 w1 rfl _ _ 25 rfl (w.heap.size + 3) 3 i0 _ 1 8 Tryz.underlying25 hi0 hz0 hz1 hz2 rfl (by omega) A' n' c' _ [.int .i64 v] rfl HG1.out.own rfl rfl (one_int _) hn (by omega) hs1 ?_; intro A1 c1 wz hown1 hg1; obtain ⟨p0,p1,p2⟩:=HG1.out.midCells hg1)
     go_roundw
     case rel=>exact ⟨x + 1,A1,n' + 1,c1,by omega,by omega,by go_num,HG1.out.step hx0 hg1 (by rw [HP.out]; exact hown1)⟩
     case measure=>simp [intOf]; omega
    ·go_wp2_with fail
     go_roundw
     case rel=>exact ⟨y + 1,A',n',c',by omega,by omega,by go_num,HG.out.row hy0 (by omega)⟩
     case measure=>simp [intOf]; omega
  ·have hy : y = (H / 2):=by omega
   have hGE:=HG.out;rw [hy] at hGE;have HGE:=hide hGE;clear hGE hy;have hR:=(HG.out.others (w.heap.size + 1,29,[.int .i64 0,.int .i64 0,.slice none 0 0]) (by simp)).1;have r0 : wr.cell? ⟨w.heap.size + 1,0,none⟩ = some (.int .i64 0):=by rw [hR.cell]; rfl
   have r1' : wr.cell? ⟨w.heap.size + 1,1,none⟩ = some (.int .i64 0):=by rw [hR.cell]; rfl
   have r2' : wr.cell? ⟨w.heap.size + 1,2,none⟩ = some (.slice none 0 0):=by rw [hR.cell]; rfl
   have f0:=hR.frozen 0;have f1:=hR.frozen 1;have f2:=hR.frozen 2;simp only at f0 f1 f2;clear hR;go_wp2_with fail;refine bodyPost_ret (v:=.agg #[.int .i64 (W / 2),.int .i64 (H / 2),.slice A' n' c']) (by simp [results,Tryz.results60,go_sem,r0,r1',r2']) rfl ?_;exact HGE.out.done (u:=[.int .i64 0,.int .i64 0,.slice none 0 0]) (by simp) (by omega)
theorem oneOf12 (W H : Int) (A : Option Addr) (n c : Nat) (P : List Int) (k : Int) (w : World) (hF : Img.Fine ⟨W,H,P⟩) (hn : P.length = n) (hI : Ints w A P) (k1 : 2 * W ≤ 16) (k2 : 2 * H ≤ 16) :
 Calls Tryz.prog 60 #[.int .i64 12,.agg #[.int .i64 W,.int .i64 H,.slice A n c],.int .i64 k] w (RetImg w (drawn (2 * W) (2 * H) (onePix 12 ⟨W,H,P⟩ k))):=by
 obtain ⟨i0,hi0,hz0,hz1,hz2⟩:=info_parts Tryz.info3;obtain ⟨⟨d1,d2⟩,⟨d3,d4⟩,_⟩:=id hF;simp only at d1 d2 d3 d4;have HF:=hide hF;have HN:=hide hn;have HI:=hide hI;have hsz : ∀ W0 : World,Calls Tryz.prog 64 #[.int .i64 12,.int .i64 W,.int .i64 H] W0 fun e w'=>e = .returned (.tuple #[.int .i64 (2 * W),.int .i64 (2 * H)]) ∧ W0 = w':=fun W0=>oneSize_ref 12 W H W0 (by omega) d2 (by omega) d4;have HSZ:=hide hsz;clear hF hn hI hsz;go_enter Tryz.func60,Tryz.ntmps60
 go_wp2_with (go_at_call 64; refine ((unhide HSZ) _).mono ?_; rintro e w' ⟨rfl,rfl⟩)
 go_loopw [8] (fun j wr=>∃ (y : Int) (A' : Option Addr) (n' c' : Nat),0 ≤ y ∧ y ≤ (2 * H) ∧ j = .int .i64 y ∧ GridRel w (2 * W) (2 * H) (onePix 12 ⟨W,H,P⟩ k) (w.heap.size + 2) (w.heap.size + 3) [(w.heap.size,29,[.int .i64 W,.int .i64 H,.slice A n c]),(w.heap.size + 1,29,[.int .i64 0,.int .i64 0,.slice none 0 0])] y 0 A' n' c' wr)
  (fun j _=>((2 * H) - intOf j).toNat)
 case atStart =>
  have HB:=oneOf_start w W H (2 * W) (2 * H) A n c;exact ⟨0,none,0,0,by omega,by omega,rfl,GridRel.start HB.2.1 (by omega) (by omega) (by simp) HB.1 HB.2.2⟩
 case round =>
  obtain ⟨y,A',n',c',hy0,hy1,rfl,hG⟩:=hrel;obtain ⟨t0,t1,t2,t3,t4⟩:=hG.cells;have HG:=hide hG;clear hG;by_cases hlt : y < (2 * H)
  ·go_wp2_with fail
   obtain ⟨wo,rfl⟩ : ∃ wo : World,wo = wr:=⟨_,rfl⟩
   go_loopw [9] (fun i wr=>∃ (x : Int) (A' : Option Addr) (n' c' : Nat),0 ≤ x ∧ x ≤ (2 * W) ∧ i = .int .i64 x ∧ GridRel w (2 * W) (2 * H) (onePix 12 ⟨W,H,P⟩ k) (w.heap.size + 2) (w.heap.size + 3) [(w.heap.size,29,[.int .i64 W,.int .i64 H,.slice A n c]),(w.heap.size + 1,29,[.int .i64 0,.int .i64 0,.slice none 0 0])] y x A' n' c' wr)
    (fun i _=>((2 * W) - intOf i).toNat)
   case atStart=>exact ⟨0,A',n',c',by omega,by omega,rfl,HG.out⟩
   case round =>
    obtain ⟨x,A',n',c',hx0,hx1,rfl,hG⟩:=hrel;clear HG t0 t1 t2 t3 t4;have HG:=hide hG;have hle:=gridPart_le (W:=(2 * W)) (onePix 12 ⟨W,H,P⟩ k) (y:=y) (x:=x) (by omega) (by omega) (by omega);have hn : n' ≤ 1073741824:=by rw [hG.len]; omega
    have hs:=hG.size;have hW0:=hG.below;obtain ⟨t0,t1,t2,t3,t4⟩:=hG.cells;have hba:=hG.others (w.heap.size,29,[.int .i64 W,.int .i64 H,.slice A n c]) (by simp);obtain ⟨q0,q1,q2,q3⟩:=ImgBox.cells hba.1;simp only at q0 q1 q2 q3;clear hG hle hba;by_cases hli : x < (2 * W)
    ·have hcall : ∀ W0 : World,Below w.heap.size w W0 → Calls Tryz.prog 88 #[.agg #[.int .i64 W,.int .i64 H,.slice A n c],.int .i64 (x / 2),.int .i64 (y / 2)] W0 fun e w'=>e = .returned (.int .i64 (Img.at_ ⟨W,H,P⟩ (x / 2) (y / 2))) ∧ Below W0.heap.size W0 w' :=
      fun W0 hb=>at_ref W H A n c P (x / 2) (y / 2) W0 HF.out HN.out (HI.out.keep hb) (by omega) (by omega) (by omega) (by omega)
     have hpix : onePix 12 ⟨W,H,P⟩ k x y = Img.at_ ⟨W,H,P⟩ (x / 2) (y / 2):=rfl;generalize Img.at_ ⟨W,H,P⟩ (x / 2) (y / 2) = v at *;have HC:=hide hcall;have HP:=hide hpix;clear hcall hpix;go_wp2_with fail;refine ((unhide HC) wr hW0).mono ?_;rintro e w1 ⟨rfl,hE⟩;have HG1:=hide (HG.out.keep hE);have hs1:=HG1.out.size;obtain ⟨g0,g1,g2,g3,g4⟩:=HG1.out.cells;go_wp2_with (at_builtin; refine wpList_app1 w1 rfl _ _ 25 rfl (w.heap.size + 3) 3 i0 _ 1 8 Tryz.underlying25 hi0 hz0 hz1 hz2 rfl (by omega) A' n' c' _ [.int .i64 v] rfl HG1.out.own rfl rfl (one_int _) hn (by omega) hs1 ?_; intro A1 c1 wz hown1 hg1; obtain ⟨p0,p1,p2⟩:=HG1.out.midCells hg1)
     go_roundw
     case rel=>exact ⟨x + 1,A1,n' + 1,c1,by omega,by omega,by go_num,HG1.out.step hx0 hg1 (by rw [HP.out]; exact hown1)⟩
     case measure=>simp [intOf]; omega
    ·go_wp2_with fail
     go_roundw
     case rel=>exact ⟨y + 1,A',n',c',by omega,by omega,by go_num,HG.out.row hy0 (by omega)⟩
     case measure=>simp [intOf]; omega
  ·have hy : y = (2 * H):=by omega
   have hGE:=HG.out;rw [hy] at hGE;have HGE:=hide hGE;clear hGE hy;have hR:=(HG.out.others (w.heap.size + 1,29,[.int .i64 0,.int .i64 0,.slice none 0 0]) (by simp)).1;have r0 : wr.cell? ⟨w.heap.size + 1,0,none⟩ = some (.int .i64 0):=by rw [hR.cell]; rfl
   have r1' : wr.cell? ⟨w.heap.size + 1,1,none⟩ = some (.int .i64 0):=by rw [hR.cell]; rfl
   have r2' : wr.cell? ⟨w.heap.size + 1,2,none⟩ = some (.slice none 0 0):=by rw [hR.cell]; rfl
   have f0:=hR.frozen 0;have f1:=hR.frozen 1;have f2:=hR.frozen 2;simp only at f0 f1 f2;clear hR;go_wp2_with fail;refine bodyPost_ret (v:=.agg #[.int .i64 (2 * W),.int .i64 (2 * H),.slice A' n' c']) (by simp [results,Tryz.results60,go_sem,r0,r1',r2']) rfl ?_;exact HGE.out.done (u:=[.int .i64 0,.int .i64 0,.slice none 0 0]) (by simp) (by omega)
theorem oneOf_any (op : Int) (W H : Int) (A : Option Addr) (n c : Nat) (P : List Int) (k : Int) (w : World) (hF : Img.Fine ⟨W,H,P⟩) (hn : P.length = n) (hI : Ints w A P) (hE : oneErr op ⟨W,H,P⟩ k = 0) :
 Calls Tryz.prog 60 #[.int .i64 op,.agg #[.int .i64 W,.int .i64 H,.slice A n c],.int .i64 k] w (RetImg w (oneImg op ⟨W,H,P⟩ k)):=by
 rcases oneErr_ops hE with h | ⟨h,k1,k2⟩ | ⟨h,k1,k2⟩ | h | ⟨h,k1,k2⟩ | ⟨h,k1,k2⟩ <;> subst h
 ·exact oneOf3 W H A n c P k w hF hn hI
 ·exact oneOf8 W H A n c P k w hF hn hI k1 k2
 ·exact oneOf9 W H A n c P k w hF hn hI k1 k2
 ·exact oneOf10 W H A n c P k w hF hn hI
 ·exact oneOf11 W H A n c P k w hF hn hI k1 k2
 ·exact oneOf12 W H A n c P k w hF hn hI k1 k2
end Go.Proofs.YtibpmogmeoappabGreat
