/- Walks: PlaceOf (of the reference); slices.DeleteFunc of numbers. -/
import Derived.Test.YtibpmogmeoappabJFitE
import Derived.Test.YtibpmogmeoappabJExcA
import Derived.Lib.SliceRun
import Derived.Test.YtibpmogmeoappabJQPure
import Derived.Test.YtibpmogmeoappabJPlnK
set_option maxRecDepth 100000
set_option maxHeartbeats 8000000
namespace Go.Proofs.Ytibpmogmeoappab
open Go.RowKit
theorem topOf_le {l : List Spn} (h : ∀ x ∈ l,x.Last ≤ 4096) : topOf l ≤ 4097:=by
 induction l with
 | nil=>simp [topOf]
 | cons x l ih =>
   have e : topOf (x :: l) = max (x.Last + 1) (topOf l):=rfl;have h1:=h x (by simp);have h2:=ih (fun y hy=>h y (by simp [hy]));rw [e];omega
theorem free_eq {l : List Spn} {size n : Int} (h0 : 0 ≤ n) (hle : n ≤ placeOf l size) (h : freeB l size n = true) : n = placeOf l size:=by
 by_cases e : n < placeOf l size
 ·have:=(placeOf_is l size).least n h0 e
  rw [h] at this; cases this
 ·omega
theorem placeOf_ref (A : Option Addr) (n c : Nat) (l : List Spn) (size : Int) (w : World) (hn : l.length = n) (h12 : n ≤ 12) (hS : Spns w A l) (hsz : 1 ≤ size ∧ size ≤ 4096) (hl : ∀ x ∈ l,(0 ≤ x.First ∧ x.First ≤ 4096) ∧ (0 ≤ x.Last ∧ x.Last ≤ 4096)) :
 Calls Try.prog 48 #[.slice A n c,.int .i64 size] w (RetE w (placeOf l size)):=by
 have htop : placeOf l size ≤ 4097:=Int.le_trans (placeOf_le l size) (topOf_le fun x hx=>(hl x hx).2.2);have hpos:=(placeOf_is l size).pos;have HFE:=hide (fun (m : Nat) (hle : (m : Int) ≤ placeOf l size) (h : freeB l size m = true)=>free_eq (by omega) hle h);have HFR:=hide (placeOf_is l size).free;obtain ⟨pz,hpz⟩ : ∃ pz,placeOf l size = pz:=⟨_,rfl⟩;rw [hpz] at htop hpos HFE HFR ⊢;have HN:=hide hn;have HS:=hide (show Keeps w (fun W=>Spns W A l) from ⟨hS,fun _ hb=>Cells.keep hS hb⟩);obtain ⟨hs1,hs2⟩:=hsz;clear hn hS hl hpz;go_enter Try.func48,Try.ntmps48
 go_wp2_with fail;go_loopw [5,6,7] (fun s5 _ _ wr=>∃ m : Nat,s5 = .int .i64 (m : Int) ∧ (m : Int) ≤ pz ∧ Hid (Below w.heap.size w wr)) (fun s5 _ _ _=>4098 - (intOf s5).toNat)
 case atStart=>exact ⟨0,rfl,by omega,hide (Below.refl _ _)⟩
 case round =>
  obtain ⟨m,rfl,hm,HB⟩:=hrel;have hm0 : (0 : Int) ≤ (m : Int):=by omega
  have hmw : (m : Int) ≤ 4097:=by omega
  have hw1 : IntKind.i64.wrap ((m : Int) + size) = (m : Int) + size:=IntWalk.i64_in _ (by omega);have hw2 : IntKind.i64.wrap ((m : Int) + size - 1) = (m : Int) + size - 1:=IntWalk.i64_in _ (by omega);obtain ⟨wq,hwq⟩ : ∃ wq : World,wq = wr:=⟨_,rfl⟩;rw [← hwq];have HBQ : Hid (Below w.heap.size w wq):=hide (by rw [hwq]; exact HB.out);clear HB;subst hwq;go_wp2_with fail;go_loopw [6,7] (fun s6 s7 wr=>∃ i : Nat,i ≤ n ∧ s7 = .int .i64 (i : Int) ∧ s6 = .bool (freeB (l.take i) size m) ∧ Hid (Below wq.heap.size wq wr)) (fun _ s7 _=>n - (intOf s7).toNat)
  case atStart=>exact ⟨0,Nat.zero_le _,rfl,by simp [freeB],hide (Below.refl _ _)⟩
  case round =>
   obtain ⟨i,hi,rfl,rfl,HBI⟩:=hrel;by_cases hlt : i < n
   ·have hi0 : (0 : Int) ≤ (i : Int):=by omega
    have hi1 : (i : Int) < (n : Int):=by omega
    have hil : i < l.length:=by rw [HN.out]; exact hlt
    obtain ⟨mb,hmb⟩ : ∃ mb,meetB (spAt l i) ⟨(m : Int),(m : Int) + size - 1⟩ = mb:=⟨_,rfl⟩
    have hnx : freeB (l.take (i + 1)) size m = (freeB (l.take i) size m && !mb):=by
     rw [List.take_add_one,List.getElem?_eq_getElem hil];unfold freeB;rw [List.all_append];have e : l[i] = spAt l i:=by unfold spAt; rw [List.getD_eq_getElem?_getD,List.getElem?_eq_getElem hil]; rfl
     simp only [Option.toList_some,List.all_cons,List.all_nil,Bool.and_true,e,hmb]
    obtain ⟨b,off,rfl,hb,c0,c1⟩:=spns_atB ((HS.out.move HBQ.out).later _ HBI.out) hil;have HME:=hide (fun W0 : World=>meet_is hmb W0);obtain ⟨xf,hxf⟩ : ∃ xf,(spAt l i).First = xf:=⟨_,rfl⟩;obtain ⟨xl,hxl⟩ : ∃ xl,(spAt l i).Last = xl:=⟨_,rfl⟩;rw [hxf] at c0;rw [hxl] at c1;rw [hxf,hxl] at HME;have HNX:=hide hnx;obtain ⟨fb,hfb⟩ : ∃ fb,freeB (l.take i) size m = fb:=⟨_,rfl⟩;rw [hfb] at HNX ⊢;clear hxf hxl hil hmb hnx hfb
    cases fb with
    | false =>
      go_wp2_with fail;go_roundw
      case rel=>exact ⟨i + 1,by omega,by go_num,by rw [HNX.out]; rfl,HBI⟩
      case measure=>simp [intOf]; omega
    | true =>
      go_wp2_with (go_at_call 63; refine ((unhide HME) _).mono ?_; rintro e w2 ⟨rfl,hE2⟩)
      go_roundw
      case rel=>exact ⟨i + 1,by omega,by go_num,by rw [HNX.out]; simp,hide (HBI.out.trans (hE2.mono HBI.out.size))⟩
      case measure=>simp [intOf]; omega
   ·obtain rfl : i = n:=by omega
    have hfl : l.take i = l:=List.take_of_length_le (by rw [HN.out]; exact Nat.le_refl _);rw [hfl];have HBE:=hide (HBQ.out.trans (HBI.out.mono HBQ.out.size));obtain ⟨fb,hfb⟩ : ∃ fb,freeB l size m = fb:=⟨_,rfl⟩;rw [hfb];have HFB:=hide hfb;clear hfb hfl HBI
    cases fb with
    | true =>
      have HR:=hide (HFE.out m hm HFB.out);go_wp2_with fail;go_ret;exact ⟨ret_int HR.out,HBE.out⟩
    | false =>
      have hne : (m : Int) ≠ pz:=fun e=>by
       have h1:=HFR.out;rw [← e,HFB.out] at h1;cases h1
      go_wp2_with fail;go_roundw
      case rel=>exact ⟨m + 1,by go_num,by omega,HBE⟩
      case measure=>simp [intOf]; omega
abbrev delF (sb ib : Nat) : Value:=.func (.func 84) #[] #[.pointer (some ⟨sb,0,none⟩),.pointer (some ⟨ib,0,none⟩)]
theorem indexDel_any (sb ib : Nat) (A : Option Addr) (n c : Nat) (l : List Int) (pd : Int → Bool) (w : World) (hn : l.length = n) (hI : Ints w A l) (hl : n ≤ 9223372036854775807)
 (hC : ∀ W,Below w.heap.size w W → ∀ x ∈ l,Calls Try.prog 84 #[.int .i64 x,.pointer (some ⟨sb,0,none⟩),.pointer (some ⟨ib,0,none⟩)] W fun e w'=>e = .returned (.bool (pd x)) ∧ Below W.heap.size W w') :
 Calls Try.prog 115 #[.slice A n c,delF sb ib] w fun e w'=>Below w.heap.size w w' ∧ ((e = .returned (.int .i64 (-1)) ∧ ∀ k,k < n → pd (l.getD k 0) = false) ∨ ∃ k : Nat,e = .returned (.int .i64 (k : Int)) ∧ k < n ∧ pd (l.getD k 0) = true ∧ ∀ t,t < k → pd (l.getD t 0) = false):=by
 have HN:=hide hn;have HI:=hide (Keeps.ints hI);have HC:=hide hC;have heg:=enters_of Try.func84 (by kernel_rfl) rfl;clear hn hI hC;go_enter Try.func115,Try.ntmps115
 go_wp2_with fail;go_loopw [5,8] (fun _ i wr=>∃ j : Nat,j ≤ n ∧ i = .int .i64 j ∧ Hid (∀ k,k < j → pd (l.getD k 0) = false) ∧ Hid (Below w.heap.size w wr)) (fun _ i _=>n - (intOf i).toNat)
 case atStart=>exact ⟨0,Nat.zero_le _,rfl,hide (fun k hk=>by omega),hide (Below.refl _ _)⟩
 case round =>
  obtain ⟨j,hj,rfl,HJ,HB⟩:=hrel;by_cases hlt : j < n
  ·have hj0 : (0 : Int) ≤ (j : Int):=by omega
   have hj1 : (j : Int) < (n : Int):=by omega
   have hjl : j < l.length:=by rw [HN.out]; exact hlt
   obtain ⟨b,o,v,rfl,hb,hv,cv⟩:=(HI.out.later _ HB.out).at_ j hjl;have hgd : l.getD j 0 = v:=by rw [List.getD_eq_getElem?_getD,hv]; rfl
   have hmem : v ∈ l:=List.mem_of_getElem? hv;obtain ⟨bd,hbd⟩ : ∃ bd,pd v = bd:=⟨_,rfl⟩;have hcl:=HC.out wr HB.out v hmem;rw [hbd] at hcl;have HCL:=hide hcl;have HBD:=hide (show pd (l.getD j 0) = bd from by rw [hgd]; exact hbd);clear hcl hbd hgd hmem hv hjl
   cases bd with
   | true =>
     go_wp2_with (go_at_call 84; refine (unhide HCL).mono ?_; rintro e w1 ⟨rfl,hE1⟩)
     go_ret;exact ⟨HB.out.trans (hE1.mono HB.out.size),.inr ⟨j,rfl,hlt,HBD.out,HJ.out⟩⟩
   | false =>
     go_wp2_with (go_at_call 84; refine (unhide HCL).mono ?_; rintro e w1 ⟨rfl,hE1⟩)
     go_roundw
     case rel =>
      refine ⟨j + 1,by omega,by go_num,hide (fun k hk=>?_),hide (HB.out.trans (hE1.mono HB.out.size))⟩;by_cases e : k = j
      ·subst e; exact HBD.out
      ·exact HJ.out k (by omega)
     case measure=>simp [intOf]; omega
  ·obtain rfl : j = n:=by omega
   go_wp2_with fail;go_ret;exact ⟨HB.out,.inl ⟨rfl,HJ.out⟩⟩
theorem Blk.setCells {g : Nat} {t : TypeId} : ∀ (vs : List Value) (o : Nat) (w : World) (cs : List Value),Blk w g t cs → ∃ cs',Blk (w.setCells g o vs) g t cs' ∧ cs'.length = cs.length ∧ cs'.take o = cs.take o
 | [],o,w,cs,h=>⟨cs,h,rfl,rfl⟩
 | v :: vs, o, w, cs, h => by
   obtain ⟨cs',h1,h2,h3⟩:=Blk.setCells vs (o + 1) _ _ (h.set_ o v);refine ⟨cs',h1,by rw [h2,List.length_set],?_⟩;have e : cs'.take o = (cs'.take (o + 1)).take o:=by rw [List.take_take]; congr 1; omega
   rw [e,h3,List.take_take,show min o (o + 1) = o by omega,List.take_set,List.set_eq_of_length_le (by rw [List.length_take]; omega)]
theorem grown_cellsB {g : Nat} : ∀ (vs : List Value) (o : Nat) (w : World),w.grownBy (w.setCells g o vs) (some g)
 | [],_o,_w=>grown_rfl _ _
 | v :: vs,o,w=>grown_trB (grown_put w ⟨g,o,none⟩ v) (grown_cellsB vs (o + 1) _)
theorem run_head (g k m d : Nat) (hi : Int) (hhi : hi = (k : Int)) (h0 : 0 < d) (hd : k ≤ d) (w : World) :
 (Instr.slice 25 (.slice (some ⟨g,0,none⟩) m d) none (some (.int .i64 hi)) none).run Try.prog w = .ok (.slice (some ⟨g,0,none⟩) k d) w:=by
 subst hhi
 have hsz : ∀ W : World,(sizeOf (Try.prog.elem 25)).run Try.prog W = .ok 1 W:=fun W=>by
  rw [show Try.prog.elem 25 = 3 from by kernel_rfl];simp [sizeOf]
  rfl
 rw [run_slice_h w _ _ _ _ (by rw [show Try.prog.elem 25 = 3 from by kernel_rfl]; exact Try.underlying25) .i64 (k : Int) (by omega) (by omega),hsz];simp only [Result.andThen,sliced,Int.toNat_natCast];rw [if_neg (by omega : ¬ d = 0)];simp [Addr.add]
end Go.Proofs.Ytibpmogmeoappab
namespace Go.Proofs.Ytibpmogmeoappab
open Go.RowKit
theorem run_tailF (g o m d : Nat) (lo : Int) (hlo : lo = (o : Int)) (h0 : o < m) (hd : m ≤ d) (w : World) :
 (Instr.slice 25 (.slice (some ⟨g,0,none⟩) m d) (some (.int .i64 lo)) none none).run Try.prog w = .ok (.slice (some ⟨g,o,none⟩) (m - o) (d - o)) w:=by
 subst hlo
 have hsz : ∀ W : World,(sizeOf (Try.prog.elem 25)).run Try.prog W = .ok 1 W:=fun W=>by
  rw [show Try.prog.elem 25 = 3 from by kernel_rfl];simp [sizeOf]
  rfl
 rw [run_slice_l w _ _ _ _ (by rw [show Try.prog.elem 25 = 3 from by kernel_rfl]; exact Try.underlying25) .i64 (o : Int) (by omega) (by omega),hsz];simp only [Result.andThen,sliced,Int.toNat_natCast];rw [if_neg (by omega : ¬ d = o)];simp [Addr.add]
 try omega
theorem zero_int (w : World) : (zeroValue 3).run Try.prog w = .ok (.int .i64 0) w:=by
 obtain ⟨i0,hi0,hz0,hz1,hz2⟩:=info_parts Try.info3;simp [zeroValue]
 rfl
def RetDel (w : World) (base : Nat) (A : Option Addr) (n c : Nat) (l : List Int) (e : Ending) (w' : World) : Prop :=
 ∃ (A' : Option Addr) (c' : Nat),e = .returned (.slice A' l.length c') ∧ Own w' base 3 1 A' l.length c' (l.map (Value.int .i64)) ∧ w.grownBy w' (Value.slice A n c).ownBlock
theorem filter_all {l : List Int} {pd : Int → Bool} (h : ∀ k,k < l.length → pd (l.getD k 0) = false) : l.filter (fun x=>!pd x) = l:=by
 rw [List.filter_eq_self];intro x hx;obtain ⟨k,hk,rfl⟩:=List.getElem_of_mem hx;have:=h k hk;rw [List.getD_eq_getElem?_getD,List.getElem?_eq_getElem hk] at this
 simpa using this
theorem filter_take {l : List Int} {pd : Int → Bool} {j : Nat} (h : j < l.length) : (l.take (j + 1)).filter (fun x=>!pd x) = (l.take j).filter (fun x=>!pd x) ++ if pd (l.getD j 0) = true then [] else [l.getD j 0]:=by
 rw [List.take_add_one,List.getElem?_eq_getElem h,List.filter_append];have e : l.getD j 0 = l[j]:=by rw [List.getD_eq_getElem?_getD,List.getElem?_eq_getElem h]; rfl
 rw [e];simp only [Option.toList_some,List.filter_cons,List.filter_nil];cases pd l[j] <;> rfl
theorem delete_any (sb ib base : Nat) (A : Option Addr) (n c : Nat) (l : List Int) (pd : Int → Bool) (w : World) (hO : Own w base 3 1 A n c (l.map (Value.int .i64))) (_hb : base ≤ w.heap.size) (h12 : n ≤ 4096)
 (hC : ∀ W,w.grownBy W (Value.slice A n c).ownBlock → ∀ x ∈ l,Calls Try.prog 84 #[.int .i64 x,.pointer (some ⟨sb,0,none⟩),.pointer (some ⟨ib,0,none⟩)] W fun e w'=>e = .returned (.bool (pd x)) ∧ Below W.heap.size W w') :
 Calls Try.prog 83 #[.slice A n c,delF sb ib] w (RetDel w base A n c (l.filter fun x=>!pd x)):=by
 have hln : l.length = n:=by have:=hO.len; rw [List.length_map] at this; omega
 have HIX:=hide (indexDel_any sb ib A n c l pd w hln hO.cells (by omega) (fun W hW x hx=>hC W (grown_ofB hW _) x hx));have HO:=hide hO;have HC:=hide hC;have HN:=hide hln;have heg:=enters_of Try.func84 (by kernel_rfl) rfl;clear hO hC hln;go_enter Try.func83,Try.ntmps83
 go_wp2_with fail;refine (unhide HIX).mono ?_;rintro e w1 ⟨hE1,⟨rfl,hno⟩ | ⟨k0,rfl,hk0,hp0,hb0⟩⟩
 ·have hfl : l.filter (fun x=>!pd x) = l:=filter_all (fun k hk=>hno k (by rw [← HN.out]; exact hk))
  have HFL:=hide hfl;have HE1:=hide hE1;clear hno hE1 hfl HIX;go_wp2_with fail;go_ret;exact ⟨A,c,by rw [HFL.out,HN.out]; rfl,by rw [HFL.out]; have h:=HO.out.keep HE1.out; rw [← HN.out] at h; exact h,grown_ofB HE1.out _⟩
 ·rcases HO.out.2 with ⟨e0,h0⟩ | ⟨g,cap,cur,hv,hbg,hg,h1,h2,h3,h4⟩
  ·omega
  ·injection hv with e1 e2 e3
   subst e1 e3;rw [Nat.mul_one] at h3 h4;have hcur : cur.toList = l.map (Value.int .i64) ++ cur.toList.drop n:=by rw [← h4,List.take_append_drop]
   obtain ⟨ex,hex⟩ : ∃ ex,cur.toList.drop n = ex:=⟨_,rfl⟩;rw [hex] at hcur
   have har : Ar w g l ex:=by
    unfold Ar Blk;rw [← hcur]
    simpa using hg
   have hexl : ex.length + n = c := by rw [← hex, List.length_drop]; have : cur.toList.length = c := by simpa using h3
                                       omega
   have hob : (Value.slice (some ⟨g,0,none⟩) n c).ownBlock = some g:=rfl;rw [hob] at HC;have HA1:=hide (show Ar w1 g l ex from Blk.keep har hE1);have HG1:=hide (show w.grownBy w1 (some g) from grown_ofB hE1 _);have HP0:=hide hp0;have HB0:=hide hb0;have HBG:=hide hbg;have HEX:=hide hexl;have HCM:=hide h2;have hkk0 : (0 : Int) ≤ (k0 : Int):=by omega
   have hkk1 : (k0 : Int) < (n : Int):=by omega
   have hkk2 : ((k0 : Int) == -1) = false:=beq_eq_false_iff_ne.2 (show (k0 : Int) ≠ -1 from by omega)
   have hf0 : (l.take (k0 + 1)).filter (fun x=>!pd x) = l.take k0:=by
    rw [filter_take (by rw [HN.out]; exact hk0),if_pos hp0,List.append_nil]
    have : (l.take k0).filter (fun x=>!pd x) = l.take k0:=filter_all (fun k hk=>by
     rw [List.length_take] at hk;have:=hb0 k (by omega);rw [List.getD_eq_getElem?_getD] at this ⊢;rw [List.getElem?_take,if_pos (by omega)]
     exact this)
    exact this
   have HF0:=hide hf0;clear hp0 hb0 hbg hexl hf0 har hcur h4 h3 hg hE1 HIX hex hob h2 cur;go_wp2_with fail;go_loopw [5,6,7] (fun s5 s6 _ wr=>∃ (j k : Nat) (M : List Int),k < j ∧ j ≤ n ∧ s5 = .int .i64 (k : Int) ∧ s6 = .int .i64 (j : Int) ∧ Hid (M.length = n) ∧ Hid (M.take k = (l.take j).filter (fun x=>!pd x)) ∧ Hid (∀ t,j ≤ t → M.getD t 0 = l.getD t 0) ∧ Hid (Ar wr g M ex) ∧ Hid (w.grownBy wr (some g))) (fun _ s6 _ _=>n - (intOf s6).toNat)
   case atStart=>exact ⟨k0 + 1,k0,l,by omega,by omega,rfl,by go_num,HN,hide (HF0.out.symm),hide (fun t _=>rfl),HA1,HG1⟩
   case round =>
    obtain ⟨j,k,M,hkj,hj,rfl,rfl,HML,HMT,HMR,HAR,HGR⟩:=hrel;have hk0' : (0 : Int) ≤ (k : Int):=by omega
    have hk1' : (k : Int) < (n : Int):=by omega
    by_cases hlt : j < n
    ·have hj0 : (0 : Int) ≤ (j : Int):=by omega
     have hj1 : (j : Int) < (n : Int):=by omega
     have hjl : j < l.length:=by rw [HN.out]; exact hlt
     obtain ⟨b,o,v,hA,hb,hv,cv⟩:=HAR.out.ints.at_ j (by rw [HML.out]; exact hlt);injection hA with hA;injection hA with y1 y2;subst y1 y2;rw [Nat.zero_add] at cv;have hgv : l.getD j 0 = v:=by rw [← HMR.out j (Nat.le_refl _),List.getD_eq_getElem?_getD,hv]; rfl
     have hmem : v ∈ l:=by
      rw [← hgv,List.getD_eq_getElem?_getD,List.getElem?_eq_getElem hjl];exact List.getElem_mem hjl
     have hft:=filter_take (pd:=pd) hjl;rw [hgv] at hft;obtain ⟨bd,hbd⟩ : ∃ bd,pd v = bd:=⟨_,rfl⟩;rw [hbd] at hft;have hcl:=HC.out wr HGR.out v hmem;rw [hbd] at hcl;have HCL:=hide hcl;have HFT:=hide hft;have HJL:=hide hjl;have HGV:=hide hgv;clear hcl hbd hgv hmem hv hjl hft
     cases bd with
     | true =>
       go_wp2_with (go_at_call 84; refine (unhide HCL).mono ?_; rintro e w2 ⟨rfl,hE2⟩)
       go_roundw
       case rel=>exact ⟨j + 1,k,M,by omega,by omega,rfl,by go_num,HML,hide (by rw [HFT.out,if_pos (by simp),List.append_nil]; exact HMT.out),hide (fun t ht=>HMR.out t (by omega)),hide (Blk.keep HAR.out hE2),hide (grown_trB HGR.out (grown_ofB hE2 _))⟩
       case measure=>simp [intOf]; omega
     | false =>
       obtain ⟨b2,o2,u,hA2,hb2,hu,cu⟩:=HAR.out.ints.at_ k (by rw [HML.out]; omega);injection hA2 with hA2;injection hA2 with y1 y2;subst y1 y2;rw [Nat.zero_add] at cu;have hfk:=HAR.out.frozen k;go_wp2_with (go_at_call 84; refine (unhide HCL).mono ?_; rintro e w2 ⟨rfl,hE2⟩; have cu2:=keepC hE2 cu; have hf2:=(Blk.keep HAR.out hE2).frozen k)
       have hset:=(show Blk w2 g 3 (M.map (Value.int .i64) ++ ex) from Blk.keep HAR.out hE2).set_ k (.int .i64 v);rw [List.set_append_left _ _ (by rw [List.length_map,HML.out]; omega),← List.map_set] at hset;go_roundw
       case rel =>
        refine ⟨j + 1,k + 1,M.set k v,by omega,by omega,by go_num,by go_num,hide (by rw [List.length_set]; exact HML.out),hide ?_,hide (fun t ht=>?_),hide hset,hide (grown_trB (grown_trB HGR.out (grown_ofB hE2 _)) (grown_put w2 ⟨g,k,none⟩ (.int .i64 v)))⟩
        ·rw [HFT.out,if_neg (by simp),← HMT.out,List.take_add_one,List.take_set,List.set_eq_of_length_le (by rw [List.length_take]; omega),List.getElem?_set,if_pos rfl,if_pos (by rw [HML.out]; omega)]
         rfl
        ·rw [List.getD_eq_getElem?_getD,List.getElem?_set,if_neg (by omega),← List.getD_eq_getElem?_getD]
         exact HMR.out t (by omega)
       case measure=>simp [intOf]; omega
    ·obtain rfl : j = n:=by omega
     have hfl : (l.take j).filter (fun x=>!pd x) = l.filter (fun x=>!pd x):=by rw [List.take_of_length_le (by rw [HN.out]; exact Nat.le_refl _)]
     have hmt:=HMT.out;rw [hfl] at hmt;have hlen : (l.filter (fun x=>!pd x)).length = k:=by rw [← hmt,List.length_take,HML.out]; omega
     have hsl:=fun W0 : World=>run_tailF g k j c (k : Int) rfl hkj h1 W0;have hsh:=fun W0 : World=>run_head g k j c (k : Int) rfl (by omega) (by omega) W0
     have hcl : ∀ ty,(Builtin.clear_ #[25] ty #[.slice (some ⟨g,k,none⟩) (j - k) (c - k)]).run Try.prog wr = .ok (.tuple #[]) (wr.setCells g k (List.replicate (j - k) (.int .i64 0))):=fun ty =>
      Lib.run_clear_slice wr 25 3 ty (.int .i64 0) Try.underlying25 zero_int rfl rfl g k (j - k) (c - k) (by omega) (fun t ht=>by
       rw [HAR.out.cell,List.getElem?_eq_getElem (by rw [List.length_append,List.length_map,HML.out]; omega)]
       rfl) (fun t ht=>HAR.out.frozen _)
     obtain ⟨cs',hb',hl',ht'⟩:=Blk.setCells (List.replicate (j - k) (Value.int .i64 0)) k wr _ HAR.out;have hgr:=grown_trB HGR.out (grown_cellsB (g:=g) (List.replicate (j - k) (Value.int .i64 0)) k wr)
     have hown : Own (wr.setCells g k (List.replicate (j - k) (.int .i64 0))) base 3 1 (some ⟨g,0,none⟩) k c ((l.filter (fun x=>!pd x)).map (Value.int .i64)):=by
      refine ⟨by rw [List.length_map,hlen,Nat.mul_one],.inr ⟨g,c,cs'.toArray,rfl,HBG.out,hb',by omega,HCM.out,?_,?_⟩⟩
      ·have h5:=HEX.out
       have h6:=HML.out;rw [List.length_append,List.length_map] at hl';simp only [List.size_toArray];omega
      ·rw [Nat.mul_one,List.toList_toArray,ht',List.take_append_of_le_length (by rw [List.length_map,HML.out]; omega),← List.map_take,hmt]
     have HOW:=hide hown;have HGF:=hide hgr;have HLE:=hide hlen;clear hown hgr hfl hmt hb' hl' ht' hlen;go_wp2_with fail;go_ret;exact ⟨some ⟨g,0,none⟩,c,by rw [HLE.out]; rfl,by rw [HLE.out]; exact HOW.out,HGF.out⟩
end Go.Proofs.Ytibpmogmeoappab
namespace Go.Proofs.Ytibpmogmeoappab
open Go.RowKit
theorem size_any (zb : Nat) (ZA : Option Addr) (n zc j : Nat) (f : Frm) (w : World) (hx : Blk w zb 43 [.slice ZA n zc]) (hZ : Sizes w ZA (frSizes f)) (hf : FrmOk f) (hn : f.P.length = n) (hj : j < n) :
 Calls Try.prog 82 #[.int .i64 (j : Int),.pointer (some ⟨zb,0,none⟩)] w fun e w'=>e = .returned (.int .i64 (areaOf f j)) ∧ Below w.heap.size w w':=by
 obtain ⟨b,o,rfl,hb,c0,c1⟩:=Sizes.at_ hZ (i:=j) (by rw [sizes_len hf]; omega);rw [size_at hf (by omega)] at c0 c1;have hbd:=frSize_bd hf (k:=j) (by omega);have har : areaOf f j = (frSize f j).W * (frSize f j).H:=rfl;rw [har] at hbd ⊢;have cx : w.cell? ⟨zb,0,none⟩ = some (.slice (some ⟨b,o,none⟩) n zc):=(hx.cell 0).trans rfl;have hj0 : (0 : Int) ≤ (j : Int):=by omega
 have hj1 : (j : Int) < (n : Int):=by omega
 generalize (frSize f j).W = sw at *;generalize (frSize f j).H = sh at *;have hw2 : wrap64 (sw * sh) = sw * sh:=wrap64_of (by omega) (by omega);clear hZ hx hf hn hj hbd hb har;go_enter Try.func82,Try.ntmps82
 go_wp2_with fail;go_quiet (fail)
 go_wp2_with fail;go_ret;exact ⟨ret_int hw2,below_drewN (Below.refl _ _) _⟩
theorem del_any (sb ib : Nat) (SA : Option Addr) (n sc : Nat) (L : List Spn) (x i : Int) (j : Nat) (hxj : x = (j : Int)) (w : World) (hx : Blk w sb 32 [.slice SA n sc]) (hS : Spns w SA L) (hi : Blk w ib 3 [.int .i64 i]) (hn : L.length = n) (hj : j < n) :
 Calls Try.prog 84 #[.int .i64 x,.pointer (some ⟨sb,0,none⟩),.pointer (some ⟨ib,0,none⟩)] w fun e w'=>e = .returned (.bool (decide ((spAt L j).Last < i))) ∧ Below w.heap.size w w':=by
 subst hxj;obtain ⟨b,o,rfl,hb,c0,c1⟩:=spns_atB hS (j:=j) (by omega);have cx : w.cell? ⟨sb,0,none⟩ = some (.slice (some ⟨b,o,none⟩) n sc):=(hx.cell 0).trans rfl;have ci : w.cell? ⟨ib,0,none⟩ = some (.int .i64 i):=(hi.cell 0).trans rfl;have hj0 : (0 : Int) ≤ (j : Int):=by omega
 have hj1 : (j : Int) < (n : Int):=by omega
 generalize (spAt L j).Last = sl at *;clear hS hx hi hn hj hb c0;go_enter Try.func84,Try.ntmps84
 go_wp2_with fail;go_quiet (fail)
 go_wp2_with fail;go_ret;exact ⟨rfl,below_drewN (Below.refl _ _) _⟩
end Go.Proofs.Ytibpmogmeoappab
