/- Walk: bytes: numbers are written, a byte each. -/
import Derived.Test.YtibpmogmeoappaaJMem
import Derived.Test.YtibpmogmeoappaaJImgA
import Derived.Test.YtibpmogmeoappaaJWSpec
import Derived.Laws.BytesArg
import Derived.Test.YtibpmogmeoappaaJFrmM
set_option maxRecDepth 100000
set_option maxHeartbeats 8000000
namespace Go.Proofs.Ytibpmogmeoappaa
open Go.RowKit
theorem Try.info5 : (Try.prog.info? 5).map (fun i=>(i.zero,i.size,i.bytes)) = some (some (.int .u8 0),1,1):=by kernel_rfl
theorem one_u8 (x : Int) : ∀ u ∈ [Value.int .u8 x],u.oneCell' = true:=by intro u hu; simp at hu; subst hu; rfl
def lowB (x : Int) : Int:=x % 256
theorem wrap_u8 (x : Int) : IntKind.u8.wrap x = lowB x:=by simp [IntKind.wrap,IntKind.bits,IntKind.signed,lowB]
structure PenAt (w : World) (pb : Nat) (l : List Int) (A : Option Addr) (n c : Nat) : Prop where
 box : Blk w pb 107 [.slice A n c]
 own : Own w (pb + 1) 5 1 A n c (l.map (.int .u8))
section
variable {w w' : World} {pb n c : Nat} {l : List Int} {A : Option Addr}
theorem PenAt.keep (h : PenAt w pb l A n c) (hb : Below w.heap.size w w') : PenAt w' pb l A n c:=⟨h.box.keep hb,h.own.keep hb⟩
theorem PenAt.len (h : PenAt w pb l A n c) : n = l.length:=by have:=h.own.len; simpa using this.symm
end
theorem type_apart {w : World} {base n c s : Nat} {t : TypeId} {A : Option Addr} {cs xs : List Value} (h : Own w base 5 1 A n c cs) (ht : t ≠ 5) (hs : Blk w s t xs) : (Value.slice A n c).ownBlock ≠ some s:=by
 intro e;rcases h.2 with ⟨e0,_⟩ | ⟨g,cap,cur,hv,_,hg,_⟩
 ·injection e0 with e1
  subst e1;cases e
 ·rw [hv] at e
  injection e with e;simp only at e;subst e;unfold Blk at hs;rw [hs] at hg;injection hg with hg;injection hg with _ h2;exact absurd h2 ht
structure KeptP (pb : Nat) (w w' : World) : Prop where
 below : Below pb w w'
 blk : ∀ g t cs,t ≠ 5 → g ≠ pb → Blk w g t cs → Blk w' g t cs
theorem KeptP.refl (pb : Nat) (w : World) : KeptP pb w w:=⟨Below.refl _ _,fun _ _ _ _ _ h=>h⟩
theorem KeptP.trans {pb : Nat} {w w1 w2 : World} (h : KeptP pb w w1) (k : KeptP pb w1 w2) : KeptP pb w w2:=⟨h.below.trans k.below,fun g t cs h1 h2 h3=>k.blk g t cs h1 h2 (h.blk g t cs h1 h2 h3)⟩
theorem KeptP.alloc {pb : Nat} {w w1 : World} (h : KeptP pb w w1) (hp : pb ≤ w1.heap.size) (o : Obj) : KeptP pb w (w1.alloc o):=⟨h.below.alloc hp o,fun g t cs h1 h2 h3=>(h.blk g t cs h1 h2 h3).alloc o⟩
def RetPen (w : World) (pb : Nat) (l : List Int) (e : Ending) (w' : World) : Prop:=e = .returned (.tuple #[]) ∧ (∃ A n c,PenAt w' pb l A n c) ∧ KeptP pb w w'
theorem bytes_any (pb s k d : Nat) (xs : List Int) (l : List Int) (A : Option Addr) (n c : Nat) (w : World) (hk : xs.length = k) (hs : Blk w s 3 (xs.map (.int .i64))) (hP : PenAt w pb l A n c) (hpb : pb < s) (hlen : l.length + k ≤ 65536) :
 Calls Try.prog 77 #[.pointer (some ⟨pb,0,none⟩),.slice (some ⟨s,0,none⟩) k d] w (RetPen w pb (l ++ xs.map lowB)):=by
 obtain ⟨i0,hi0,hz0,hz1,hz2⟩:=info_parts Try.info5;have HK:=hide hk;have HS:=hide hs;have HP:=hide hP;have HL:=hide hlen;have hkb : k ≤ 65536:=by omega
 clear hk hs hP hlen;go_enter Try.func77,Try.ntmps77
 go_wp2_with fail;go_loopw [5,8] (fun _ s8 wr=>∃ (j : Nat) (A : Option Addr) (n c : Nat),j ≤ k ∧ s8 = .int .i64 (j : Int) ∧ Hid (PenAt wr pb (l ++ (xs.take j).map lowB) A n c) ∧ Hid (KeptP pb w wr)) (fun _ s8 _=>k - (intOf s8).toNat)
 case atStart=>exact ⟨0,A,n,c,Nat.zero_le _,rfl,by simpa using HP,hide (KeptP.refl _ _)⟩
 case round =>
  obtain ⟨j,A,n,c,hj,rfl,HPA,HB⟩:=hrel;have HSB:=hide (HB.out.blk s _ _ (by decide) (by omega) HS.out);by_cases hlt : j < k
  ·have hj0 : (0 : Int) ≤ (j : Int):=by omega
   have hj1 : (j : Int) < (k : Int):=by omega
   have hjl : j < xs.length:=by rw [HK.out]; exact hlt
   obtain ⟨x,hx⟩ : ∃ x,xs[j] = x:=⟨_,rfl⟩;have cs : wr.cell? ⟨s,j,none⟩ = some (.int .i64 x):=by rw [HSB.out.cell,List.getElem?_map,List.getElem?_eq_getElem hjl,hx]; rfl
   have cp : wr.cell? ⟨pb,0,none⟩ = some (.slice A n c):=(HPA.out.box.cell 0).trans rfl;have hnl:=HPA.out.len
   have hn : n ≤ 1073741824:=by
    have:=HL.out;rw [hnl,List.length_append,List.length_map,List.length_take];omega
   have htk : (xs.take (j + 1)).map lowB = (xs.take j).map lowB ++ [lowB x]:=by rw [List.take_add_one,List.getElem?_eq_getElem hjl,hx,List.map_append]; rfl
   have hnx : (l ++ (xs.take j).map lowB).map (Value.int .u8) ++ [.int .u8 (lowB x)] = (l ++ (xs.take (j + 1)).map lowB).map (Value.int .u8):=by rw [htk]; simp
   have HNX:=hide hnx;have hwx:=wrap_u8 x;have hbs : pb + 1 ≤ wr.heap.size:=by have:=HPA.out.box.lt; omega
   clear hx hnl htk hnx;go_wp2_with (at_builtin; go_loud (refine wpList_app1 wr rfl _ _ 105 rfl (pb + 1) 5 i0 _ 1 1 Try.underlying105 hi0 hz0 hz1 hz2 rfl (by omega) A n c _ [.int .u8 (lowB x)] rfl HPA.out.own rfl rfl (one_u8 _) hn (by omega) hbs ?_; intro A1 c1 w1 hown1 hg1; have hbx1:=(HPA.out.box.alloc (.cells #[.int .u8 (lowB x)] 5)).grown (HPA.out.own.alloc _) hg1 (by omega); have cp1 : w1.cell? ⟨pb,0,none⟩ = some (.slice A n c):=(hbx1.cell 0).trans rfl; have hf1:=hbx1.frozen 0))
   go_roundw
   case rel =>
    refine ⟨j + 1,A1,n + 1,c1,by omega,by go_num,hide ⟨hbx1.set_ 0 _,?_⟩,hide ?_⟩
    ·rw [← HNX.out]
     exact hown1.far (p:=⟨pb,0,none⟩) (by simp) _
    ·refine ⟨(Below.grownOwn (HB.out.below.alloc (by omega) _) (HPA.out.own.alloc _) hg1 (by simp only [World.size_alloc]; omega) (by omega)).setCell (p:=⟨pb,0,none⟩) (Nat.le_refl _) _,fun g t cs h1 h2 h3=>?_⟩
     have hk:=HB.out.blk g t cs h1 h2 h3;have hal:=hk.alloc (.cells #[.int .u8 (lowB x)] 5);exact Blk.far (show Blk w1 g t _ from (hg1.block g hal.lt (fun e=>type_apart HPA.out.own h1 hk e.symm)).trans hal) (by simpa using h2) _
   case measure=>simp [intOf]; omega
  ·obtain rfl : j = k:=by omega
   have hfl : xs.take j = xs:=List.take_of_length_le (by rw [HK.out]; exact Nat.le_refl _);rw [hfl] at HPA;go_wp2_with fail;go_end0
   exact ⟨rfl,⟨A,n,c,HPA.out⟩,HB.out⟩
theorem pen_string {w : World} {pb : Nat} {l : List Int} {A : Option Addr} {n c : Nat} (h : PenAt w pb l A n c) : (convert 105 9 (.slice A n c)).run Try.prog w = .ok (.string (mkS l)) w:=by
 have hn:=h.len;rcases h.own.2 with ⟨e0,h0⟩ | ⟨g,cap,cur,hv,_⟩
 ·injection e0 with e1 e2
  subst e1;have hl : l = []:=List.length_eq_zero_iff.1 (by omega);subst hl;exact run_convert_bytes_nil w 105 5 Try.underlying105 Try.underlying5 n c 9 Try.underlying9
 ·injection hv with e1 e2 e3
  subst e1;refine run_convert_bytes_arg w 105 5 Try.underlying105 Try.underlying5 g 0 n c l hn.symm (fun i hi=>?_) 9 Try.underlying9;obtain ⟨b,o,e,_,hc⟩:=h.own.cells i (by rw [List.length_map]; omega);injection e with e;injection e with e1 e2;subst e1 e2;rw [hc,List.getD_eq_getElem?_getD,List.getElem?_map,List.getElem?_eq_getElem (by omega),List.getD_eq_getElem?_getD,List.getElem?_eq_getElem (by omega)];rfl
end Go.Proofs.Ytibpmogmeoappaa
namespace Go.Proofs.Ytibpmogmeoappaa
open Go.RowKit
theorem PassOk.fewW {S : Int} {p : Pas} {st : List Sz} (h : PassOk S p st) : p.L.length ≤ 8:=by
 by_cases hl : hasL p.Op = true
 ·exact (lampsErr_zero (h.lamps hl)).1
 ·have hf:=h.form
  unfold formBad at hf;simp only [Bool.or_eq_false_iff,Bool.and_eq_false_iff] at hf;have:=hf.1.1.2;rcases this with e | e
  ·simp [Bool.eq_false_iff.2 hl] at e
  ·have:=of_decide_eq_false e; omega
def writeAns (f : Frm) : List Int:=if frErr f = 0 then frmBytes f else []
def RetStrE (w : World) (l : List Int) (z : Int) (e : Ending) (w' : World) : Prop:=e = .returned (.tuple #[.string (mkS l),.int .i64 z]) ∧ Below w.heap.size w w'
theorem lamp_low (l : Lamp) : lampBytes l = [l.X,l.Y,l.R,l.K / 256,l.K].map lowB:=rfl
theorem pas_low (p : Pas) : pasBytes p = [p.Op,p.To,p.A,p.B,p.K / 65536,p.K / 256,p.K,(p.L.length : Int)].map lowB ++ p.L.flatMap lampBytes:=rfl
theorem frm_low (f : Frm) : frmBytes f = [f.W,f.H,f.S,f.O,(f.P.length : Int)].map lowB ++ f.P.flatMap pasBytes:=rfl
theorem flatMap_snocW {α β : Type} {l : List α} {f : α → List β} {i : Nat} (h : i < l.length) : (l.take (i + 1)).flatMap f = (l.take i).flatMap f ++ f l[i]:=by
 rw [List.take_add_one,List.getElem?_eq_getElem h,List.flatMap_append];simp
theorem flatMap_bd {α β : Type} {f : α → List β} {k : Nat} : ∀ {l : List α},(∀ x ∈ l,(f x).length ≤ k) → (l.flatMap f).length ≤ l.length * k
 | [],_=>by simp
 | x :: l, h => by
   rw [List.flatMap_cons,List.length_append,List.length_cons,Nat.succ_mul];have h1:=h x (by simp);have h2:=flatMap_bd (l:=l) (fun y hy=>h y (by simp [hy]));omega
theorem pas_len (p : Pas) : (pasBytes p).length = 8 + p.L.length * 5:=by
 have h : (p.L.flatMap lampBytes).length = p.L.length * 5:=by
  induction p.L with
  | nil=>rfl
  | cons x l ih=>rw [List.flatMap_cons,List.length_append,ih]; simp [lampBytes]; omega
 rw [pas_low,List.length_append,h];rfl
theorem low_bytes (l : List Int) : Bytes (l.map lowB):=by
 intro b hb;obtain ⟨x,_,rfl⟩:=List.mem_map.1 hb;unfold lowB;omega
theorem write_any (W H S O : Int) (PA : Option Addr) (n c : Nat) (pss : List Pas) (w : World) (hn : pss.length = n) (hP : Passes w PA pss) :
 Calls Try.prog 37 #[.agg #[.int .i64 W,.int .i64 H,.int .i64 S,.int .i64 O,.slice PA n c]] w (RetStrE w (writeAns ⟨W,H,S,O,pss⟩) (frErr ⟨W,H,S,O,pss⟩)):=by
 have hb:=(Below.refl w.heap.size w).alloc (Nat.le_refl _) (.cells #[.int .i64 W,.int .i64 H,.int .i64 S,.int .i64 O,.slice PA n c] 63);have hbx:=(show FrmBox (w.alloc (.cells #[.int .i64 W,.int .i64 H,.int .i64 S,.int .i64 O,.slice PA n c] 63)) w.heap.size W H S O PA n c from Blk.new w 63 (frmCells W H S O PA n c));have hck:=frameCheck_any W H S O PA n c pss _ hn (hP.keep hb);have hpp:=hP.keep hb;have hwf : writeAns ⟨W,H,S,O,pss⟩ = if frErr ⟨W,H,S,O,pss⟩ = 0 then frmBytes ⟨W,H,S,O,pss⟩ else []:=rfl;have hok:=fun h : frErr ⟨W,H,S,O,pss⟩ = 0=>frErr_zero.1 h;obtain ⟨z,hz⟩ : ∃ z,frErr ⟨W,H,S,O,pss⟩ = z:=⟨_,rfl⟩;rw [hz] at hck hwf hok ⊢;rw [hwf];obtain ⟨w1,hw1⟩ : ∃ w1,w.alloc (.cells #[.int .i64 W,.int .i64 H,.int .i64 S,.int .i64 O,.slice PA n c] 63) = w1:=⟨_,rfl⟩;rw [hw1] at hb hbx hck hpp;have hs1 : w1.heap.size = w.heap.size + 1:=by rw [← hw1]; simp
 have HB:=hide hb;have HBX:=hide (Keeps.blk hbx);have HP:=hide (Keeps.passes hpp);have HCK:=hide hck;have HN:=hide hn;have HOK:=hide hok;obtain ⟨x,q0,q1,q2,q3,q4⟩:=FrmBox.cells (show FrmBox _ _ W H S O PA n c from hbx);clear hn hP hb hbx hpp hck hz hwf hok;by_cases h0 : z = 0
 ·subst h0
  rw [if_pos rfl];go_enter Try.func37,Try.ntmps37
  go_wp2_with fail;refine (unhide HCK).mono ?_;rintro e w2 ⟨rfl,hE2⟩;have HE2:=hide hE2;clear hw1 x q0 q1 q2 q3 q4 hE2 HCK;obtain ⟨x,q0,q1,q2,q3,q4⟩:=FrmBox.cells (show FrmBox _ _ W H S O PA n c from HBX.out.later _ HE2.out);go_wp2_with fail;obtain ⟨pb,hpb⟩ : ∃ pb,w2.heap.size = pb:=⟨_,rfl⟩;have hpen : PenAt ((w2.alloc (.cells #[.slice none 0 0] 107)).alloc (.cells #[.int .i64 W,.int .i64 H,.int .i64 S,.int .i64 O,.int .i64 n] 3)) pb [] none 0 0:=⟨(Blk.newE hpb).alloc _,Own.nil _ _ _ _⟩;have hrow : Blk ((w2.alloc (.cells #[.slice none 0 0] 107)).alloc (.cells #[.int .i64 W,.int .i64 H,.int .i64 S,.int .i64 O,.int .i64 n] 3)) (pb + 1) 3 ([W,H,S,O,(n : Int)].map (.int .i64)):=Blk.newE (by simp [hpb]);have hkp : KeptP pb w2 ((w2.alloc (.cells #[.slice none 0 0] 107)).alloc (.cells #[.int .i64 W,.int .i64 H,.int .i64 S,.int .i64 O,.int .i64 n] 3)):=((KeptP.refl pb w2).alloc (by omega) _).alloc (by simp; omega) _;rw [hpb];refine (bytes_any pb (pb + 1) 5 5 [W,H,S,O,(n : Int)] [] none 0 0 _ rfl hrow hpen (by omega) (by simp)).mono ?_;rintro e w3 ⟨rfl,⟨A3,n3,c3,hP3⟩,hK3⟩;have HPN:=hide hP3;have HKP:=hide (hkp.trans hK3);have hB3:=HE2.out.trans ((show Below w2.heap.size w2 w3 from by rw [hpb]; exact HKP.out.below).mono HE2.out.size);clear x q0 q1 q2 q3 q4 hpen hrow hkp hP3 hK3;obtain ⟨x,q0,q1,q2,q3,q4⟩:=FrmBox.cells (show FrmBox _ _ W H S O PA n c from HBX.out.later _ hB3);have HFK:=hide (HOK.out trivial);have hn12 : n ≤ 12:=by have:=HFK.out.many; simp only [HN.out] at this; omega
  clear HOK hB3;go_wp2_with fail;clear x q0 q1 q2 q3 q4;go_loopw [7,9,34] (fun _ _ s34 wr=>∃ (i : Nat) (A : Option Addr) (m d : Nat),i ≤ n ∧ s34 = .int .i64 (i : Int) ∧ Hid (PenAt wr pb ([W,H,S,O,(n : Int)].map lowB ++ (pss.take i).flatMap pasBytes) A m d) ∧ Hid (KeptP pb w2 wr)) (fun _ _ s34 _=>n - (intOf s34).toNat)
  case atStart=>exact ⟨0,A3,n3,c3,Nat.zero_le _,rfl,by simpa using HPN,HKP⟩
  case round =>
   obtain ⟨i,A,m,d,hi,rfl,HPA,HKW⟩:=hrel;obtain ⟨wo,rfl⟩ : ∃ wo : World,wo = wr:=⟨_,rfl⟩;have HBW:=hide (HE2.out.trans ((show Below w2.heap.size w2 wo from by rw [hpb]; exact HKW.out.below).mono HE2.out.size));obtain ⟨x,q0,q1,q2,q3,q4⟩:=FrmBox.cells (show FrmBox _ _ W H S O PA n c from HBX.out.later _ HBW.out);by_cases hlt : i < n
   ·have hi0 : (0 : Int) ≤ (i : Int):=by omega
    have hi1 : (i : Int) < (n : Int):=by omega
    have hil : i < pss.length:=by rw [HN.out]; exact hlt
    obtain ⟨b,o,LA,lm,ld,p,rfl,hb,hp,c0,c1,c2,c3',c4,c5,hm,hL,hml⟩:=HP.out.now.at_ i hil
    replace c0:=keepC HBW.out c0
    replace c1:=keepC HBW.out c1
    replace c2:=keepC HBW.out c2
    replace c3':=keepC HBW.out c3'
    replace c4:=keepC HBW.out c4
    replace c5:=keepC HBW.out c5
    have hi8 : lm ≤ 8:=by
     have:=(HFK.out.pass (k:=i) (by simp only [HN.out]; exact hlt)).fewW;rw [← hm,← hp];exact this
    have hlp : (([W,H,S,O,(n : Int)].map lowB ++ (pss.take i).flatMap pasBytes).length ≤ 600):=by
     have h1:=flatMap_bd (l:=pss.take i) (f:=pasBytes) (k:=48) (fun q hq=>by
      obtain ⟨j,hj,rfl⟩:=List.getElem_of_mem (List.mem_of_mem_take hq);have h2:=(HFK.out.pass (k:=j) hj).fewW;have e : (Frm.mk W H S O pss).pas j = pss[j]:=by show pss.getD j noPas = _; rw [List.getD_eq_getElem?_getD,List.getElem?_eq_getElem hj]; rfl
      rw [e] at h2;rw [pas_len]
      omega)
     rw [List.length_take] at h1;simp only [List.length_append,List.length_map,List.length_cons,List.length_nil];omega
    have hfm : (pss.take (i + 1)).flatMap pasBytes = (pss.take i).flatMap pasBytes ++ pasBytes p:=by
     rw [flatMap_snocW hil];have e : pss[i] = p:=by rw [← hp,List.getD_eq_getElem?_getD,List.getElem?_eq_getElem hil]; rfl
     rw [e]
    obtain ⟨l0,hl0⟩ : ∃ l0,[W,H,S,O,(n : Int)].map lowB ++ (pss.take i).flatMap pasBytes = l0:=⟨_,rfl⟩;rw [hl0] at HPA hlp;have HLP:=hide hlp;have HFM:=hide (show [W,H,S,O,(n : Int)].map lowB ++ (pss.take (i + 1)).flatMap pasBytes = l0 ++ pasBytes p from by rw [hfm,← List.append_assoc,hl0]);have HLA:=hide (Keeps.lampsK hL);have HLM:=hide hm;have hps : pb < wo.heap.size:=HPA.out.box.lt;clear hp hm hL hlp hfm hl0 hil;go_wp2_with fail;have hpen : PenAt ((wo.alloc (.cells #[.int .i64 p.Op,.int .i64 p.To,.int .i64 p.A,.int .i64 p.B,.int .i64 p.K,.slice LA lm ld] 110)).alloc (.cells #[.int .i64 p.Op,.int .i64 p.To,.int .i64 p.A,.int .i64 p.B,.int .i64 (p.K / 65536),.int .i64 (p.K / 256),.int .i64 p.K,.int .i64 lm] 3)) pb l0 A m d:=HPA.out.keep (((Below.refl _ _).alloc (Nat.le_refl _) _).alloc (by simp) _);have hrow : Blk ((wo.alloc (.cells #[.int .i64 p.Op,.int .i64 p.To,.int .i64 p.A,.int .i64 p.B,.int .i64 p.K,.slice LA lm ld] 110)).alloc (.cells #[.int .i64 p.Op,.int .i64 p.To,.int .i64 p.A,.int .i64 p.B,.int .i64 (p.K / 65536),.int .i64 (p.K / 256),.int .i64 p.K,.int .i64 lm] 3)) (wo.heap.size + 1) 3 ([p.Op,p.To,p.A,p.B,p.K / 65536,p.K / 256,p.K,(lm : Int)].map (.int .i64)):=Blk.newE (by simp);have hpx : PasBox ((wo.alloc (.cells #[.int .i64 p.Op,.int .i64 p.To,.int .i64 p.A,.int .i64 p.B,.int .i64 p.K,.slice LA lm ld] 110)).alloc (.cells #[.int .i64 p.Op,.int .i64 p.To,.int .i64 p.A,.int .i64 p.B,.int .i64 (p.K / 65536),.int .i64 (p.K / 256),.int .i64 p.K,.int .i64 lm] 3)) wo.heap.size p LA lm ld:=(Blk.new wo 110 (passCells p LA lm ld)).alloc _;have hkp : KeptP pb wo ((wo.alloc (.cells #[.int .i64 p.Op,.int .i64 p.To,.int .i64 p.A,.int .i64 p.B,.int .i64 p.K,.slice LA lm ld] 110)).alloc (.cells #[.int .i64 p.Op,.int .i64 p.To,.int .i64 p.A,.int .i64 p.B,.int .i64 (p.K / 65536),.int .i64 (p.K / 256),.int .i64 p.K,.int .i64 lm] 3)):=((KeptP.refl pb wo).alloc (by omega) _).alloc (by simp; omega) _;refine (bytes_any pb (wo.heap.size + 1) 8 8 [p.Op,p.To,p.A,p.B,p.K / 65536,p.K / 256,p.K,(lm : Int)] l0 A m d _ rfl hrow hpen (by omega) (by have:=HLP.out; omega)).mono ?_;rintro e w4 ⟨rfl,⟨A4,n4,c4',hP4⟩,hK4⟩;have HP4:=hide hP4;have HK4:=hide (HKW.out.trans (hkp.trans hK4));have HX4:=hide (show PasBox w4 wo.heap.size p LA lm ld from hK4.blk _ _ _ (by decide) (by omega) hpx);obtain ⟨y,y0,y1,y2,y3,y4,y5⟩:=PasBox.cells HX4.out;clear hpen hrow hpx hkp hP4 hK4 x q0 q1 q2 q3 q4 c0 c1 c2 c3' c4 c5;go_wp2_with fail;clear y y0 y1 y2 y3 y4 y5;go_loopw [9,63] (fun _ s63 wx=>∃ (j : Nat) (A : Option Addr) (m d : Nat),j ≤ lm ∧ s63 = .int .i64 (j : Int) ∧ Hid (PenAt wx pb (l0 ++ ([p.Op,p.To,p.A,p.B,p.K / 65536,p.K / 256,p.K,(lm : Int)].map lowB ++ (p.L.take j).flatMap lampBytes)) A m d) ∧ Hid (KeptP pb w4 wx)) (fun _ s63 _=>lm - (intOf s63).toNat)
    case atStart=>exact ⟨0,A4,n4,c4',Nat.zero_le _,rfl,by simpa using HP4,hide (KeptP.refl _ _)⟩
    case round =>
     obtain ⟨j,A5,m5,d5,hj,rfl,HPB,HKX⟩:=hrel;have HBX5:=hide (HE2.out.trans ((show Below w2.heap.size w2 wr from by rw [hpb]; exact (HK4.out.trans HKX.out).below).mono HE2.out.size));obtain ⟨y,y0,y1,y2,y3,y4,y5⟩:=PasBox.cells (show PasBox wr wo.heap.size p LA lm ld from HKX.out.blk _ _ _ (by decide) (by omega) HX4.out);by_cases hjl : j < lm
     ·have hj0 : (0 : Int) ≤ (j : Int):=by omega
      have hj1 : (j : Int) < (lm : Int):=by omega
      have hjm : j < p.L.length:=by rw [HLM.out]; exact hjl
      obtain ⟨lb,lo,q,rfl,hlb,hq,a0,a1,a2,a3⟩:=(HLA.out.later _ HBX5.out).at_ j hjm
      have hfm : (p.L.take (j + 1)).flatMap lampBytes = (p.L.take j).flatMap lampBytes ++ lampBytes q:=by
       rw [flatMap_snocW hjm];have e : p.L[j] = q:=by rw [List.getElem?_eq_getElem hjm] at hq; injection hq
       rw [e]
      have hlq : ((l0 ++ ([p.Op,p.To,p.A,p.B,p.K / 65536,p.K / 256,p.K,(lm : Int)].map lowB ++ (p.L.take j).flatMap lampBytes)).length ≤ 700):=by
       have h1:=flatMap_bd (l:=p.L.take j) (f:=lampBytes) (k:=5) (fun q hq=>by simp [lampBytes]);rw [List.length_take] at h1;have:=HLP.out;simp only [List.length_append,List.length_map,List.length_cons,List.length_nil];omega
      have HFQ:=hide (show l0 ++ ([p.Op,p.To,p.A,p.B,p.K / 65536,p.K / 256,p.K,(lm : Int)].map lowB ++ (p.L.take (j + 1)).flatMap lampBytes) = (l0 ++ ([p.Op,p.To,p.A,p.B,p.K / 65536,p.K / 256,p.K,(lm : Int)].map lowB ++ (p.L.take j).flatMap lampBytes)) ++ lampBytes q from by rw [hfm]; simp only [List.append_assoc]);have HLQ:=hide hlq;have hps5 : pb < wr.heap.size:=HPB.out.box.lt;clear hq hfm hlq hjm;go_wp2_with fail;have hpen : PenAt ((wr.alloc (.cells #[.int .i64 q.X,.int .i64 q.Y,.int .i64 q.R,.int .i64 q.K] 59)).alloc (.cells #[.int .i64 q.X,.int .i64 q.Y,.int .i64 q.R,.int .i64 (q.K / 256),.int .i64 q.K] 3)) pb _ A5 m5 d5:=HPB.out.keep (((Below.refl _ _).alloc (Nat.le_refl _) _).alloc (by simp) _);have hrow : Blk ((wr.alloc (.cells #[.int .i64 q.X,.int .i64 q.Y,.int .i64 q.R,.int .i64 q.K] 59)).alloc (.cells #[.int .i64 q.X,.int .i64 q.Y,.int .i64 q.R,.int .i64 (q.K / 256),.int .i64 q.K] 3)) (wr.heap.size + 1) 3 ([q.X,q.Y,q.R,q.K / 256,q.K].map (.int .i64)):=Blk.newE (by simp);have hkp : KeptP pb wr ((wr.alloc (.cells #[.int .i64 q.X,.int .i64 q.Y,.int .i64 q.R,.int .i64 q.K] 59)).alloc (.cells #[.int .i64 q.X,.int .i64 q.Y,.int .i64 q.R,.int .i64 (q.K / 256),.int .i64 q.K] 3)):=((KeptP.refl pb wr).alloc (by omega) _).alloc (by simp; omega) _;refine (bytes_any pb (wr.heap.size + 1) 5 5 [q.X,q.Y,q.R,q.K / 256,q.K] _ A5 m5 d5 _ rfl hrow hpen (by omega) (by have:=HLQ.out; omega)).mono ?_;rintro e w6 ⟨rfl,⟨A6,n6,c6,hP6⟩,hK6⟩;have HP6:=hide hP6;have HK6:=hide (HKX.out.trans (hkp.trans hK6));clear hpen hrow hkp hP6 hK6 y y0 y1 y2 y3 y4 y5 a0 a1 a2 a3;go_wp2_with fail;go_roundw
      case rel=>exact ⟨j + 1,A6,n6,c6,by omega,by go_num,by rw [HFQ.out,lamp_low]; exact HP6,HK6⟩
      case measure=>simp [intOf]; omega
     ·obtain rfl : j = lm:=by omega
      have hfl : (p.L.take j) = p.L:=List.take_of_length_le (by rw [HLM.out]; exact Nat.le_refl _);have hfb : l0 ++ ([p.Op,p.To,p.A,p.B,p.K / 65536,p.K / 256,p.K,(j : Int)].map lowB ++ (p.L.take j).flatMap lampBytes) = l0 ++ pasBytes p:=by rw [hfl,pas_low,HLM.out]
      have HFB:=hide hfb;clear hfl hfb;go_wp2_with fail;exact ⟨⟨i + 1,A5,m5,d5,by omega,by go_num,by rw [HFM.out,← HFB.out]; exact HPB,hide (HK4.out.trans HKX.out)⟩,by simp [intOf]; omega⟩
   ·obtain rfl : i = n:=by omega
    have hpc : wo.cell? ⟨pb,0,none⟩ = some (.slice A m d):=(HPA.out.box.cell 0).trans rfl;have hfl : (pss.take i) = pss:=List.take_of_length_le (by rw [HN.out]; exact Nat.le_refl _);have hfb : [W,H,S,O,(i : Int)].map lowB ++ (pss.take i).flatMap pasBytes = frmBytes ⟨W,H,S,O,pss⟩:=by rw [hfl,frm_low]; simp only; rw [HN.out]
    have hcv:=pen_string HPA.out;rw [hfb] at hcv;clear hfl hfb;go_wp2_with fail;go_ret2;exact ⟨rfl,HB.out.trans (HBW.out.mono HB.out.size)⟩
 ·have hz2 : (z != 0) = true:=by simpa using h0
  rw [if_neg h0];clear h0;go_enter Try.func37,Try.ntmps37
  go_wp2_with fail;refine (unhide HCK).mono ?_;rintro e w2 ⟨rfl,hE2⟩;have HE2:=hide (HB.out.trans (hE2.mono HB.out.size));clear hw1 x q0 q1 q2 q3 q4 hE2 HCK;go_wp2_with fail;go_ret2;exact ⟨rfl,HE2.out⟩
end Go.Proofs.Ytibpmogmeoappaa
