/- Walks: ArenaFine, lies (of the reference). -/
import Derived.Test.YtibpmogmeoappabGreatJExcA
import Derived.Test.YtibpmogmeoappabGreatJPlnH
set_option maxRecDepth 100000
set_option maxHeartbeats 16000000
namespace Go.Proofs.YtibpmogmeoappabGreat
open Go.RowKit
theorem badN_in (x : Int) : badN x = !(inR x 0 65535):=by
 unfold badN inR;by_cases h : x < 0 ∨ 65535 < x
 ·rw [decide_eq_true h,decide_eq_false (by omega)]; rfl
 ·rw [decide_eq_false h,decide_eq_true (by omega)]; rfl
theorem arenaFine_ref (A : Option Addr) (n c : Nat) (l : List Int) (w : World) (hn : l.length = n) (hI : Ints w A l) (hl : n ≤ 9223372036854775807) :
 Calls Tryz.prog 14 #[.slice A n c] w fun e w'=>e = .returned (.bool (!(l.any badN))) ∧ w = w':=by
 have HN:=hide hn;have HI:=hide hI;clear hn hI;go_enter Tryz.func14,Tryz.ntmps14
 go_wp2_with fail;go_loop [3] (fun i=>∃ j : Nat,j ≤ n ∧ i = .int .i64 j ∧ Hid (∀ x ∈ l.take j,badN x = false)) (fun i=>n - (intOf i).toNat)
 case atStart=>exact ⟨0,Nat.zero_le _,rfl,hide (fun x hx=>by simp at hx)⟩
 case round =>
  obtain ⟨j,hj,rfl,HJ⟩:=hrel;by_cases hlt : j < n
  ·have hj0 : (0 : Int) ≤ (j : Int):=by omega
   have hj1 : (j : Int) < (n : Int):=by omega
   have hjl : j < l.length:=by rw [HN.out]; exact hlt
   obtain ⟨b,o,v,hA,hb,hv,cv⟩:=Ints.at_ HI.out j hjl;obtain rfl:=hA;have HV:=hide (show l[j] = v from by rw [List.getElem?_eq_getElem hjl] at hv; injection hv);obtain ⟨bd,hbd⟩ : ∃ bd,inR v 0 65535 = bd:=⟨_,rfl⟩;have hcl:=fun W0=>within_any v 0 65535 W0;rw [hbd] at hcl;have HCL:=hide hcl;have HBD:=hide (show badN v = !bd from by rw [badN_in,hbd]);clear hcl hbd hv
   cases bd with
   | false =>
     go_wp2_with (go_at_call 32; refine ((unhide HCL) _).mono ?_; rintro e w1 ⟨rfl,rfl⟩)
     go_ret;refine ⟨ret_bool ?_,rfl⟩;rw [List.any_eq_true.2 ⟨v,by rw [← HV.out]; exact List.getElem_mem hjl,HBD.out⟩];rfl
   | true =>
     go_wp2_with (go_at_call 32; refine ((unhide HCL) _).mono ?_; rintro e w1 ⟨rfl,rfl⟩)
     go_round
     case rel =>
      refine ⟨j + 1,by omega,by go_num,hide (fun x hx=>?_)⟩;rw [List.take_add_one,List.getElem?_eq_getElem hjl] at hx;rcases List.mem_append.1 hx with h | h
      ·exact HJ.out x h
      ·simp only [Option.toList_some,List.mem_singleton] at h
       rw [h,HV.out]; exact HBD.out
     case measure=>simp [intOf]; omega
  ·obtain rfl : j = n:=by omega
   go_wp2_with fail;go_ret;refine ⟨ret_bool ?_,rfl⟩;rw [show l.any badN = false from ?_]; · rfl
   rw [Bool.eq_false_iff];intro h;obtain ⟨x,hx,hb⟩:=List.any_eq_true.1 h;rw [HJ.out x (by rw [List.take_of_length_le (by rw [HN.out]; exact Nat.le_refl _)]; exact hx)] at hb;cases hb
theorem run_partS (g s o a m d : Nat) (lo hi : Int) (hlo : lo = (o : Int)) (hhi : hi = lo + (a : Int)) (h0 : 0 < a) (hd : o + a ≤ d) (w : World) :
 (Instr.slice 25 (.slice (some ⟨g,s,none⟩) m d) (some (.int .i64 lo)) (some (.int .i64 hi)) none).run Tryz.prog w = .ok (.slice (some ⟨g,s + o,none⟩) a (d - o)) w:=by
 subst hlo hhi
 have hsz : ∀ W : World,(sizeOf (Tryz.prog.elem 25)).run Tryz.prog W = .ok 1 W:=fun W=>by
  rw [show Tryz.prog.elem 25 = 3 from by kernel_rfl];simp [sizeOf]
  rfl
 rw [run_slice_lh w _ _ _ _ (by rw [show Tryz.prog.elem 25 = 3 from by kernel_rfl]; exact Tryz.underlying25) .i64 .i64 (o : Int) ((o : Int) + (a : Int)) (by omega) (by omega) (by omega),hsz];have h1 : ((o : Int) + (a : Int)).toNat = o + a:=by omega
 simp only [Result.andThen,sliced,Int.toNat_natCast,h1];rw [if_neg (by omega : ¬ d = o)];simp [Addr.add]
 try omega
theorem lies_ref (g s m d : Nat) (l : List Int) (sw sh pk : Int) (o a : Nat) (w : World) (hI : Ints w (some ⟨g,s,none⟩) l) (_hm : l.length = m) (hmd : m ≤ d) (hpk : pk = (o : Int)) (har : sw * sh = (a : Int)) (ha : 0 < a) (ha2 : a ≤ 256) (hfit : o + a ≤ m) (hm4 : m ≤ 4096) :
 Calls Tryz.prog 17 #[.slice (some ⟨g,s,none⟩) m d,.agg #[.int .i64 sw,.int .i64 sh],.int .i64 pk] w (RetImg w ⟨sw,sh,(l.drop o).take a⟩):=by
 obtain ⟨hi,hhi⟩ : ∃ hi : Int,hi = pk + (a : Int):=⟨_,rfl⟩;have hwr2 : IntKind.i64.wrap (pk + (a : Int)) = hi:=by rw [← hhi]; exact IntWalk.i64_in _ (by omega)
 have hsl:=fun W0 : World=>run_partS g s o a m d pk hi hpk hhi (by omega) (by omega) W0;have hlen : ((l.drop o).take a).length = a:=by simp only [List.length_take,List.length_drop]; omega
 have hal : Below w.heap.size w ((w.alloc (.cells #[.int .i64 sw,.int .i64 sh] 53)).alloc (.cells #[.int .i64 0,.int .i64 0,.slice none 0 0] 29)):=((Below.refl _ _).alloc (Nat.le_refl _) _).alloc (by simp) _;have hbs : Blk ((w.alloc (.cells #[.int .i64 sw,.int .i64 sh] 53)).alloc (.cells #[.int .i64 0,.int .i64 0,.slice none 0 0] 29)) w.heap.size 53 [.int .i64 sw,.int .i64 sh]:=(Blk.new w _ _).alloc _;have hrs : Blk ((w.alloc (.cells #[.int .i64 sw,.int .i64 sh] 53)).alloc (.cells #[.int .i64 0,.int .i64 0,.slice none 0 0] 29)) (w.heap.size + 1) 29 [.int .i64 0,.int .i64 0,.slice none 0 0]:=Blk.newE (by simp);obtain ⟨w1,hw1⟩ : ∃ w1,(w.alloc (.cells #[.int .i64 sw,.int .i64 sh] 53)).alloc (.cells #[.int .i64 0,.int .i64 0,.slice none 0 0] 29) = w1:=⟨_,rfl⟩;have HIN:=hide (Keeps.cells (show Cells w (some ⟨g,s + o,none⟩) (((l.drop o).take a).map (Value.int .i64)) from hI.part o a (by omega)));rw [hw1] at hal hbs hrs;have HIP:=hide (HIN.out.move hal);have s0 : w1.cell? ⟨w.heap.size,0,none⟩ = some (.int .i64 sw):=by rw [hbs.cell]; rfl
 have s1 : w1.cell? ⟨w.heap.size,1,none⟩ = some (.int .i64 sh):=by rw [hbs.cell]; rfl
 have HCS:=hide (show Keeps w1 (fun w' : World=>w'.cell? ⟨w.heap.size,0,none⟩ = some (.int .i64 sw) ∧ w'.cell? ⟨w.heap.size,1,none⟩ = some (.int .i64 sh)) from ⟨⟨s0,s1⟩,fun _ hb=>⟨keepC hb s0,keepC hb s1⟩⟩);have HRS:=hide hrs;have HAL:=hide hal;have HLEN:=hide hlen;have har2:=fun W0 : World=>area_is (W:=sw) (H:=sh) har (by omega) W0;have HARE:=hide har2;have hs1:=hrs.lt;obtain ⟨i0,hi0,hz0,hz1,hz2⟩:=info_parts Tryz.info3;clear hI hpk har hfit hhi hlen hal hbs hrs HIN har2;go_enter Tryz.func17,Tryz.ntmps17
 go_wp2_with fail
 have HS3:=hide (fun (w4 : World) (hb : Below w1.heap.size w1 w4) (u0 u1 u2 : Value)=>(show (fun w' : World=>w'.cell? ⟨w.heap.size,0,none⟩ = some (.int .i64 sw) ∧ w'.cell? ⟨w.heap.size,1,none⟩ = some (.int .i64 sh)) (((w4.setCell ⟨w.heap.size + 1,0,none⟩ u0).setCell ⟨w.heap.size + 1,1,none⟩ u1).setCell ⟨w.heap.size + 1,2,none⟩ u2) from by
  obtain ⟨e0,e1⟩:=HCS.out.later _ hb
  exact ⟨cellFar (cellFar (cellFar e0 (by simp)) (by simp)) (by simp),cellFar (cellFar (cellFar e1 (by simp)) (by simp)) (by simp)⟩))
 clear hw1
 go_region_held3 (fun w' : World=>w'.cell? ⟨w.heap.size,0,none⟩ = some (.int .i64 sw) ∧ w'.cell? ⟨w.heap.size,1,none⟩ = some (.int .i64 sh))
  (first | exact hS3 _ _ _ | exact HCS.out.later _ hB9 | exact HCS.out.later _ (hB2.alloc hB2.size _) | exact HCS.out.later _ hB2 | exact HCS.out.later _ ((Below.refl _ _).drew.alloc (Nat.le_refl _) _) | exact HCS.out.later _ (Below.refl _ _).drew)
  (first
    | (go_simp; go_at_call 39; refine ((unhide HARE) _).mono ?_; rintro e w2 ⟨rfl,hE2⟩; have hB2 : Below w1.heap.size w1 w2:=by first | exact (Below.refl _ _).drew.trans hE2 | exact ((Below.refl _ _).drew.alloc (Nat.le_refl _) _).trans (hE2.mono (by simp)))
    | (refine step_copyO w2 rfl _ _ 25 rfl w1.heap.size 3 i0 _ 1 8 Tryz.underlying25 hi0 hz0 hz1 hz2 rfl (by omega) w1.heap.size rfl (Blk.keep (show Blk (w1.drew.alloc (.cells #[] 3)) w1.heap.size 3 [] from Blk.newE (by simp)) hE2) (Nat.le_refl _) (some ⟨g,s + o,none⟩) a (d - o) (((l.drop o).take a).map (Value.int .i64)) rfl (by rw [List.length_map,HLEN.out,Nat.mul_one]) (HIP.out.later _ hB2) (ints_one _) (by omega) (by simp only [maxLen]; omega) (by omega) ?_; intro A9 c9 w9 hO9 hb9; have hB9 : Below w1.heap.size w1 w9:=hB2.trans hb9; obtain ⟨r0,r1,r2,r3,r4,r5,r6⟩:=resKeep hB9 HRS.out; have hS3:=(unhide HS3) _ hB9)
    | (refine step_copyO (w2.alloc (.cells #[] 3)) rfl _ _ 25 rfl w1.heap.size 3 i0 _ 1 8 Tryz.underlying25 hi0 hz0 hz1 hz2 rfl (by omega) w2.heap.size rfl (Blk.newE (by simp)) hB2.size (some ⟨g,s + o,none⟩) a (d - o) (((l.drop o).take a).map (Value.int .i64)) rfl (by rw [List.length_map,HLEN.out,Nat.mul_one]) (HIP.out.later _ (hB2.alloc hB2.size _)) (ints_one _) (by omega) (by simp only [maxLen]; omega) (by omega) ?_; intro A9 c9 w9 hO9 hb9; have hB9 : Below w1.heap.size w1 w9:=(hB2.alloc hB2.size _).trans hb9; obtain ⟨r0,r1,r2,r3,r4,r5,r6⟩:=resKeep hB9 HRS.out; have hS3:=(unhide HS3) _ hB9))
 all_goals
  go_wp2_with fail;refine bodyPost_ret (v:=.agg #[.int .i64 sw,.int .i64 sh,.slice A9 a c9]) ?_ rfl ?_
  ·simp [results,Tryz.results17,go_sem,r1,r2,r3]
  ·exact retPutO HLEN.out hO9 hs1 (by omega) (HAL.out.trans (hB9.mono HAL.out.size)) _ _ _
end Go.Proofs.YtibpmogmeoappabGreat
namespace Go.Proofs.YtibpmogmeoappabGreat
open Go.RowKit
def RetArena (w : World) (L : List Int) (e : Ending) (w' : World) : Prop :=
 ∃ (g d : Nat),e = .returned (.slice (some ⟨g,0,none⟩) L.length d) ∧ L.length ≤ d ∧ Ints w' (some ⟨g,0,none⟩) L ∧ w.heap.size ≤ g ∧ Below w.heap.size w w'
theorem places_at {w : World} {qb qo : Nat} {QA : Option Addr} {p : Pln} {x : Nat} (h : Ints w QA p.Places) (hx : x < p.Places.length) (hA : QA = some ⟨qb,qo,none⟩) : w.cell? ⟨qb,qo + x,none⟩ = some (.int .i64 (p.pl x)):=by
 obtain ⟨b,o,v,e,hb,hv,hc⟩:=Ints.at_ h x hx;rw [hA] at e;injection e with e;injection e with e1 e2;subst e1 e2;rw [hc];unfold Pln.pl;rw [List.getD_eq_getElem?_getD,hv];rfl
theorem places_addr {w : World} {QA : Option Addr} {p : Pln} (h : Ints w QA p.Places) (hx : 0 < p.Places.length) : ∃ qb qo,QA = some ⟨qb,qo,none⟩ ∧ qb < w.heap.size:=by
 obtain ⟨b,o,v,e,hb,hv,hc⟩:=Ints.at_ h 0 hx;exact ⟨b,o,e,hb⟩
theorem stepOf_run (W H S O : Int) (PA : Option Addr) (n c : Nat) (pss : List Pas) (OA : Option Addr) (on oc : Nat) (QA : Option Addr) (qn qc : Nat) (p : Pln) (g s m d : Nat) (l : List Int) (i : Nat) (w : World) (hn : pss.length = n) (hP : Passes w PA pss) (hl : n ≤ 9223372036854775807)
 (hO : Ints w OA p.Order) (hon : p.Order.length = on) (hQ : Ints w QA p.Places) (hqn : p.Places.length = qn) (hI : Ints w (some ⟨g,s,none⟩) l) (hm : l.length = m) (hmd : m ≤ d) (hok : ArOk ⟨W,H,S,O,pss⟩ p l) (hi : i < on) :
 Calls Tryz.prog 15 #[.agg #[.int .i64 W,.int .i64 H,.int .i64 S,.int .i64 O,.slice PA n c],.agg #[.slice OA on oc,.slice QA qn qc],.slice (some ⟨g,s,none⟩) m d,.int .i64 (i : Int)] w (RetArena w (stepAr ⟨W,H,S,O,pss⟩ p l (p.ord i).toNat)):=by
 have hb:=((Below.refl w.heap.size w).alloc (Nat.le_refl _) (.cells #[.int .i64 W,.int .i64 H,.int .i64 S,.int .i64 O,.slice PA n c] 24)).alloc (by simp) (.cells #[.slice OA on oc,.slice QA qn qc] 27);have hbx:=(show FrmBox (w.alloc (.cells #[.int .i64 W,.int .i64 H,.int .i64 S,.int .i64 O,.slice PA n c] 24)) w.heap.size W H S O PA n c from Blk.new w 24 (frmCells W H S O PA n c)).alloc (.cells #[.slice OA on oc,.slice QA qn qc] 27);have hpx : Blk ((w.alloc (.cells #[.int .i64 W,.int .i64 H,.int .i64 S,.int .i64 O,.slice PA n c] 24)).alloc (.cells #[.slice OA on oc,.slice QA qn qc] 27)) (w.heap.size + 1) 27 [.slice OA on oc,.slice QA qn qc]:=Blk.newE (by simp);have hcf:=checkFrame_ref W H S O PA n c pss _ hn (hP.keep hb) hl;have hso:=fun (h12 : n ≤ 12) (W0 : World) (h1 : Passes W0 PA pss)=>sourcesOf_ref W H S O PA n c pss W0 hn h1 h12;have hio:=hO.keep hb;have hiq:=hQ.keep hb;have hig:=hI.keep hb;have hpp:=hP.keep hb;obtain ⟨f,hf⟩ : ∃ f : Frm,f = ⟨W,H,S,O,pss⟩:=⟨_,rfl⟩;have HFW:=hide (show f.W = W ∧ f.H = H ∧ f.P = pss from by rw [hf]; exact ⟨rfl,rfl,rfl⟩);have hfn : f.P.length = n:=by rw [hf]; exact hn
 rw [← hf] at hcf hso hok ⊢;rw [frErr_zero.2 hok.frm] at hcf;have hso:=hso (by have:=hok.frm.many; omega);obtain ⟨w1,hw1⟩ : ∃ w1,((w.alloc (.cells #[.int .i64 W,.int .i64 H,.int .i64 S,.int .i64 O,.slice PA n c] 24)).alloc (.cells #[.slice OA on oc,.slice QA qn qc] 27)) = w1:=⟨_,rfl⟩;rw [hw1] at hb hbx hpx hio hiq hig hpp hcf;obtain ⟨k,hk⟩ : ∃ k : Nat,p.ord i = (k : Int):=⟨(p.ord i).toNat,by have:=(hok.ordAt (i:=i) (by omega)).1; omega⟩;obtain ⟨⟨o0,o1⟩,o2⟩:=hok.ordAt (i:=i) (by omega);rw [hk,Int.toNat_natCast] at o2;rw [hk,Int.toNat_natCast];have hkn : k < n:=by omega
 obtain ⟨ob,oo,rfl,hob,co⟩:=hio i (by rw [List.length_map]; omega)
 have ev : (p.Order.map (Value.int .i64)).getD i undef = .int .i64 (k : Int):=by
  rw [← hk,List.getD_eq_getElem?_getD,List.getElem?_map,p.ord_at (by omega)];rfl
 rw [ev] at co;have hi1 : (i : Int) < (on : Int):=by omega
 have hi0' : (0 : Int) ≤ (i : Int):=by omega
 have hqf : p.Places.length = f.P.length:=hok.ord.places;obtain ⟨qb,qo,rfl,hqb⟩:=places_addr hiq (by omega);have HB:=hide hb;have HBX:=hide (Keeps.blk hbx);have HPX:=hide (Keeps.blk hpx);have HCO:=hide (Keeps.cell co);have HIQ:=hide (Keeps.ints hiq);have HIG:=hide (Keeps.ints hig);have HP:=hide (Keeps.passes hpp);have HCF:=hide hcf;have HSO:=hide hso;have HOK:=hide hok;have HQN:=hide hqn;have HFN:=hide hfn;have HMM:=hide (show l.length = m ∧ m ≤ d ∧ m ≤ 4096 from ⟨hm,hmd,by have:=hok.room; omega⟩);have HDN:=hide o2;have hs1:=hpx.lt;obtain ⟨x,q0,q1,q2,q3,q4⟩:=FrmBox.cells (show FrmBox _ _ W H S O PA n c from hbx);obtain ⟨i0,hi0,hz0,hz1,hz2⟩:=info_parts Tryz.infoImg;obtain ⟨j0,hj0,jz0,jz1,jz2⟩:=info_parts Tryz.info3;have HI0:=hide hi0;have HZ0:=hide hz0;have HZ1:=hide hz1;have HZ2:=hide hz2;have HJI:=hide (show (Tryz.prog.info? 3).map (·.size) = some 1 from by rw [hj0]; simp [jz1])
 have HJ0:=hide hj0;have HJ1:=hide jz0;have HJ2:=hide jz1;have HJ3:=hide jz2;clear hn hP hO hQ hI hm hmd hok hbx hpx hb hio hiq hig hpp hcf hso hf hfn hon hqn hl o0 o1 o2 hk ev hqb co hqf hi0 hz0 hz1 hz2 hj0 jz0 jz1 jz2 hi;go_enter Tryz.func15,Tryz.ntmps15
 go_wp2_with fail;refine (unhide HCF).mono ?_;rintro e w2 ⟨ZA,zn,zc,rfl,hzn,hZ,hE2⟩;have HZS:=hide (show Keeps w2 (fun w'=>Sizes w' ZA (frSizes f)) from ⟨hZ,fun _ hb=>Cells.keep hZ hb⟩);have HZN:=hide (show zn = n from by rw [← hzn,sizes_len HOK.out.frm]; exact HFN.out);have HE2:=hide hE2;have r9:=HPX.out.later _ hE2;obtain ⟨y,r0,r1⟩:=plan_box r9;have co2:=HCO.out.later _ hE2;clear hzn hZ hE2 hw1 q0 q1 q2 q3 q4 x HCF r9;obtain ⟨x,q0,q1,q2,q3,q4⟩:=FrmBox.cells (show FrmBox _ _ W H S O PA n c from HBX.out.later _ HE2.out);go_wp2_with fail;refine ((unhide HSO) _ (HP.out.later _ HE2.out)).mono ?_;rintro e w3 ⟨RA,rn,rc,rfl,hrn,hR,hE3⟩;have hsr : (srcsTo f n)[k]? = some (srcs f k):=by simp [srcsTo,hkn]
 obtain ⟨rb,ro,RB,sm,sd,rfl,hrb,cr,hsm,hsI⟩:=hR k _ hsr;have hrn' : rn = n:=by rw [← hrn]; simp [srcsTo]
 subst hrn';have hs2 : sm ≤ 2:=by rw [← hsm]; exact srcs_le f k
 have HSI:=hide (Keeps.ints hsI);have HSM:=hide hsm;have HE3:=hide (HE2.out.trans (hE3.mono HE2.out.size));have HZ3:=hide (HZS.out.move hE3);have hk0 : (0 : Int) ≤ (k : Int):=by omega
 have hk1 : (k : Int) < (rn : Int):=by omega
 clear hsr hR hrn hsm hsI hE3 HE2 HZS HSO r0 r1 co2 q0 q1 q2 q3 q4 x y;go_wp2_with fail;go_loopw [13,14] (fun s9 i9 wr=>∃ (j : Nat) (A : Option Addr) (dj : Nat) (es : List Sp),j ≤ sm ∧ i9 = .int .i64 j ∧ s9 = .slice A j dj ∧ Hid (GRow ImgK 3 29 wr w3.heap.size A j dj ((lain f p l k).take j) es) ∧ Hid (Below w3.heap.size w3 wr)) (fun _ i9 _=>sm - (intOf i9).toNat)
 case atStart=>exact ⟨0,none,0,[],Nat.zero_le _,rfl,rfl,hide (GRow.nil _ _ _ _ _),hide (Below.refl _ _)⟩
 case round =>
  obtain ⟨j,A,dj,es,hj,rfl,rfl,HR,HBW⟩:=hrel;clear cr;by_cases hlt : j < sm
  ·have hj0' : (0 : Int) ≤ (j : Int):=by omega
   have hj1 : (j : Int) < (sm : Int):=by omega
   obtain ⟨sb,so,v,rfl,hsb,hv,hsc⟩:=HSI.out.now.at_ j (by have:=HSM.out; omega);have hmem:=List.mem_of_getElem? hv;obtain ⟨e0,e1⟩:=HOK.out.frm.src (k:=k) (by rw [HFN.out]; exact hkn) hmem;have e2:=HOK.out.srcDone HDN.out hmem;obtain ⟨x,hx⟩ : ∃ x : Nat,v = (x : Int):=⟨v.toNat,by omega⟩;subst hx;have hxn : x < rn:=by omega
   have hxf : x < f.P.length:=by rw [HFN.out]; exact hxn
   have hTK : (lain f p l k)[j]? = some (lieAt l f p x):=by unfold lain; rw [List.getElem?_map,hv]; simp only [Option.map_some]; unfold lieOf; rw [if_neg (by omega),Int.toNat_natCast]
   have hpl:=HOK.out.place hxf e2;have hsz:=frSize_bd HOK.out.frm hxf;obtain ⟨zb,zo,rfl,hzb,cz0,cz1⟩:=Sizes.at_ HZ3.out.now (i:=x) (by rw [sizes_len HOK.out.frm]; exact hxf);rw [size_at HOK.out.frm hxf] at cz0 cz1;have cq:=places_at (HIQ.out.later _ HE3.out) (x:=x) (by rw [HOK.out.ord.places]; exact hxf) rfl;obtain ⟨y,r0,r1⟩:=plan_box (HPX.out.later _ HE3.out);obtain ⟨sw,hsw⟩ : ∃ sw,(frSize f x).W = sw:=⟨_,rfl⟩;obtain ⟨sh,hsh⟩ : ∃ sh,(frSize f x).H = sh:=⟨_,rfl⟩;obtain ⟨pk,hpk⟩ : ∃ pk,p.pl x = pk:=⟨_,rfl⟩;obtain ⟨a,ha⟩ : ∃ a : Nat,areaOf f x = (a : Int):=⟨(areaOf f x).toNat,by omega⟩;obtain ⟨o,ho⟩ : ∃ o : Nat,pk = (o : Int):=⟨pk.toNat,by omega⟩;have har : sw * sh = (a : Int):=by rw [← ha]; unfold areaOf; rw [hsw,hsh]
   have hlie : lieAt l f p x = ⟨sw,sh,(l.drop o).take a⟩:=by unfold lieAt; rw [hsw,hsh,hpk,ho,ha]; rfl
   rw [hlie] at hTK;rw [hsw] at cz0;rw [hsh] at cz1;rw [hpk] at cq;rw [hpk,ho,ha] at hpl;rw [ha] at hsz;have HLR:=hide (fun (W0 : World) (h : Ints W0 (some ⟨g,s,none⟩) l)=>lies_ref g s m d l sw sh pk o a W0 h HMM.out.1 HMM.out.2.1 ho har (by omega) (by omega) (by have:=HMM.out.1; omega) HMM.out.2.2);obtain ⟨xi,hxi⟩ : ∃ xi : Img,(⟨sw,sh,(l.drop o).take a⟩ : Img) = xi:=⟨_,rfl⟩;rw [hxi] at HLR hTK;have HTK:=hide hTK;have hz9 : (x : Int) < (zn : Int):=by have:=HZN.out; omega
   have hq9 : (x : Int) < (qn : Int):=by have:=HQN.out; have:=HOK.out.ord.places; omega
   have hx0 : (0 : Int) ≤ (x : Int):=by omega
   have HCS:=hide (show Keeps w3 (fun w' : World=>w'.cell? ⟨sb,so + j,none⟩ = some (.int .i64 (x : Int)) ∧ w'.cell? ⟨zb,zo + x * 2,none⟩ = some (.int .i64 sw) ∧ w'.cell? ⟨zb,zo + x * 2 + 1,none⟩ = some (.int .i64 sh) ∧ w'.cell? ⟨w.heap.size + 1,1,none⟩ = some (.slice (some ⟨qb,qo,none⟩) qn qc) ∧ w'.cell? ⟨qb,qo + x,none⟩ = some (.int .i64 pk)) from ⟨⟨hsc,cz0,cz1,r1,cq⟩,fun _ hb=>⟨keepC hb hsc,keepC hb cz0,keepC hb cz1,keepC hb r1,keepC hb cq⟩⟩);have HIGR:=hide (HIG.out.move (HE3.out.trans (HBW.out.mono HE3.out.size)));have HOW:=hide (fun bb (h : (Value.slice A j dj).ownBlock = some bb)=>(HR.out.own.lt h).2);obtain ⟨d0,d1,d2,d3,d4⟩:=HCS.out.later _ HBW.out;have hi0:=HI0.out;have hz0:=HZ0.out;have hz1:=HZ1.out;have hz2:=HZ2.out;have hsw3:=HBW.out.size;clear hsc cz0 cz1 r0 r1 cq hmem e0 e1 e2 hv hTK hxi hpl hsz hlie har ha ho hpk hsw hsh hxf hxn;go_wp2_with fail
   go_region_held3 (fun w' : World=>w'.cell? ⟨sb,so + j,none⟩ = some (.int .i64 (x : Int)) ∧ w'.cell? ⟨zb,zo + x * 2,none⟩ = some (.int .i64 sw) ∧ w'.cell? ⟨zb,zo + x * 2 + 1,none⟩ = some (.int .i64 sh) ∧ w'.cell? ⟨w.heap.size + 1,1,none⟩ = some (.slice (some ⟨qb,qo,none⟩) qn qc) ∧ w'.cell? ⟨qb,qo + x,none⟩ = some (.int .i64 pk))
    (first | exact HCS.out.later _ hb9 | exact HCS.out.later _ (hB2.alloc hB2.size _) | exact HCS.out.later _ hB2 | exact HCS.out.later _ HBW.out.drew)
    (first
      | (go_simp; go_at_call 17; refine ((unhide HLR) _ (HIGR.out.later _ (Below.refl _ _).drew)).mono ?_; rintro e w4 ⟨U1,H1,P1,A1,n1,c1,hr,hn1,rfl,hI1,hA1,hE4⟩; have hB2 : Below w3.heap.size w3 w4:=HBW.out.drew.trans (hE4.mono HBW.out.size))
      | (refine step_app1W _ _ (by rfl) _ _ 68 (by rfl) w3.heap.size 29 i0 _ 3 40 Tryz.underlying68 hi0 hz0 hz1 hz2 rfl (by omega) A j dj _ [.int .i64 U1,.int .i64 H1,.slice A1 n1 c1] (by rfl) (Own.keep HR.out.own (by refine Below.alloc ?_ hE4.size _; exact (Below.refl _ _).drew.trans hE4)) (by rfl) (by first | exact Blk.newE (by first | rfl | simp)) rfl (one_img _ _ _ _ _) (by omega) (by omega) (by have:=hB2.size; simp only [World.size_alloc]; omega) ?_; intro A9 c9 w9 hown9 hg9 hat9; have hb9 : Below w3.heap.size w3 w9:=Below.grownOwn (hB2.alloc hB2.size _) (Own.keep HR.out.own (by refine Below.alloc ?_ hE4.size _; exact (Below.refl _ _).drew.trans hE4)) hg9 (by have:=hB2.size; simp only [World.size_alloc]; omega) (Nat.le_refl _)))
   go_wp2_with fail;go_roundw
   case rel =>
    refine ⟨j + 1,A9,c9,es ++ [([.int .i64 U1,.int .i64 H1,.slice A1 n1 c1],A1,P1.map (.int .i64))],by omega,by go_num,rfl,?_,hide hb9⟩;rw [List.take_add_one,HTK.out,← hr];refine hide ((HR.out.keep ((Below.refl _ _).drew.trans hE4)).app (x:=⟨U1,H1,P1⟩) ⟨n1,c1,rfl,hn1,rfl⟩ hI1 (fun _ a ha e=>?_) hown9 hg9 hat9);have h1:=HOW.out _ e;have h2 : wr.heap.size ≤ a.block:=hA1.new a ha;omega
   case measure=>simp [intOf]; omega
  ·obtain rfl : j = sm:=by omega
   have HRI:=hide (show Imgs wr A (lain f p l k) from by
    have h:=HR.out.imgs;rw [List.take_of_length_le (by unfold lain; rw [List.length_map,HSM.out]; exact Nat.le_refl _)] at h
    exact h)
   have HLL:=hide (show (lain f p l k).length = j from by unfold lain; rw [List.length_map]; exact HSM.out);have hkf : k < f.P.length:=by rw [HFN.out]; exact hkn
   have hpl:=HOK.out.place hkf HDN.out;have hsz:=frSize_bd HOK.out.frm hkf;have hlen:=doImg_len HOK.out hkf HDN.out;have hMD:=doMade HOK.out hkf HDN.out;obtain ⟨pk,hpk⟩ : ∃ pk,p.pl k = pk:=⟨_,rfl⟩;obtain ⟨o,ho⟩ : ∃ o : Nat,pk = (o : Int):=⟨pk.toNat,by omega⟩;have hstep : stepAr f p l k = putAt l o (doImg f p l k).P:=by unfold stepAr; rw [hpk,ho]; rfl
   have hB1r:=HE3.out.trans (HBW.out.mono HE3.out.size);obtain ⟨pb,po,LA,m',dd,ps,rfl,hpb,hps,c0,c1,c2,c3,c4,c5,hm',hL,hml⟩:=(HP.out.later _ hB1r).at_ k (by have:=HFW.out.2.2; rw [← this]; exact hkf);have hPK : f.pas k = ps:=by unfold Frm.pas; rw [HFW.out.2.2]; exact hps
   have hA0:=lain_a (f:=f) (p:=p) (l:=l) (k:=k);have hB0:=lain_b (f:=f) (p:=p) (l:=l) (k:=k);have hdo : doImg f p l k = passImg f.W f.H (f.pas k) (lieOf l f p (writerTo f k (f.pas k).A)) (lieOf l f p (writerTo f k (f.pas k).B)):=rfl;rw [hPK] at hMD hA0 hB0 hdo;rw [HFW.out.1,HFW.out.2.1] at hMD hdo;obtain ⟨di,hdi⟩ : ∃ di,doImg f p l k = di:=⟨_,rfl⟩;rw [hdi] at hdo hstep hlen;rw [hpk,ho] at hpl
   have HMD:=hide (fun (W0 : World) (h1 : Lamps W0 LA ps.L) (h2 : Imgs W0 A (lain f p l k))=>(show Calls Tryz.prog 36 #[.agg #[.int .i64 W,.int .i64 H,.int .i64 S,.int .i64 O,.slice (some ⟨pb,po,none⟩) rn c],.agg #[.int .i64 ps.Op,.int .i64 ps.To,.int .i64 ps.A,.int .i64 ps.B,.int .i64 ps.K,.slice LA m' dd],.slice A j dj] W0 (RetImg W0 di) from by
    rw [hdo]; exact refMade_all W H S O (some ⟨pb,po,none⟩) rn c ps LA m' dd A j dj (lain f p l k) _ _ W0 h1 hm' h2 HLL.out hMD hA0 (fun h=>hB0 h (hasA_of_B h))))
   have hll:=HMM.out;have hfit : o + di.P.length ≤ l.length:=by omega
   have hpos : 0 < di.P.length:=by omega
   have HST:=hide (show stepAr f p l k = putAt l o di.P ∧ o + di.P.length ≤ l.length ∧ 0 < di.P.length from ⟨hstep,hfit,hpos⟩);have hm0 : 0 < m:=by omega
   have hom : o < m:=by omega
   have HPOS:=hide (show 0 < m ∧ o < m ∧ m ≤ 4096 from ⟨hm0,hom,hll.2.2⟩);have HPK:=hide ho;have cq:=places_at (HIQ.out.later _ hB1r) (x:=k) (by rw [HOK.out.ord.places]; exact hkf) rfl;rw [hpk] at cq;obtain ⟨y,r0,r1⟩:=plan_box (HPX.out.later _ hB1r);obtain ⟨x,q0,q1,q2,q3,q4⟩:=FrmBox.cells (show FrmBox _ _ W H S O (some ⟨pb,po,none⟩) rn c from HBX.out.later _ hB1r);have HKS:=hide (show Keeps wr (fun w' : World=>w'.cell? ⟨w.heap.size,0,none⟩ = some (.int .i64 W) ∧ w'.cell? ⟨w.heap.size,1,none⟩ = some (.int .i64 H) ∧ w'.cell? ⟨w.heap.size,2,none⟩ = some (.int .i64 S) ∧ w'.cell? ⟨w.heap.size,3,none⟩ = some (.int .i64 O) ∧ w'.cell? ⟨w.heap.size,4,none⟩ = some (.slice (some ⟨pb,po,none⟩) rn c) ∧ w'.cell? ⟨w.heap.size + 1,1,none⟩ = some (.slice (some ⟨qb,qo,none⟩) qn qc) ∧ w'.cell? ⟨qb,qo + k,none⟩ = some (.int .i64 pk) ∧ w'.cell? ⟨pb,po + k * 6,none⟩ = some (.int .i64 ps.Op) ∧ w'.cell? ⟨pb,po + k * 6 + 1,none⟩ = some (.int .i64 ps.To) ∧ w'.cell? ⟨pb,po + k * 6 + 2,none⟩ = some (.int .i64 ps.A) ∧ w'.cell? ⟨pb,po + k * 6 + 3,none⟩ = some (.int .i64 ps.B) ∧ w'.cell? ⟨pb,po + k * 6 + 4,none⟩ = some (.int .i64 ps.K) ∧ w'.cell? ⟨pb,po + k * 6 + 5,none⟩ = some (.slice LA m' dd)) from ⟨⟨q0,q1,q2,q3,q4,r1,cq,c0,c1,c2,c3,c4,c5⟩,fun _ hb=>⟨keepC hb q0,keepC hb q1,keepC hb q2,keepC hb q3,keepC hb q4,keepC hb r1,keepC hb cq,keepC hb c0,keepC hb c1,keepC hb c2,keepC hb c3,keepC hb c4,keepC hb c5⟩⟩);have HLAR:=hide (Keeps.imp (⟨hL,fun _ hb=>hL.keep hb⟩ : Keeps wr (fun w'=>Lamps w' LA ps.L)) (fun _ h=>h));have HIMR:=hide (Keeps.imgs HRI.out);have HB1R:=hide hB1r;have hq9 : (k : Int) < (qn : Int):=by have:=HQN.out; have:=HOK.out.ord.places; omega
   have hal : Below wr.heap.size wr (wr.alloc (.cells #[] 3)):=(Below.refl _ _).alloc (Nat.le_refl _) _;have hia:=HIG.out.later _ (hB1r.trans (hal.mono hB1r.size));have HIA:=hide hia;have hj0:=HJ0.out;have jz0:=HJ1.out;have jz1:=HJ2.out;have jz2:=HJ3.out;have HLEN:=hide hll.1;have hmb : m ≤ 4096:=hll.2.2;clear ho hpl hsz hlen hMD hpk hstep hB1r hpb hps c0 c1 c2 c3 c4 c5 hm' hL hml hPK hA0 hB0 hdo hdi hfit hpos cq r0 r1 q0 q1 q2 q3 q4 x y hia hll HR;go_wp2_with (at_builtin; go_loud (refine wpList_copyO (wr.alloc (.cells #[] 3)) rfl _ _ 25 rfl 3 j0 _ 1 8 Tryz.underlying25 hj0 jz0 jz1 jz2 rfl (by omega) _ rfl (some ⟨g,s,none⟩) m d (l.map (Value.int .i64)) rfl (by rw [List.length_map,HLEN.out,Nat.mul_one]) HIA.out (ints_one l) hm0 (by simp only [maxLen]; omega) (by omega) ?_; intro A5 c5 w5 ho5 hb5))
   obtain ⟨g5,ex5,rfl,hgb5,hAr5,hgc5⟩:=Ar.of_own ho5 hm0;have hb5' : Below wr.heap.size wr w5:=hal.trans (hb5.mono hal.size);obtain ⟨q0,q1,q2,q3,q4,r1,cq,c0,c1,c2,c3,c4,c5'⟩:=HKS.out.later _ hb5';have HAR5:=hide hAr5;have HB5:=hide hb5';have hgw : wr.heap.size ≤ g5:=by have:=hal.size; omega
   have hg5lt:=hAr5.lt;have hsl:=fun W0 : World=>run_tail g5 o m c5 pk HPK.out hom hgc5 W0
   have HH:=hide (fun (w4 w9 : World) (hB2 : Below w5.heap.size w5 w4) (hg9 : w4.grownBy w9 (some g5))=>(show (fun w' : World=>w'.cell? ⟨w.heap.size,0,none⟩ = some (.int .i64 W) ∧ w'.cell? ⟨w.heap.size,1,none⟩ = some (.int .i64 H) ∧ w'.cell? ⟨w.heap.size,2,none⟩ = some (.int .i64 S) ∧ w'.cell? ⟨w.heap.size,3,none⟩ = some (.int .i64 O) ∧ w'.cell? ⟨w.heap.size,4,none⟩ = some (.slice (some ⟨pb,po,none⟩) rn c) ∧ w'.cell? ⟨w.heap.size + 1,1,none⟩ = some (.slice (some ⟨qb,qo,none⟩) qn qc) ∧ w'.cell? ⟨qb,qo + k,none⟩ = some (.int .i64 pk) ∧ w'.cell? ⟨pb,po + k * 6,none⟩ = some (.int .i64 ps.Op) ∧ w'.cell? ⟨pb,po + k * 6 + 1,none⟩ = some (.int .i64 ps.To) ∧ w'.cell? ⟨pb,po + k * 6 + 2,none⟩ = some (.int .i64 ps.A) ∧ w'.cell? ⟨pb,po + k * 6 + 3,none⟩ = some (.int .i64 ps.B) ∧ w'.cell? ⟨pb,po + k * 6 + 4,none⟩ = some (.int .i64 ps.K) ∧ w'.cell? ⟨pb,po + k * 6 + 5,none⟩ = some (.slice LA m' dd)) w9 from
    HKS.out.later _ (below_of_grown (grown_trB (grown_ofB (HB5.out.trans (hB2.mono HB5.out.size)) _) hg9) (Nat.le_refl _) hgw)))
   have HKS5:=hide (HKS.out.move hb5');clear ho5 hb5 hAr5 hb5' hal;go_wp2_with fail;clear q0 q1 q2 q3 q4 r1 cq c0 c1 c2 c3 c4 c5'
   go_region_held3 (fun w' : World=>w'.cell? ⟨w.heap.size,0,none⟩ = some (.int .i64 W) ∧ w'.cell? ⟨w.heap.size,1,none⟩ = some (.int .i64 H) ∧ w'.cell? ⟨w.heap.size,2,none⟩ = some (.int .i64 S) ∧ w'.cell? ⟨w.heap.size,3,none⟩ = some (.int .i64 O) ∧ w'.cell? ⟨w.heap.size,4,none⟩ = some (.slice (some ⟨pb,po,none⟩) rn c) ∧ w'.cell? ⟨w.heap.size + 1,1,none⟩ = some (.slice (some ⟨qb,qo,none⟩) qn qc) ∧ w'.cell? ⟨qb,qo + k,none⟩ = some (.int .i64 pk) ∧ w'.cell? ⟨pb,po + k * 6,none⟩ = some (.int .i64 ps.Op) ∧ w'.cell? ⟨pb,po + k * 6 + 1,none⟩ = some (.int .i64 ps.To) ∧ w'.cell? ⟨pb,po + k * 6 + 2,none⟩ = some (.int .i64 ps.A) ∧ w'.cell? ⟨pb,po + k * 6 + 3,none⟩ = some (.int .i64 ps.B) ∧ w'.cell? ⟨pb,po + k * 6 + 4,none⟩ = some (.int .i64 ps.K) ∧ w'.cell? ⟨pb,po + k * 6 + 5,none⟩ = some (.slice LA m' dd))
    (first | exact hs9 | exact HKS5.out.later _ hB2 | exact HKS5.out.later _ (Below.refl _ _).drew)
    (first
      | (go_simp; go_at_call 36; refine ((unhide HMD) _ (HLAR.out.later _ HB5.out.drew) (HIMR.out.later _ HB5.out.drew)).mono ?_; rintro e w4 ⟨U1,H1,P1,A1,n1,cc1,hr,hn1,rfl,hI1,hA1,hE4⟩; have hB2 : Below w5.heap.size w5 w4:=(Below.refl _ _).drew.trans hE4)
      | (refine step_copyB rfl _ _ _ _ rfl 3 Tryz.underlying25 HJI.out g5 o (m - o) (c5 - o) n1 cc1 A1 rfl rfl _ 3 (Blk.keep HAR5.out hB2) (P1.map (Value.int .i64)) (by have h:=HST.out.2.1; rw [← hr] at h; simp only at h; have:=HLEN.out; rw [List.length_map,hn1]; simp only [Nat.min_def]; split <;> omega) (by have h:=HST.out.2.2; rw [← hr] at h; simpa using h) hI1 (by have h:=HST.out.2.1; rw [← hr] at h; simp only [List.length_append,List.length_map] at h ⊢; omega) (ints_one _) ?_; intro w9 HB9 hg9; have hs9:=(unhide HH) _ _ hB2 hg9))
   have hfin : Ar w9 g5 (stepAr f p l k) ex5:=by
    have h1:=splice_put l di.P ex5 o HST.out.2.1;rw [HST.out.1]
    show Blk w9 g5 _ _
    rw [← h1,← hr];exact HB9.out
   have hlen9 : (stepAr f p l k).length = m:=by rw [HST.out.1,putAt_len HST.out.2.1]; exact HLEN.out
   have hbe : Below w1.heap.size w1 w9:=below_of_grown (grown_trB (grown_ofB ((HB1R.out.trans (HB5.out.mono HB1R.out.size)).trans (hB2.mono (Nat.le_trans HB1R.out.size HB5.out.size))) _) hg9) (Nat.le_refl _) (by have:=HB1R.out.size; omega);have HBE:=hide (HB.out.trans (hbe.mono HB.out.size));have HFI:=hide hfin.ints;have hwg : w.heap.size ≤ g5:=by have:=HB1R.out.size; have:=HB.out.size; omega
   clear hfin hbe hg9;go_wp2_with fail;go_ret;exact ⟨g5,c5,by rw [hlen9]; rfl,by rw [hlen9]; exact hgc5,HFI.out,hwg,HBE.out⟩
end Go.Proofs.YtibpmogmeoappabGreat
