/- Walk of the law NeedTells. -/
import Derived.Test.YtibpmogmeoappaaJNeedK
import Derived.Test.YtibpmogmeoappaaJNeed3
set_option maxRecDepth 100000
set_option maxHeartbeats 4000000
namespace Go.Proofs.Ytibpmogmeoappaa
open Go.RowKit
theorem cells_put {w : World} {A : Option Addr} {cs : List Value} (hC : Cells w A cs) {q : Addr} (hA : 0 < cs.length → ∀ x,A = some x → x.block ≠ q.block) (u : Value) : Cells (w.setCell q u) A cs :=
 fun i hi=>by
  obtain ⟨b,o,e,hlt,hc⟩:=hC i hi;refine ⟨b,o,e,by simpa [World.setCell] using hlt,?_⟩;rw [World.cell?_setCell_other _ _ _ _ (fun h=>hA (by omega) _ e (by rw [h]))];exact hc
structure TellsT (W H S O : Int) (PA : Option Addr) (n c : Nat) (ps : List Pas) (la : Int) (kl : List Bool) (cl : List Pas) : Prop where
 last : ∀ W0 : World,Passes W0 PA ps → Calls Try.prog 44 #[.agg #[.int .i64 W,.int .i64 H,.int .i64 S,.int .i64 O,.slice PA n c]] W0 (RetIE W0 la 0)
 kept : ∀ W0 : World,Passes W0 PA ps → Calls Try.prog 45 #[.agg #[.int .i64 W,.int .i64 H,.int .i64 S,.int .i64 O,.slice PA n c]] W0 (RetBools W0 kl 0)
 cull : ∀ W0 : World,Passes W0 PA ps → Calls Try.prog 46 #[.agg #[.int .i64 W,.int .i64 H,.int .i64 S,.int .i64 O,.slice PA n c]] W0 (RetFrm W0 ⟨W,H,S,O,cl⟩ 0)
 check : ∀ W0 : World,Passes W0 PA ps → Calls Try.prog 38 #[.agg #[.int .i64 W,.int .i64 H,.int .i64 S,.int .i64 O,.slice PA n c]] W0 (RetSzs W0 (frSizes ⟨W,H,S,O,ps⟩) 0)
 lastR : ∀ W0 : World,Passes W0 PA ps → Calls Try.prog 47 #[.agg #[.int .i64 W,.int .i64 H,.int .i64 S,.int .i64 O,.slice PA n c]] W0 (RetE W0 la)
 keptR : ∀ W0 : World,Passes W0 PA ps → Calls Try.prog 48 #[.agg #[.int .i64 W,.int .i64 H,.int .i64 S,.int .i64 O,.slice PA n c]] W0 (RetBs W0 kl)
 cullR : ∀ W0 : World,Passes W0 PA ps → Calls Try.prog 49 #[.agg #[.int .i64 W,.int .i64 H,.int .i64 S,.int .i64 O,.slice PA n c]] W0 (RetFrmV W0 ⟨W,H,S,O,cl⟩)
 klen : kl.length = n
 many : n ≤ 12
 clen : cl.length ≤ 12
theorem tellsT (W H S O : Int) (PA : Option Addr) (n c : Nat) (ps : List Pas) (hn : ps.length = n) (he : frErr ⟨W,H,S,O,ps⟩ = 0) (hl : n ≤ 9223372036854775807) :
 ∃ (la : Int) (kl : List Bool) (cl : List Pas),TellsT W H S O PA n c ps la kl cl:=by
 have hok:=frErr_zero.1 he;have e1 : cullAns ⟨W,H,S,O,ps⟩ = frCull ⟨W,H,S,O,ps⟩:=if_pos he;have e2 : lastAns ⟨W,H,S,O,ps⟩ = frLast ⟨W,H,S,O,ps⟩:=if_pos he;have e4 : keptAns ⟨W,H,S,O,ps⟩ = keptL ⟨W,H,S,O,ps⟩:=if_pos he;have hm:=hok.many;simp only at hm;refine ⟨frLast ⟨W,H,S,O,ps⟩,keptL ⟨W,H,S,O,ps⟩,cullTo ⟨W,H,S,O,ps⟩ ps.length,?_,?_,?_,?_,?_,?_,?_,?_,by omega,?_⟩
 ·intro W0 h1
  have:=last_any W H S O PA n c ps W0 hn h1
  rwa [he,e2] at this
 ·intro W0 h1
  have:=kept_any W H S O PA n c ps W0 hn h1
  rwa [he,e4] at this
 ·intro W0 h1
  have:=cull_any W H S O PA n c ps W0 hn h1
  rwa [he,e1] at this
 ·intro W0 h1
  have:=checkFrame_ref W H S O PA n c ps W0 hn h1 hl
  rwa [he] at this
 ·intro W0 h1
  exact lastOf_ref W H S O PA n c ps W0 hn h1 hl
 ·intro W0 h1
  exact keptOf_ref W H S O PA n c ps W0 hn h1 hok
 ·intro W0 h1
  exact cullOf_ref W H S O PA n c ps W0 hn h1 hok
 ·rw [keptL_len]; exact hn
 ·have:=cullTo_le ⟨W,H,S,O,ps⟩ ps.length
  omega
theorem needTells_ok (W H S O : Int) (PA : Option Addr) (n c : Nat) (ps : List Pas) (w : World) (hn : ps.length = n) (hP : Passes w PA ps) (hl : n ≤ 9223372036854775807) (he : frErr ⟨W,H,S,O,ps⟩ = 0) :
 Calls Try.prog 12 #[.agg #[.int .i64 W,.int .i64 H,.int .i64 S,.int .i64 O,.slice PA n c]] w fun e w'=>e = .returned (.bool true) ∧ Below w.heap.size w w':=by
 have hb:=(Below.refl w.heap.size w).alloc (Nat.le_refl _) (.cells #[.int .i64 W,.int .i64 H,.int .i64 S,.int .i64 O,.slice PA n c] 63);have HBX:=hide (show FrmBox (w.alloc (.cells #[.int .i64 W,.int .i64 H,.int .i64 S,.int .i64 O,.slice PA n c] 63)) w.heap.size W H S O PA n c from Blk.new w 63 (frmCells W H S O PA n c));have HB0:=hide hb;have HP:=hide (Keeps.passes hP);obtain ⟨la,kl,cl,hT⟩:=tellsT W H S O PA n c ps hn he hl;have HT:=hide hT;have h12:=hT.many;clear hn hP hl hb he hT;go_enter Try.func12,Try.ntmps12
 go_wp2_with fail;refine (HT.out.last _ (HP.out.later _ HB0.out)).mono ?_;rintro e w1 ⟨rfl,hE1⟩;have HB1:=hide (HB0.out.trans (hE1.mono HB0.out.size));have HX1:=hide (Blk.keep HBX.out hE1);obtain ⟨x,q0,q1,q2,q3,q4⟩:=FrmBox.cells HX1.out;clear HB0 HBX hE1;go_wp2_with fail;refine (HT.out.kept _ (HP.out.later _ HB1.out)).mono ?_;rintro e w2 ⟨A2,n2,c2,rfl,hn2,hC2,hE2⟩;obtain rfl : n = n2:=by have h:=HT.out.klen; omega
 have HB2:=hide (HB1.out.trans (hE2.mono HB1.out.size));have HX2:=hide (Blk.keep HX1.out hE2);have HK2:=hide (Keeps.cells hC2);clear x q0 q1 q2 q3 q4 HB1 HX1 hE2 hn2 hC2;obtain ⟨x,q0,q1,q2,q3,q4⟩:=FrmBox.cells HX2.out;go_wp2_with fail;refine (HT.out.cull _ (HP.out.later _ HB2.out)).mono ?_;rintro e w3 ⟨A3,n3,c3,rfl,hn3,hP3,hE3⟩;have hba:=HB2.out.trans (hE3.mono HB2.out.size);have hal : Below w3.heap.size w3 (w3.alloc (.cells #[.int .i64 W,.int .i64 H,.int .i64 S,.int .i64 O,.slice A3 n3 c3] 63)):=(Below.refl _ _).alloc (Nat.le_refl _) _;have HB3:=hide (hba.alloc hba.size (.cells #[.int .i64 W,.int .i64 H,.int .i64 S,.int .i64 O,.slice A3 n3 c3] 63));have HX3:=hide (Blk.keep (Blk.keep HX2.out hE3) hal);have HK3:=hide (((HK2.out.move hE3).move hal).and (((Keeps.passes hP3).move hal).and (Keeps.blk (Blk.new w3 63 (frmCells W H S O A3 n3 c3)))));have HN3:=hide hn3;clear x q0 q1 q2 q3 q4 HB2 HX2 HK2 hE3 hP3 hn3 hba hal;obtain ⟨x,q0,q1,q2,q3,q4⟩:=FrmBox.cells HX3.out;go_wp2_with fail;refine (HT.out.check _ (HP.out.later _ HB3.out)).mono ?_;rintro e w4 ⟨A4,n4,c4,rfl,-,-,hE4⟩;have hba:=HB3.out.trans (hE4.mono HB3.out.size);have hal : Below w4.heap.size w4 (w4.alloc (.cells #[.int .i64 0,.int .i64 0,.int .i64 0,.int .i64 0,.slice none 0 0] 63)):=(Below.refl _ _).alloc (Nat.le_refl _) _;have HB4:=hide (hba.alloc hba.size (.cells #[.int .i64 0,.int .i64 0,.int .i64 0,.int .i64 0,.slice none 0 0] 63));have HK4:=hide (HK3.out.move hE4);have HAL:=hide hal;have HZ4:=hide (Blk.new w4 63 (frmCells 0 0 0 0 none 0 0));have hx4:=Blk.lt (Blk.keep HX3.out hE4);obtain ⟨y,r0,r1,r2,r3,r4⟩:=FrmBox.cells (Blk.keep HX3.out hE4);have HKS:=hide (show Keeps w4 (fun w'=>w'.cell? ⟨w.heap.size,0,none⟩ = some (.int .i64 W) ∧ w'.cell? ⟨w.heap.size,1,none⟩ = some (.int .i64 H) ∧ w'.cell? ⟨w.heap.size,2,none⟩ = some (.int .i64 S) ∧ w'.cell? ⟨w.heap.size,3,none⟩ = some (.int .i64 O) ∧ w'.cell? ⟨w.heap.size,4,none⟩ = some (.slice PA n c)) from ⟨⟨r0,r1,r2,r3,r4⟩,fun _ hb=>⟨keepC hb r0,keepC hb r1,keepC hb r2,keepC hb r3,keepC hb r4⟩⟩);clear x q0 q1 q2 q3 q4 HB3 HX3 HK3 hE4 hba hal y r0 r1 r2 r3 r4;obtain ⟨q0,q1,q2,q3,q4⟩:=HKS.out.later _ HAL.out;obtain ⟨z,z0,z1,z2,z3,z4,t0,t1,t2,t3,t4⟩:=frmRes HZ4.out;go_wp2_with fail
 go_region_held3 (fun w'=>w'.cell? ⟨w.heap.size,0,none⟩ = some (.int .i64 W) ∧ w'.cell? ⟨w.heap.size,1,none⟩ = some (.int .i64 H) ∧ w'.cell? ⟨w.heap.size,2,none⟩ = some (.int .i64 S) ∧ w'.cell? ⟨w.heap.size,3,none⟩ = some (.int .i64 O) ∧ w'.cell? ⟨w.heap.size,4,none⟩ = some (.slice PA n c))
  (first | exact HKS.out.later _ HAL.out.drew | exact HKS.out.later _ hB6 | exact HKS.out.later _ hB7 | exact HKS.out.later _ hB8 | (refine HKS.out.later _ ?_; repeat (first | exact hB8 | refine Below.setCell ?_ (by simp only; omega) _)))
  (first
    | (go_simp; go_at_call 47; refine (HT.out.lastR _ (HP.out.later _ HB4.out.drew)).mono ?_; rintro e w6 ⟨rfl,hE6⟩; have hP6 : Below w.heap.size w w6:=HB4.out.drew.trans (hE6.mono HB4.out.drew.size); have hB6 : Below w4.heap.size w4 w6:=HAL.out.drew.trans (hE6.mono HAL.out.drew.size))
    | (go_simp; go_at_call 48; refine (HT.out.keptR _ (HP.out.later _ hP6)).mono ?_; rintro e w7 ⟨A7,n7,c7,rfl,hn7,hC7,hE7⟩; have hP7 : Below w.heap.size w w7:=hP6.trans (hE7.mono hP6.size); have hB7 : Below w4.heap.size w4 w7:=hB6.trans (hE7.mono hB6.size))
    | (go_simp; go_at_call 49; refine (HT.out.cullR _ (HP.out.later _ hP7)).mono ?_; rintro e w8 ⟨A8,n8,c8,es8,rfl,hn8,hG8,hw8,hE8⟩; have hP8 : Below w.heap.size w w8:=hP7.trans (hE8.mono hP7.size); have hB8 : Below w4.heap.size w4 w8:=hB7.trans (hE8.mono hB7.size); have hZ8:=HZ4.out.keep ((Below.refl _ _).drew.trans (hE6.trans ((hE7.trans (hE8.mono hE7.size)).mono hE6.size))); obtain ⟨zz,zz0,zz1,zz2,zz3,zz4,tt0,tt1,tt2,tt3,tt4⟩:=frmRes hZ8))
 have hw48 : w4.heap.size < w8.heap.size:=by have h1:=hB7.size; have h2:=hE8.size; have h3:=HZ4.out.lt; simp only [World.size_alloc] at h3; omega
 have hs47 : w4.heap.size < w7.heap.size:=by have h1:=hE7.size; have h2:=hE6.size; have h3:=HZ4.out.lt; simp only [World.size_alloc,World.size_drew] at h2 h3; omega
 have hG9:=((((hG8.far5 hw8 (p:=⟨w4.heap.size,0,none⟩) hs47 (.int .i64 W)).far5 hw8 (p:=⟨w4.heap.size,1,none⟩) hs47 (.int .i64 H)).far5 hw8 (p:=⟨w4.heap.size,2,none⟩) hs47 (.int .i64 S)).far5 hw8 (p:=⟨w4.heap.size,3,none⟩) hs47 (.int .i64 O)).far5 hw8 (p:=⟨w4.heap.size,4,none⟩) hs47 (.slice A8 n8 c8);have hZ9:=((((hZ8.set_ 0 (.int .i64 W)).set_ 1 (.int .i64 H)).set_ 2 (.int .i64 S)).set_ 3 (.int .i64 O)).set_ 4 (.slice A8 n8 c8);have hB9:=((((hB8.setCell (p:=⟨w4.heap.size,0,none⟩) (Nat.le_refl _) (.int .i64 W)).setCell (p:=⟨w4.heap.size,1,none⟩) (Nat.le_refl _) (.int .i64 H)).setCell (p:=⟨w4.heap.size,2,none⟩) (Nat.le_refl _) (.int .i64 S)).setCell (p:=⟨w4.heap.size,3,none⟩) (Nat.le_refl _) (.int .i64 O)).setCell (p:=⟨w4.heap.size,4,none⟩) (Nat.le_refl _) (.slice A8 n8 c8);have hwz:=HB4.out.size;have hle : w.heap.size ≤ w4.heap.size:=by have h1:=hwz; simp only [World.size_alloc] at h1; omega
 have hP9:=((((hP8.setCell (p:=⟨w4.heap.size,0,none⟩) hle (.int .i64 W)).setCell (p:=⟨w4.heap.size,1,none⟩) hle (.int .i64 H)).setCell (p:=⟨w4.heap.size,2,none⟩) hle (.int .i64 S)).setCell (p:=⟨w4.heap.size,3,none⟩) hle (.int .i64 O)).setCell (p:=⟨w4.heap.size,4,none⟩) hle (.slice A8 n8 c8);have hkl : kl.length = n:=HT.out.klen;obtain rfl : n = n7:=by omega
 have hC8:=hC7.keep hE8
 have hne : 0 < (kl.map Value.bool).length → ∀ x,A7 = some x → x.block ≠ w4.heap.size:=fun hl x hx=>by
  obtain ⟨b,o,e,-,hc⟩:=hC8 0 hl;rw [hx] at e;cases e
  have hv : ∃ v,(kl.map Value.bool).getD 0 undef = Value.bool v:=by
   rw [List.getD_eq_getElem?_getD,List.getElem?_eq_getElem hl,List.getElem_map];exact ⟨_,rfl⟩
  obtain ⟨v,hv⟩:=hv;rw [hv] at hc;rintro rfl;rw [hZ8.cell] at hc;rcases o with _ | _ | _ | _ | _ | o <;> simp [frmCells] at hc
 have hC9:=cells_put (cells_put (cells_put (cells_put (cells_put hC8 (q:=⟨w4.heap.size,0,none⟩) hne (.int .i64 W)) (q:=⟨w4.heap.size,1,none⟩) hne (.int .i64 H)) (q:=⟨w4.heap.size,2,none⟩) hne (.int .i64 S)) (q:=⟨w4.heap.size,3,none⟩) hne (.int .i64 O)) (q:=⟨w4.heap.size,4,none⟩) hne (.slice A8 n8 c8);have hK9:=HK4.out.later _ hB9;have hPS9:=hG9.passes;obtain ⟨w9,hw9⟩ : ∃ w9,(((((w8.setCell ⟨w4.heap.size,0,none⟩ (.int .i64 W)).setCell ⟨w4.heap.size,1,none⟩ (.int .i64 H)).setCell ⟨w4.heap.size,2,none⟩ (.int .i64 S)).setCell ⟨w4.heap.size,3,none⟩ (.int .i64 O)).setCell ⟨w4.heap.size,4,none⟩ (.slice A8 n8 c8)) = w9:=⟨_,rfl⟩;rw [hw9] at hC9 hK9 hPS9 hZ9 hP9;have HC9:=hide (Keeps.cells hC9);have HK9:=hide (show Keeps w9 (fun W'=>Cells W' A2 (kl.map Value.bool) ∧ Passes W' A3 cl ∧ FrmBox W' w3.heap.size W H S O A3 n3 c3) from ⟨hK9,fun _ hb=>⟨hK9.1.keep hb,hK9.2.1.keep hb,Blk.keep hK9.2.2 hb⟩⟩);have HS9:=hide (Keeps.passes hPS9);have HZ9:=hide (show Keeps w9 (fun W'=>FrmBox W' w4.heap.size W H S O A8 n8 c8) from ⟨hZ9,fun _ hb=>Blk.keep hZ9 hb⟩);have HP9:=hide hP9;have HN8:=hide hn8;have HKL:=hide hkl;clear hG9 hZ9 hB9 hP9 hC9 hK9 hPS9 hC8 hne hC7 hG8 hw8 hn8 hn7 hkl hP6 hP7 hP8 hB6 hB7 hB8 hE6 hE7 hE8 hZ8 hw48 hs47 hwz hle zz zz0 zz1 zz2 zz3 zz4 tt0 tt1 tt2 tt3 tt4 q0 q1 q2 q3 q4 z z0 z1 z2 z3 z4 t0 t1 t2 t3 t4 HKS HAL HZ4 HK4 HB4 hx4;go_wp2_with fail;try rw [hw9]
 clear hw9;go_loopw [14] (fun s wr=>∃ k : Nat,k ≤ n ∧ s = .int .i64 k ∧ Hid (Below w9.heap.size w9 wr)) (fun s _=>n - (intOf s).toNat)
 case atStart=>exact ⟨0,Nat.zero_le _,rfl,hide (Below.refl _ _)⟩
 case round =>
  obtain ⟨k,hk,rfl,HW⟩:=hrel;by_cases hlt : k < n
  ·have hk0 : (0 : Int) ≤ (k : Int):=by omega
   have hk1 : (k : Int) < (n : Int):=by omega
   have hkk : k < kl.length:=by rw [HKL.out]; exact hlt
   obtain ⟨b,o,hA,hb,ca⟩:=(HK9.out.later _ HW.out).1 k (by rw [List.length_map]; exact hkk);obtain ⟨b',o',hA',hb',cb⟩:=(HC9.out.later _ HW.out) k (by rw [List.length_map]; exact hkk);obtain rfl:=hA;obtain rfl:=hA';obtain ⟨v,hv⟩ : ∃ v,(kl.map Value.bool).getD k undef = Value.bool v:=⟨kl[k],by rw [List.getD_eq_getElem?_getD,List.getElem?_map,List.getElem?_eq_getElem hkk]; rfl⟩;rw [hv] at ca cb;clear hv
   cases v with
   | true =>
     go_wp2_with fail;go_quiet (fail)
     go_wp2_with fail;exact ⟨⟨k + 1,by omega,by simp,hide (below_drewN HW.out _)⟩,by simp [intOf]; omega⟩
   | false =>
     go_wp2_with fail;go_quiet (fail)
     go_wp2_with fail;exact ⟨⟨k + 1,by omega,by simp,hide (below_drewN HW.out _)⟩,by simp [intOf]; omega⟩
  ·obtain rfl : k = n:=by omega
   have HP10:=hide (HP9.out.trans (HW.out.mono HP9.out.size));go_wp2_with fail;refine (needBegun_any _).mono ?_;rintro e w10 ⟨rfl,hE10⟩;have HB10:=hide (HP10.out.trans (hE10.mono HP10.out.size));have hb10 : Below w9.heap.size w9 w10:=HW.out.trans (hE10.mono HW.out.size);obtain ⟨-,hPc,hXc⟩:=HK9.out.later _ hb10;have hPd:=HS9.out.later _ hb10;have hXd:=HZ9.out.later _ hb10;obtain ⟨x,q0,q1,q2,q3,q4⟩:=FrmBox.cells hXc;obtain ⟨y,r0,r1,r2,r3,r4⟩:=FrmBox.cells hXd;obtain rfl : n3 = n8:=by have h1 : cl.length = n3:=HN3.out; have h2 : cl.length = n8:=HN8.out; omega
   have HSF:=hide (sameFrames_any W H S O A3 A8 n3 c3 c8 cl w10 HN3.out hPc hPd (by have h1 : cl.length = n3:=HN3.out; have h2:=HT.out.clen; omega));clear hE10 hb10 hPc hXc hPd hXd HK9 HS9 HZ9 HC9 HP9 HP10 HW;go_wp2_with fail;refine (unhide HSF).mono ?_;rintro e w11 ⟨rfl,hE11⟩;have HB11:=hide (HB10.out.trans (hE11.mono HB10.out.size));clear hE11 HSF x q0 q1 q2 q3 q4 y r0 r1 r2 r3 r4;go_wp2_with fail;go_ret;exact ⟨rfl,HB11.out⟩
theorem needTells_no (W H S O : Int) (PA : Option Addr) (n c : Nat) (ps : List Pas) (w : World) (hn : ps.length = n) (hP : Passes w PA ps) (hl : n ≤ 9223372036854775807) (he : frErr ⟨W,H,S,O,ps⟩ ≠ 0) :
 Calls Try.prog 12 #[.agg #[.int .i64 W,.int .i64 H,.int .i64 S,.int .i64 O,.slice PA n c]] w fun e w'=>e = .returned (.bool true) ∧ Below w.heap.size w w':=by
 have hb:=(Below.refl w.heap.size w).alloc (Nat.le_refl _) (.cells #[.int .i64 W,.int .i64 H,.int .i64 S,.int .i64 O,.slice PA n c] 63);have HBX:=hide (show FrmBox (w.alloc (.cells #[.int .i64 W,.int .i64 H,.int .i64 S,.int .i64 O,.slice PA n c] 63)) w.heap.size W H S O PA n c from Blk.new w 63 (frmCells W H S O PA n c));have HB0:=hide hb;have HP:=hide (Keeps.passes hP);have e1 : cullAns ⟨W,H,S,O,ps⟩ = ⟨0,0,0,0,[]⟩:=if_neg he;have e2 : lastAns ⟨W,H,S,O,ps⟩ = 0:=if_neg he;have e3 : keptAns ⟨W,H,S,O,ps⟩ = []:=if_neg he;have HLA:=hide (fun (W0 : World) (h1 : Passes W0 PA ps)=>last_any W H S O PA n c ps W0 hn h1);have HKE:=hide (fun (W0 : World) (h1 : Passes W0 PA ps)=>kept_any W H S O PA n c ps W0 hn h1);have HCU:=hide (fun (W0 : World) (h1 : Passes W0 PA ps)=>cull_any W H S O PA n c ps W0 hn h1);have HCF:=hide (fun (W0 : World) (h1 : Passes W0 PA ps)=>checkFrame_ref W H S O PA n c ps W0 hn h1 hl);rw [e2] at HLA;rw [e3] at HKE;rw [e1] at HCU;generalize frErr ⟨W,H,S,O,ps⟩ = z at *;have hz2 : (z == 0) = false:=by simpa using he
 clear hn hP hl hb e1 e2 e3;go_enter Try.func12,Try.ntmps12
 go_wp2_with fail;refine ((unhide HLA) _ (HP.out.later _ HB0.out)).mono ?_;rintro e w1 ⟨rfl,hE1⟩;have HB1:=hide (HB0.out.trans (hE1.mono HB0.out.size));have HX1:=hide (Blk.keep HBX.out hE1);obtain ⟨x,q0,q1,q2,q3,q4⟩:=FrmBox.cells HX1.out;clear HB0 HBX hE1 HLA;go_wp2_with fail;refine ((unhide HKE) _ (HP.out.later _ HB1.out)).mono ?_;rintro e w2 ⟨A2,n2,c2,rfl,hn2,-,hE2⟩;obtain rfl : n2 = 0:=hn2.symm;have HB2:=hide (HB1.out.trans (hE2.mono HB1.out.size));have HX2:=hide (Blk.keep HX1.out hE2);clear x q0 q1 q2 q3 q4 HB1 HX1 hE2 hn2 HKE;obtain ⟨x,q0,q1,q2,q3,q4⟩:=FrmBox.cells HX2.out;go_wp2_with fail;refine ((unhide HCU) _ (HP.out.later _ HB2.out)).mono ?_;rintro e w3 ⟨A3,n3,c3,rfl,hn3,-,hE3⟩;obtain rfl : n3 = 0:=hn3.symm;have hba:=HB2.out.trans (hE3.mono HB2.out.size);have hal : Below w3.heap.size w3 (w3.alloc (.cells #[.int .i64 0,.int .i64 0,.int .i64 0,.int .i64 0,.slice A3 0 c3] 63)):=(Below.refl _ _).alloc (Nat.le_refl _) _;have HB3:=hide (hba.alloc hba.size (.cells #[.int .i64 0,.int .i64 0,.int .i64 0,.int .i64 0,.slice A3 0 c3] 63));have HX3:=hide (Blk.keep (Blk.keep HX2.out hE3) hal);have HK3:=hide (show Keeps _ (fun W'=>FrmBox W' w3.heap.size 0 0 0 0 A3 0 c3) from Keeps.blk (Blk.new w3 63 (frmCells 0 0 0 0 A3 0 c3)));clear x q0 q1 q2 q3 q4 HB2 HX2 hE3 hn3 hba hal HCU;obtain ⟨x,q0,q1,q2,q3,q4⟩:=FrmBox.cells HX3.out;go_wp2_with fail;refine ((unhide HCF) _ (HP.out.later _ HB3.out)).mono ?_;rintro e w4 ⟨A4,n4,c4,rfl,-,-,hE4⟩;have hba:=HB3.out.trans (hE4.mono HB3.out.size);have hal : Below w4.heap.size w4 (w4.alloc (.cells #[.int .i64 0,.int .i64 0,.int .i64 0,.int .i64 0,.slice none 0 0] 63)):=(Below.refl _ _).alloc (Nat.le_refl _) _;have HB4:=hide (hba.alloc hba.size (.cells #[.int .i64 0,.int .i64 0,.int .i64 0,.int .i64 0,.slice none 0 0] 63));have HK4:=hide ((HK3.out.move hE4).move hal);have HZ4:=hide (show Keeps _ (fun W'=>FrmBox W' w4.heap.size 0 0 0 0 none 0 0) from Keeps.blk (Blk.new w4 63 (frmCells 0 0 0 0 none 0 0)));clear x q0 q1 q2 q3 q4 HB3 HX3 HK3 hE4 hba hal HCF;go_wp2_with fail;go_loop [14] (fun s=>s = .int .i64 0) (fun _=>0)
 case atStart=>rfl
 case round =>
  obtain rfl:=hrel;go_wp2_with fail;refine (needBegun_any _).mono ?_;rintro e w10 ⟨rfl,hE10⟩;have HB10:=hide (HB4.out.trans (hE10.mono HB4.out.size));obtain ⟨x,q0,q1,q2,q3,q4⟩:=FrmBox.cells (HK4.out.later _ hE10);obtain ⟨y,r0,r1,r2,r3,r4⟩:=FrmBox.cells (HZ4.out.later _ hE10);have HSF:=hide (sameFrames_any 0 0 0 0 A3 none 0 c3 0 [] w10 rfl (fun i hi=>by simp at hi) (fun i hi=>by simp at hi) (by omega));clear hE10 HK4 HZ4 HB4;go_wp2_with fail;refine (unhide HSF).mono ?_;rintro e w11 ⟨rfl,hE11⟩;have HB11:=hide (HB10.out.trans (hE11.mono HB10.out.size));clear hE11 HSF x q0 q1 q2 q3 q4 y r0 r1 r2 r3 r4;go_wp2_with fail;go_ret;exact ⟨rfl,HB11.out⟩
theorem needTells_any (W H S O : Int) (PA : Option Addr) (n c : Nat) (ps : List Pas) (w : World) (hn : ps.length = n) (hP : Passes w PA ps) (hl : n ≤ 9223372036854775807) :
 Calls Try.prog 12 #[.agg #[.int .i64 W,.int .i64 H,.int .i64 S,.int .i64 O,.slice PA n c]] w fun e w'=>e = .returned (.bool true) ∧ Below w.heap.size w w':=by
 by_cases he : frErr ⟨W,H,S,O,ps⟩ = 0
 ·exact needTells_ok W H S O PA n c ps w hn hP hl he
 ·exact needTells_no W H S O PA n c ps w hn hP hl he
end Go.Proofs.Ytibpmogmeoappaa
