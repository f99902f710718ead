/- deskBegun is true: the desk at one frame, two rooms, and at one image. -/
import Derived.Test.YtibpmogmeoappaaGreatDoorJDesE
import Derived.Test.YtibpmogmeoappaaGreatDoorJFitJ
import Derived.Test.YtibpmogmeoappaaGreatDoorJWirA
import Derived.ProofKit
import Derived.LaidMore
import Derived.Stop.Joined
import Derived.Stop.LaidErr
import Derived.Lib.LaidTab
import Derived.Test.YtibpmogmeoappaaGreatDoorRows
import Derived.Test.YtibpmogmeoappaaGreatDoorJDesC
set_option maxRecDepth 100000
set_option maxHeartbeats 4000000
namespace Go.Proofs.YtibpmogmeoappaaGreatDoor
open Go.RowKit
section
theorem lamp_bytes (l : Lamp) : Bytes (lampBytes l):=by rw [lamp_low]; exact low_bytes _
end
section
theorem Bytes.app {a b : List Int} (ha : Bytes a) (hb : Bytes b) : Bytes (a ++ b):=fun x hx=>(List.mem_append.1 hx).elim (ha x) (hb x)
end
section
theorem pas_bytes (p : Pas) : Bytes (pasBytes p):=by
 rw [pas_low];refine (low_bytes _).app fun x hx=>?_;obtain ⟨l,_,hx⟩:=List.mem_flatMap.1 hx;exact lamp_bytes l x hx
end
section
theorem frm_bytes (f : Frm) : Bytes (frmBytes f):=by
 rw [frm_low];refine (low_bytes _).app fun x hx=>?_;obtain ⟨p,_,hx⟩:=List.mem_flatMap.1 hx;exact pas_bytes p x hx
end
def digsF : Nat → Int → List Int
 | 0,_=>[]
 | k + 1,n=>if n < 10 then [48 + n] else digsF k (n / 10) ++ [48 + n % 10]
theorem digs_steps : ∀ (k : Nat) (n : Int),0 ≤ n → n < 10 ^ (k + 1) → digs n = digsF (k + 1) n:=by
 intro k
 induction k with
 | zero =>
   intro n h0 h1;have h2 : n < 10:=by simpa using h1
   rw [digs_small h0 h2];simp [digsF,h2]
 | succ k ih =>
   intro n h0 h1;by_cases h2 : n < 10
   ·rw [digs_small h0 h2]
    simp [digsF,h2]
   ·rw [digs_big (by omega),ih (n / 10) (by omega) (by rw [Int.pow_succ] at h1; omega)]
    conv=>rhs; unfold digsF
    rw [if_neg h2]
def txtF (W : Int) (P : List Int) : Nat → List Int
 | 0=>[]
 | k + 1=>txtF W P k ++ (digsF 5 (P.getD k 0) ++ [sepAt W k])
theorem txt_steps {W : Int} {P : List Int} (hP : ∀ x ∈ P,0 ≤ x ∧ x ≤ 65535) : ∀ k,k ≤ P.length → txt W P k = txtF W P k:=by
 intro k
 induction k with
 | zero=>intro _; rfl
 | succ k ih =>
   intro hk;have h:=hP (P.getD k 0) (by rw [List.getD_eq_getElem?_getD,List.getElem?_eq_getElem (by omega)]; exact List.getElem_mem _);simp only [txt,txtF];rw [ih (by omega),digs_steps 4 _ h.1 (by omega)]
theorem show_steps {a : Img} (h : a.Fine) : showTxt a = txtF a.W a.P a.P.length:=txt_steps h.2.2.2 _ (Nat.le_refl _)
def deskFour : List Int:=[4,8,65535,0]
theorem df1 : Img.Fine ⟨2,2,deskFour⟩:=by decide +kernel
theorem df2 : showAns ⟨2,2,deskFour⟩ = [52,32,56,10,54,53,53,51,53,32,48,10] ∧ showErr ⟨2,2,deskFour⟩ = 0:=by
 refine ⟨(show showAns _ = showTxt _ from if_pos df1).trans ((show_steps df1).trans ?_),if_pos df1⟩
 decide +kernel
def glowB : List Int:=frmBytes glowF
theorem dg0 : readF (strL (mkS glowB)) = glowF ∧ readZ (strL (mkS glowB)) = 0:=by
 have h1 : strL (mkS glowB) = glowB:=strL_mk (frm_bytes _);have h2 : readFrm glowB = some glowF:=read_written (frErr_zero.1 gf1);have h3 : ¬ 2048 < glowB.length:=by decide +kernel
 unfold readF readZ;rw [h1,if_neg h3,if_neg h3,h2];exact ⟨rfl,rfl⟩
theorem dg1 : peakOf glowF (comp glowF) = 24:=by decide +kernel
theorem dg2 : frAns glowF = ⟨4,2,[9,109,209,309,10,110,210,310]⟩:=by decide +kernel
theorem dg3 : drawErr (strL (mkS glowB)) 24 = 0:=by
 unfold drawErr;rw [dg0.1,dg0.2,dg1]
 decide
theorem dg4 : drawErr (strL (mkS glowB)) 23 = 7:=by
 unfold drawErr;rw [dg0.1,dg0.2,dg1]
 decide
theorem dg5 : drawAns (strL (mkS glowB)) 24 = [57,32,49,48,57,32,50,48,57,32,51,48,57,10,49,48,32,49,49,48,32,50,49,48,32,51,49,48,10]:=by
 unfold drawAns;rw [if_pos dg3,dg0.1,dg2,show_steps (by decide +kernel)]
 decide +kernel
theorem dg6 : drawAns (strL (mkS glowB)) 23 = []:=draw_stop dg4 (by decide)
def RetDesk4 (w : World) (e : Ending) (w' : World) : Prop:=∃ (A : Option Addr) (c : Nat),e = .returned (.agg #[.int .i64 2,.int .i64 2,.slice A 4 c]) ∧ Ints w' A deskFour ∧ Below w.heap.size w w'
theorem deskFour_any (w : World) : Calls Tryz.prog 30 #[] w (RetDesk4 w):=by
 go_enter Tryz.func30,Tryz.ntmps30
 go_wp2_with fail;refine bodyPost_ret (v:=.agg #[.int .i64 2,.int .i64 2,.slice (some ⟨w.heap.size + 1,0,none⟩) 4 4]) (by simp [results,Tryz.results30,go_sem]) rfl ?_;refine ⟨_,_,rfl,?_,?_⟩
 ·have h:=(Blk.new (w.alloc (.cells #[.int .i64 2,.int .i64 2,.slice (some ⟨w.heap.size + 1,0,none⟩) 4 4] 24)) 3 (deskFour.map (.int .i64))).cells
  simp only [World.size_alloc] at h;exact h
 ·exact ((Below.refl _ _).alloc (Nat.le_refl _) _).alloc (by simp) _
theorem deskBegun_any (w : World) (ht : Tab w) : Calls Tryz.prog 10 #[] w fun e w'=>e = .returned (.bool true) ∧ Below w.heap.size w w':=by
 have HW:=hide (fun (A : Option Addr) (c : Nat) (W0 : World) (h1 : Passes W0 A glowF.P)=>(show Calls Tryz.prog 28 #[.agg #[.int .i64 4,.int .i64 2,.int .i64 3,.int .i64 1,.slice A 5 c]] W0 (RetStrE W0 glowB 0) from by
  have h:=write_any 4 2 3 1 A 5 c glowF.P W0 rfl h1;rw [show (⟨4,2,3,1,glowF.P⟩ : Frm) = glowF from rfl,gf1,show writeAns glowF = glowB from if_pos gf1] at h
  exact h))
 have HD1:=hide (fun (W0 : World) (h : Tab W0)=>deskDraw_any (mkS glowB) 24 W0 (by decide) (by decide) h);have HD2:=hide (fun (W0 : World) (h : Tab W0)=>deskDraw_any (mkS glowB) 23 W0 (by decide) (by decide) h);rw [dg3,dg5] at HD1;rw [dg4,dg6] at HD2;have HS:=hide (fun (A : Option Addr) (c : Nat) (W0 : World) (h1 : Ints W0 A deskFour) (h : Tab W0)=>show_any 2 2 A 4 c deskFour W0 rfl h1 (by decide) h);rw [df2.1,df2.2] at HS;obtain ⟨GS,hGS⟩ : ∃ GS,mkS glowB = GS:=⟨_,rfl⟩;unfold RetStrE at HW HD1 HD2 HS;rw [hGS] at HW HD1 HD2;have HT:=hide ht;clear ht hGS;go_enter Tryz.func10,Tryz.ntmps10
 go_wp2_with fail;refine (glow_any _).mono ?_;rintro e w1 ⟨A1,c1,rfl,hP1,hE1⟩;have HB1:=hide hE1;have HP1:=hide hP1;clear hE1 hP1;go_wp2_with fail;refine ((unhide HW) A1 c1 _ HP1.out).mono ?_;rintro e w2 ⟨rfl,hE2⟩;have HB2:=hide (HB1.out.trans (hE2.mono HB1.out.size));clear hE2 HB1 HP1 HW;go_wp2_with fail;refine ((unhide HD1) _ (HT.out.keep HB2.out)).mono ?_;rintro e w3 ⟨rfl,hE3⟩;have HB3:=hide (HB2.out.trans (hE3.mono HB2.out.size));clear hE3 HB2 HD1;go_wp2_with fail;refine ((unhide HD2) _ (HT.out.keep HB3.out)).mono ?_;rintro e w4 ⟨rfl,hE4⟩;have HB4:=hide (HB3.out.trans (hE4.mono HB3.out.size));clear hE4 HB3 HD2;go_wp2_with fail;refine (deskFour_any _).mono ?_;rintro e w5 ⟨A5,c5,rfl,hI5,hE5⟩;have HB5:=hide (HB4.out.trans (hE5.mono HB4.out.size));have HI5:=hide hI5;clear hE5 HB4 hI5;go_wp2_with fail;refine ((unhide HS) A5 c5 _ HI5.out (HT.out.keep HB5.out)).mono ?_;rintro e w6 ⟨rfl,hE6⟩;have HB6:=hide (HB5.out.trans (hE6.mono HB5.out.size));clear hE6 HB5 HS HI5;have hq1 : (mkS [57,32,49,48,57,32,50,48,57,32,51,48,57,10,49,48,32,49,49,48,32,50,49,48,32,51,49,48,10]).toList = [57,32,49,48,57,32,50,48,57,32,51,48,57,10,49,48,32,49,49,48,32,50,49,48,32,51,49,48,10]:=by rw [ByteArray.toList_eq]; decide +kernel
 have hq2 : (mkS [52,32,56,10,54,53,53,51,53,32,48,10]).toList = [52,32,56,10,54,53,53,51,53,32,48,10]:=by rw [ByteArray.toList_eq]; decide +kernel
 go_wp2_with fail;go_ret;exact ⟨rfl,HB6.out⟩
end Go.Proofs.YtibpmogmeoappaaGreatDoor
namespace Go.Proofs.YtibpmogmeoappaaGreatDoor
open Go Go.ChangeShapes Go.WideShapes Go.RowKit
def deskLaid : List (String × DataW Unit):=[("math/bits.deBruijn32tab",Rows.laid_math_bits_deBruijn32tab),("math/bits.deBruijn64tab",Rows.laid_math_bits_deBruijn64tab),("internal/strconv.uint64pow10",Rows.laid_internal_strconv_uint64pow10)]
theorem desk_door (os : Os) (args : Array Value) : laidMetH Tryz.prog deskLaid ((World.doorLaid Tryz.prog 24 os).forCall (fun _ _=>0) ⟨#[],args,[]⟩).memory :=
 laidMetH_of_parts3 (fuel:=8) (laidMet_of_run' 8 (by kernel_rfl) (by kernel_rfl)) (by kernel_rfl) (by kernel_rfl)
theorem desk_tab {W : World} (h : laidMetH Tryz.prog deskLaid W) : Tab W:=by
 rw [MakeChecks.laidMetH_plain _ _ _ (by kernel_rfl)] at h;have h2 : laidMet Tryz.prog [("internal/strconv.uint64pow10",Lib.tabData .u64 Lib.pow10Tab)] W:=laidMet.tail (laidMet.tail h)
 have ht : Lib.TabIs Tryz.prog W "internal/strconv.uint64pow10" .u64 Lib.pow10Tab :=
  Lib.tabIs_of_head (n:=20) (t:=209) (e:=187) tab_at (by kernel_rfl) Tryz.underlying209 Tryz.underlying187 (by kernel_rfl) (by kernel_rfl) h2
 refine ⟨?_,ht⟩;have hc:=ht.cell tab_at 0 (by decide);exact Nat.lt_of_le_of_lt (Nat.zero_le _) (World.block_lt_of_cell? W ⟨_,0,none⟩ hc)
end Go.Proofs.YtibpmogmeoappaaGreatDoor
