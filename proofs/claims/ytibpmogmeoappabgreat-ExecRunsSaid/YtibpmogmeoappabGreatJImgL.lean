/- Walks: Two.  -/
import Derived.Test.YtibpmogmeoappabGreatJImgJ
set_option maxRecDepth 100000
set_option maxHeartbeats 1600000
namespace Go.Proofs.YtibpmogmeoappabGreat
open Go.RowKit
def TwoBoxes (w : World) (W H : Int) (A : Option Addr) (n c : Nat) (W' H' : Int) (B : Option Addr) (m d : Nat) (w1 : World) : Prop :=
 ImgBox w1 w.heap.size W H A n c ∧ ImgBox w1 (w.heap.size + 1) W' H' B m d ∧ Blk w1 (w.heap.size + 1 + 1) 29 [.int .i64 0,.int .i64 0,.slice none 0 0] ∧ Below w.heap.size w w1
section
variable {w : World} {W H : Int} {A : Option Addr} {n c : Nat} {W' H' : Int} {B : Option Addr} {m d : Nat} {w1 w2 : World}
theorem TwoBoxes.keep (h : TwoBoxes w W H A n c W' H' B m d w1) (hb : Below w1.heap.size w1 w2) : TwoBoxes w W H A n c W' H' B m d w2 :=
 ⟨Blk.keep h.1 hb,Blk.keep h.2.1 hb,h.2.2.1.keep hb,h.2.2.2.trans (hb.mono h.2.2.2.size)⟩
theorem twoBoxes_start (w : World) (W H : Int) (A : Option Addr) (n c : Nat) (W' H' : Int) (B : Option Addr) (m d : Nat) :
 TwoBoxes w W H A n c W' H' B m d (((w.alloc (.cells #[.int .i64 W,.int .i64 H,.slice A n c] 29)).alloc (.cells #[.int .i64 W',.int .i64 H',.slice B m d] 29)).alloc (.cells #[.int .i64 0,.int .i64 0,.slice none 0 0] 29)):=by
 have b0:=Blk.new w 29 [Value.int .i64 W,.int .i64 H,.slice A n c];have b1:=Blk.new (w.alloc (.cells #[.int .i64 W,.int .i64 H,.slice A n c] 29)) 29 [Value.int .i64 W',.int .i64 H',.slice B m d];have b2:=Blk.new ((w.alloc (.cells #[.int .i64 W,.int .i64 H,.slice A n c] 29)).alloc (.cells #[.int .i64 W',.int .i64 H',.slice B m d] 29)) 29 [Value.int .i64 0,.int .i64 0,.slice none 0 0];simp only [World.size_alloc] at b1 b2;exact ⟨(b0.alloc _).alloc _,b1.alloc _,b2,(((Below.refl _ _).alloc (Nat.le_refl _) _).alloc (by simp) _).alloc (by simp; omega) _⟩
theorem TwoBoxes.cells (h : TwoBoxes w W H A n c W' H' B m d w1) :
 w.heap.size + 1 + 1 < w1.heap.size ∧ w1.cell? ⟨w.heap.size,0,none⟩ = some (.int .i64 W) ∧ w1.cell? ⟨w.heap.size,1,none⟩ = some (.int .i64 H) ∧ w1.cell? ⟨w.heap.size,2,none⟩ = some (.slice A n c) ∧
 w1.cell? ⟨w.heap.size + 1,0,none⟩ = some (.int .i64 W') ∧ w1.cell? ⟨w.heap.size + 1,1,none⟩ = some (.int .i64 H') ∧ w1.cell? ⟨w.heap.size + 1,2,none⟩ = some (.slice B m d) ∧
 w1.cell? ⟨w.heap.size + 1 + 1,0,none⟩ = some (.int .i64 0) ∧ w1.cell? ⟨w.heap.size + 1 + 1,1,none⟩ = some (.int .i64 0) ∧ w1.cell? ⟨w.heap.size + 1 + 1,2,none⟩ = some (.slice none 0 0) ∧
 w1.frozen? ⟨w.heap.size + 1 + 1,0,none⟩ = false ∧ w1.frozen? ⟨w.heap.size + 1 + 1,1,none⟩ = false ∧ w1.frozen? ⟨w.heap.size + 1 + 1,2,none⟩ = false :=
 ⟨h.2.2.1.lt,by rw [Blk.cell h.1]; rfl,by rw [Blk.cell h.1]; rfl,by rw [Blk.cell h.1]; rfl,by rw [Blk.cell h.2.1]; rfl,by rw [Blk.cell h.2.1]; rfl,by rw [Blk.cell h.2.1]; rfl,by rw [h.2.2.1.cell]; rfl,by rw [h.2.2.1.cell]; rfl,by rw [h.2.2.1.cell]; rfl,h.2.2.1.frozen 0,h.2.2.1.frozen 1,h.2.2.1.frozen 2⟩
end
theorem retBoxNone' {w w1 : World} {g : Nat} {x : Int} {u v z : Value} (hw : w.heap.size ≤ g) (hb : Below w.heap.size w w1) :
 RetImgErr w Img.none x (.returned (.tuple #[.agg #[.int .i64 0,.int .i64 0,.slice none 0 0],.int .i64 x])) (((w1.setCell ⟨g,0,none⟩ u).setCell ⟨g,1,none⟩ v).setCell ⟨g,2,none⟩ z) :=
 retNone (((hb.setCell (p:=⟨g,0,none⟩) hw u).setCell (p:=⟨g,1,none⟩) hw v).setCell (p:=⟨g,2,none⟩) hw z)
theorem two_form1 (op : Int) (W H : Int) (A : Option Addr) (n c : Nat) (P : List Int) (W' H' : Int) (B : Option Addr) (m d : Nat) (Q : List Int) (w : World) (hn : P.length = n) (hI : Ints w A P) (hl : n ≤ 9223372036854775807) (hm : Q.length = m) (hI' : Ints w B Q) (_hl' : m ≤ 9223372036854775807) (hF : ¬ Img.Fine ⟨W,H,P⟩) :
 Calls Tryz.prog 47 #[.int .i64 op,.agg #[.int .i64 W,.int .i64 H,.slice A n c],.agg #[.int .i64 W',.int .i64 H',.slice B m d]] w (RetImgErr w Img.none 1):=by
 have hcall : ∀ W0 : World,Below w.heap.size w W0 → Calls Tryz.prog 73 #[.agg #[.int .i64 W,.int .i64 H,.slice A n c]] W0 fun e w'=>e = .returned (.int .i64 1) ∧ Below W0.heap.size W0 w':=by
  intro W0 hb;have:=check_any W H A n c P W0 hn (hI.keep hb) hl
  rwa [checkErr_no hF] at this
 have HC:=hide hcall;have HS:=hide (twoBoxes_start w W H A n c W' H' B m d);have HI:=hide hI;have HI':=hide hI';have HN:=hide hn;have HM:=hide hm;have HF:=hide hF
 skip
 clear hcall hI hI' hn hm hF;go_enter Tryz.func47,Tryz.ntmps47
 go_wp2_with fail;refine ((unhide HC) _ HS.out.2.2.2).mono ?_;rintro e w1 ⟨rfl,hE⟩;have HB:=hide (HS.out.keep hE);obtain ⟨q0,q1,q2,q3,q4,q5,q6,q7,q8,q9,q10,q11,q12⟩:=HB.out.cells;clear hE HS;go_wp2_with fail;refine bodyPost_ret (v:=.tuple #[.agg #[.int .i64 0,.int .i64 0,.slice none 0 0],.int .i64 1]) (by simp [results,Tryz.results47,go_sem,q7,q8,q9]) rfl ?_;exact retBoxNone' (by omega) HB.out.2.2.2
theorem two_form2 (op : Int) (W H : Int) (A : Option Addr) (n c : Nat) (P : List Int) (W' H' : Int) (B : Option Addr) (m d : Nat) (Q : List Int) (w : World) (hn : P.length = n) (hI : Ints w A P) (hl : n ≤ 9223372036854775807) (hm : Q.length = m) (hI' : Ints w B Q) (hl' : m ≤ 9223372036854775807) (hF : Img.Fine ⟨W,H,P⟩) (hF' : ¬ Img.Fine ⟨W',H',Q⟩) :
 Calls Tryz.prog 47 #[.int .i64 op,.agg #[.int .i64 W,.int .i64 H,.slice A n c],.agg #[.int .i64 W',.int .i64 H',.slice B m d]] w (RetImgErr w Img.none 1):=by
 have hcall : ∀ W0 : World,Below w.heap.size w W0 → Calls Tryz.prog 73 #[.agg #[.int .i64 W,.int .i64 H,.slice A n c]] W0 fun e w'=>e = .returned (.int .i64 0) ∧ Below W0.heap.size W0 w':=by
  intro W0 hb;have:=check_any W H A n c P W0 hn (hI.keep hb) hl
  rwa [checkErr_yes hF] at this
 have hcall2 : ∀ W0 : World,Below w.heap.size w W0 → Calls Tryz.prog 73 #[.agg #[.int .i64 W',.int .i64 H',.slice B m d]] W0 fun e w'=>e = .returned (.int .i64 1) ∧ Below W0.heap.size W0 w':=by
  intro W0 hb;have:=check_any W' H' B m d Q W0 hm (hI'.keep hb) hl'
  rwa [checkErr_no hF'] at this
 have HC2:=hide hcall2;clear hcall2;have HC:=hide hcall;have HS:=hide (twoBoxes_start w W H A n c W' H' B m d);have HI:=hide hI;have HI':=hide hI';have HN:=hide hn;have HM:=hide hm;have HF:=hide hF;have HF2:=hide hF';clear hcall hI hI' hn hm hF hF';go_enter Tryz.func47,Tryz.ntmps47
 go_wp2_with fail;refine ((unhide HC) _ HS.out.2.2.2).mono ?_;rintro e w1 ⟨rfl,hE⟩;have HB:=hide (HS.out.keep hE);obtain ⟨q0,q1,q2,q3,q4,q5,q6,q7,q8,q9,q10,q11,q12⟩:=HB.out.cells;clear hE HS;go_wp2_with fail;refine ((unhide HC2) _ HB.out.2.2.2).mono ?_;rintro e w2 ⟨rfl,hE⟩;have HB1:=HB;clear HB q0 q1 q2 q3 q4 q5 q6 q7 q8 q9 q10 q11 q12;have HB:=hide (HB1.out.keep hE);obtain ⟨q0,q1,q2,q3,q4,q5,q6,q7,q8,q9,q10,q11,q12⟩:=HB.out.cells;clear hE HB1;go_wp2_with fail;refine bodyPost_ret (v:=.tuple #[.agg #[.int .i64 0,.int .i64 0,.slice none 0 0],.int .i64 1]) (by simp [results,Tryz.results47,go_sem,q7,q8,q9]) rfl ?_;exact retBoxNone' (by omega) HB.out.2.2.2
theorem nilfn_zero (w : World) : (zeroValue 132).run Tryz.prog w = .ok .nilFunc w:=by kernel_rfl
theorem lookI_none {op : Int} (h : ¬ (4 ≤ op ∧ op ≤ 7)) : lookI ruleMap op = none:=by
 have e4 : ((4 : Int) == op) = false:=by simp; omega
 have e5 : ((5 : Int) == op) = false:=by simp; omega
 have e6 : ((6 : Int) == op) = false:=by simp; omega
 have e7 : ((7 : Int) == op) = false:=by simp; omega
 simp [lookI,ruleMap,e4,e5,e6,e7]
theorem two_kind (op : Int) (W H : Int) (A : Option Addr) (n c : Nat) (P : List Int) (W' H' : Int) (B : Option Addr) (m d : Nat) (Q : List Int) (w : World) (hn : P.length = n) (hI : Ints w A P) (hl : n ≤ 9223372036854775807) (hm : Q.length = m) (hI' : Ints w B Q) (hl' : m ≤ 9223372036854775807) (hF : Img.Fine ⟨W,H,P⟩) (hF' : Img.Fine ⟨W',H',Q⟩) (hop : ¬ (4 ≤ op ∧ op ≤ 7)) :
 Calls Tryz.prog 47 #[.int .i64 op,.agg #[.int .i64 W,.int .i64 H,.slice A n c],.agg #[.int .i64 W',.int .i64 H',.slice B m d]] w (RetImgErr w Img.none 4):=by
 have hcall : ∀ W0 : World,Below w.heap.size w W0 → Calls Tryz.prog 73 #[.agg #[.int .i64 W,.int .i64 H,.slice A n c]] W0 fun e w'=>e = .returned (.int .i64 0) ∧ Below W0.heap.size W0 w':=by
  intro W0 hb;have:=check_any W H A n c P W0 hn (hI.keep hb) hl
  rwa [checkErr_yes hF] at this
 have hcall2 : ∀ W0 : World,Below w.heap.size w W0 → Calls Tryz.prog 73 #[.agg #[.int .i64 W',.int .i64 H',.slice B m d]] W0 fun e w'=>e = .returned (.int .i64 0) ∧ Below W0.heap.size W0 w':=by
  intro W0 hb;have:=check_any W' H' B m d Q W0 hm (hI'.keep hb) hl'
  rwa [checkErr_yes hF'] at this
 have HC2:=hide hcall2;clear hcall2;have HC:=hide hcall;have HS:=hide (twoBoxes_start w W H A n c W' H' B m d);have HI:=hide hI;have HI':=hide hI';have HN:=hide hn;have HM:=hide hm;have HF:=hide hF;have HF2:=hide hF';clear hcall hI hI' hn hm hF hF';go_enter Tryz.func47,Tryz.ntmps47
 go_wp2_with fail;refine ((unhide HC) _ HS.out.2.2.2).mono ?_;rintro e w1 ⟨rfl,hE⟩;have HB:=hide (HS.out.keep hE);obtain ⟨q0,q1,q2,q3,q4,q5,q6,q7,q8,q9,q10,q11,q12⟩:=HB.out.cells;clear hE HS;go_wp2_with fail;refine ((unhide HC2) _ HB.out.2.2.2).mono ?_;rintro e w2 ⟨rfl,hE⟩;have HB1:=HB;clear HB q0 q1 q2 q3 q4 q5 q6 q7 q8 q9 q10 q11 q12;have HB:=hide (HB1.out.keep hE);obtain ⟨q0,q1,q2,q3,q4,q5,q6,q7,q8,q9,q10,q11,q12⟩:=HB.out.cells;clear hE HB1;go_wp2_with fail;refine (rules_any _).mono ?_;rintro e w3 ⟨rfl,hM,hE⟩;have HBb:=HB;clear HB q0 q1 q2 q3 q4 q5 q6 q7 q8 q9 q10 q11 q12;have HB:=hide (HBb.out.keep hE);obtain ⟨q0,q1,q2,q3,q4,q5,q6,q7,q8,q9,q10,q11,q12⟩:=HB.out.cells;have hz:=nilfn_zero w3;have hlk:=run_lookup_ints Tryz.underlying135 Tryz.underlying3 hz hM op;rw [lookI_none hop] at hlk; simp only [Option.getD_none,Option.isSome_none] at hlk;clear hE HBb hM hz;have z0 : w.heap.size < w3.heap.size:=by omega
 have z1 : w.heap.size + 1 < w3.heap.size:=by omega
 have z2 : ¬ w.heap.size = w3.heap.size:=by omega
 have z3 : ¬ w.heap.size + 1 = w3.heap.size:=by omega
 have z4 : ¬ w.heap.size + 1 + 1 = w3.heap.size:=by omega
 go_wp2_with fail;refine bodyPost_ret (v:=.tuple #[.agg #[.int .i64 0,.int .i64 0,.slice none 0 0],.int .i64 4]) (by simp [results,Tryz.results47,go_sem,q0,q7,q8,q9]) rfl ?_;exact retNone ((((HB.out.2.2.2.setCell (by simp only; omega) _).setCell (by simp only; omega) _).setCell (by simp only; omega) _).alloc (by simp; omega) _)
theorem two_size (op : Int) (W H : Int) (A : Option Addr) (n c : Nat) (P : List Int) (W' H' : Int) (B : Option Addr) (m d : Nat) (Q : List Int) (w : World) (hn : P.length = n) (hI : Ints w A P) (hl : n ≤ 9223372036854775807) (hm : Q.length = m) (hI' : Ints w B Q) (hl' : m ≤ 9223372036854775807) (hF : Img.Fine ⟨W,H,P⟩) (hF' : Img.Fine ⟨W',H',Q⟩) (g : FuncId) (hg : lookI ruleMap op = some (.func (.func g) #[] #[])) (hs : ¬ (W = W' ∧ H = H')) :
 Calls Tryz.prog 47 #[.int .i64 op,.agg #[.int .i64 W,.int .i64 H,.slice A n c],.agg #[.int .i64 W',.int .i64 H',.slice B m d]] w (RetImgErr w Img.none 6):=by
 have hcall : ∀ W0 : World,Below w.heap.size w W0 → Calls Tryz.prog 73 #[.agg #[.int .i64 W,.int .i64 H,.slice A n c]] W0 fun e w'=>e = .returned (.int .i64 0) ∧ Below W0.heap.size W0 w':=by
  intro W0 hb;have:=check_any W H A n c P W0 hn (hI.keep hb) hl
  rwa [checkErr_yes hF] at this
 have hcall2 : ∀ W0 : World,Below w.heap.size w W0 → Calls Tryz.prog 73 #[.agg #[.int .i64 W',.int .i64 H',.slice B m d]] W0 fun e w'=>e = .returned (.int .i64 0) ∧ Below W0.heap.size W0 w':=by
  intro W0 hb;have:=check_any W' H' B m d Q W0 hm (hI'.keep hb) hl'
  rwa [checkErr_yes hF'] at this
 have HC2:=hide hcall2;clear hcall2;have HC:=hide hcall;have HS:=hide (twoBoxes_start w W H A n c W' H' B m d);have HI:=hide hI;have HI':=hide hI';have HN:=hide hn;have HM:=hide hm;have HF:=hide hF;have HF2:=hide hF';clear hcall hI hI' hn hm hF hF';go_enter Tryz.func47,Tryz.ntmps47
 go_wp2_with fail;refine ((unhide HC) _ HS.out.2.2.2).mono ?_;rintro e w1 ⟨rfl,hE⟩;have HB:=hide (HS.out.keep hE);obtain ⟨q0,q1,q2,q3,q4,q5,q6,q7,q8,q9,q10,q11,q12⟩:=HB.out.cells;clear hE HS;go_wp2_with fail;refine ((unhide HC2) _ HB.out.2.2.2).mono ?_;rintro e w2 ⟨rfl,hE⟩;have HB1:=HB;clear HB q0 q1 q2 q3 q4 q5 q6 q7 q8 q9 q10 q11 q12;have HB:=hide (HB1.out.keep hE);obtain ⟨q0,q1,q2,q3,q4,q5,q6,q7,q8,q9,q10,q11,q12⟩:=HB.out.cells;clear hE HB1;go_wp2_with fail;refine (rules_any _).mono ?_;rintro e w3 ⟨rfl,hM,hE⟩;have HBb:=HB;clear HB q0 q1 q2 q3 q4 q5 q6 q7 q8 q9 q10 q11 q12;have HB:=hide (HBb.out.keep hE);obtain ⟨q0,q1,q2,q3,q4,q5,q6,q7,q8,q9,q10,q11,q12⟩:=HB.out.cells;have hz:=nilfn_zero w3;have hlk:=run_lookup_ints Tryz.underlying135 Tryz.underlying3 hz hM op;rw [hg] at hlk; simp only [Option.getD_some,Option.isSome_some] at hlk;clear hE HBb hM hz;have z0 : w.heap.size < w3.heap.size:=by omega
 have z1 : w.heap.size + 1 < w3.heap.size:=by omega
 have z2 : ¬ w.heap.size = w3.heap.size:=by omega
 have z3 : ¬ w.heap.size + 1 = w3.heap.size:=by omega
 have z4 : ¬ w.heap.size + 1 + 1 = w3.heap.size:=by omega
 by_cases hW : W = W'
 ·have hW1 : (W != W') = false:=by simpa using hW
  have hH1 : (H != H') = true:=by simp; exact fun e=>hs ⟨hW,e⟩
  clear hW hs;go_wp2_with fail;refine bodyPost_ret (v:=.tuple #[.agg #[.int .i64 0,.int .i64 0,.slice none 0 0],.int .i64 6]) (by simp [results,Tryz.results47,go_sem,q0,q7,q8,q9]) rfl ?_;exact retNone ((((HB.out.2.2.2.setCell (by simp only; omega) _).setCell (by simp only; omega) _).setCell (by simp only; omega) _).alloc (by simp; omega) _)
 ·have hW1 : (W != W') = true:=by simpa using hW
  clear hW hs;go_wp2_with fail;refine bodyPost_ret (v:=.tuple #[.agg #[.int .i64 0,.int .i64 0,.slice none 0 0],.int .i64 6]) (by simp [results,Tryz.results47,go_sem,q0,q7,q8,q9]) rfl ?_;exact retNone ((((HB.out.2.2.2.setCell (by simp only; omega) _).setCell (by simp only; omega) _).setCell (by simp only; omega) _).alloc (by simp; omega) _)
theorem two_yes (op : Int) (W H : Int) (A : Option Addr) (n c : Nat) (P : List Int) (W' H' : Int) (B : Option Addr) (m d : Nat) (Q : List Int) (w : World) (hn : P.length = n) (hI : Ints w A P) (hl : n ≤ 9223372036854775807) (hm : Q.length = m) (hI' : Ints w B Q) (hl' : m ≤ 9223372036854775807) (hF : Img.Fine ⟨W,H,P⟩) (hF' : Img.Fine ⟨W,H,Q⟩) (g : FuncId) (hg : lookI ruleMap op = some (.func (.func g) #[] #[])) (eg : ∀ args w,(callFunc g args).run Tryz.prog w = .ok (.enter g args) w)
 (hrule : ∀ (x y : Int) (w : World),0 ≤ x → x ≤ 65535 → 0 ≤ y → y ≤ 65535 → Calls Tryz.prog g #[.int .i64 x,.int .i64 y] w fun e w'=>e = .returned (.int .i64 (twoNum op x y)) ∧ w = w') (hW : W = W') (hH : H = H') :
 Calls Tryz.prog 47 #[.int .i64 op,.agg #[.int .i64 W,.int .i64 H,.slice A n c],.agg #[.int .i64 W',.int .i64 H',.slice B m d]] w (RetImgErr w (twoImg op ⟨W,H,P⟩ ⟨W,H,Q⟩) 0):=by
 subst hW hH;obtain ⟨⟨d1,d2⟩,⟨d3,d4⟩,_⟩:=id hF;simp only at d1 d2 d3 d4;have HR:=hide hrule;clear hrule;have hWW : (W != W) = false:=by simp
 have hHH : (H != H) = false:=by simp
 have hcall : ∀ W0 : World,Below w.heap.size w W0 → Calls Tryz.prog 73 #[.agg #[.int .i64 W,.int .i64 H,.slice A n c]] W0 fun e w'=>e = .returned (.int .i64 0) ∧ Below W0.heap.size W0 w':=by
  intro W0 hb;have:=check_any W H A n c P W0 hn (hI.keep hb) hl
  rwa [checkErr_yes hF] at this
 have hcall2 : ∀ W0 : World,Below w.heap.size w W0 → Calls Tryz.prog 73 #[.agg #[.int .i64 W,.int .i64 H,.slice B m d]] W0 fun e w'=>e = .returned (.int .i64 0) ∧ Below W0.heap.size W0 w':=by
  intro W0 hb;have:=check_any W H B m d Q W0 hm (hI'.keep hb) hl'
  rwa [checkErr_yes hF'] at this
 have HC2:=hide hcall2;clear hcall2;have HC:=hide hcall;have HS:=hide (twoBoxes_start w W H A n c W H B m d);have HI:=hide hI;have HI':=hide hI';have HN:=hide hn;have HM:=hide hm;have HF:=hide hF;have HF2:=hide hF';clear hcall hI hI' hn hm hF hF';go_enter Tryz.func47,Tryz.ntmps47
 go_wp2_with fail;refine ((unhide HC) _ HS.out.2.2.2).mono ?_;rintro e w1 ⟨rfl,hE⟩;have HB:=hide (HS.out.keep hE);obtain ⟨q0,q1,q2,q3,q4,q5,q6,q7,q8,q9,q10,q11,q12⟩:=HB.out.cells;clear hE HS;go_wp2_with fail;refine ((unhide HC2) _ HB.out.2.2.2).mono ?_;rintro e w2 ⟨rfl,hE⟩;have HB1:=HB;clear HB q0 q1 q2 q3 q4 q5 q6 q7 q8 q9 q10 q11 q12;have HB:=hide (HB1.out.keep hE);obtain ⟨q0,q1,q2,q3,q4,q5,q6,q7,q8,q9,q10,q11,q12⟩:=HB.out.cells;clear hE HB1;go_wp2_with fail;refine (rules_any _).mono ?_;rintro e w3 ⟨rfl,hM,hE⟩;have HBb:=HB;clear HB q0 q1 q2 q3 q4 q5 q6 q7 q8 q9 q10 q11 q12;have HB:=hide (HBb.out.keep hE);obtain ⟨q0,q1,q2,q3,q4,q5,q6,q7,q8,q9,q10,q11,q12⟩:=HB.out.cells;have hz:=nilfn_zero w3;have hlk:=run_lookup_ints Tryz.underlying135 Tryz.underlying3 hz hM op;rw [hg] at hlk; simp only [Option.getD_some,Option.isSome_some] at hlk;clear hE HBb hM hz;have z0 : w.heap.size < w3.heap.size:=by omega
 have z1 : w.heap.size + 1 < w3.heap.size:=by omega
 have z2 : ¬ w.heap.size = w3.heap.size:=by omega
 have z3 : ¬ w.heap.size + 1 = w3.heap.size:=by omega
 have z4 : ¬ w.heap.size + 1 + 1 = w3.heap.size:=by omega
 go_wp2_with fail;have HB2:=hide (HB.out.keep ((Below.refl _ _).alloc (Nat.le_refl _) (.cells #[.func (.func g) #[] #[]] 132)));have hat : VarBox (w3.alloc (.cells #[.func (.func g) #[] #[]] 132)) w3.heap.size 132 (.func (.func g) #[] #[]):=Blk.new w3 132 [.func (.func g) #[] #[]];have HAT:=hide hat;clear hat;refine (draw_any 75 #[.pointer (some ⟨w3.heap.size,0,none⟩),.pointer (some ⟨w.heap.size,0,none⟩),.pointer (some ⟨w.heap.size + 1,0,none⟩)] W H (by omega) (by omega) (by omega) (by omega) (fun x y=>twoNum op (Img.at_ ⟨W,H,P⟩ x y) (Img.at_ ⟨W,H,Q⟩ x y)) _ enters_Two1 (fun W0 x y hb hx hx' hy hy'=>?_)).mono ?_
 ·exact two1_any w3.heap.size w.heap.size (w.heap.size + 1) op g W H A B n c m d P Q x y W0 (unhide HR) eg HF.out HN.out (HI.out.keep (HB2.out.2.2.2.trans (hb.mono HB2.out.2.2.2.size))) HF2.out HM.out (HI'.out.keep (HB2.out.2.2.2.trans (hb.mono HB2.out.2.2.2.size))) (Blk.keep HAT.out hb) (Blk.keep HB2.out.1 hb) (Blk.keep HB2.out.2.1 hb) hx hx' hy hy'
 rw [twoImg_drawn HF.out];rintro e w4 ⟨W1,H1,P1,A1,n1,c1,hr,hn1,rfl,hI1,hA1,hb1⟩;have HRR:=hide hr;have HN1:=hide hn1;have HA1:=hide hA1;have HB3:=hide (HB2.out.keep hb1);obtain ⟨q0,q1,q2,q3,q4,q5,q6,q7,q8,q9,q10,q11,q12⟩:=HB3.out.cells;have hsz:=HB.out.cells.1;clear hr hn1 hA1 hb1;go_wp2_with fail;refine bodyPost_ret (v:=.tuple #[.agg #[.int .i64 W1,.int .i64 H1,.slice A1 n1 c1],.int .i64 0]) (by simp [results,Tryz.results47,go_sem,q7,q8,q9]) rfl ?_;refine retBox HRR.out HN1.out hI1 HA1.out ?_ (by omega) HB3.out.2.2.2
 show w.heap.size + 1 + 1 < (w3.alloc _).heap.size
 simp only [World.size_alloc]; omega
theorem two_any (op : Int) (W H : Int) (A : Option Addr) (n c : Nat) (P : List Int) (W' H' : Int) (B : Option Addr) (m d : Nat) (Q : List Int) (w : World) (hn : P.length = n) (hI : Ints w A P) (hl : n ≤ 9223372036854775807) (hm : Q.length = m) (hI' : Ints w B Q) (hl' : m ≤ 9223372036854775807) :
 Calls Tryz.prog 47 #[.int .i64 op,.agg #[.int .i64 W,.int .i64 H,.slice A n c],.agg #[.int .i64 W',.int .i64 H',.slice B m d]] w (RetImgErr w (twoAns op ⟨W,H,P⟩ ⟨W',H',Q⟩) (twoErr op ⟨W,H,P⟩ ⟨W',H',Q⟩)):=by
 by_cases hF : Img.Fine ⟨W,H,P⟩
 ·by_cases hF' : Img.Fine ⟨W',H',Q⟩
  ·by_cases hop : 4 ≤ op ∧ op ≤ 7
   ·obtain ⟨g,hg,eg,hrule⟩:=rule_of hop
    by_cases hs : W = W' ∧ H = H'
    ·obtain ⟨hW,hH⟩:=hs
     subst hW hH;have e : twoErr op ⟨W,H,P⟩ ⟨W,H,Q⟩ = 0:=by unfold twoErr; rw [if_neg (by simp [hF,hF']),if_neg (by omega),if_neg (by simp)]
     have a : twoAns op ⟨W,H,P⟩ ⟨W,H,Q⟩ = twoImg op ⟨W,H,P⟩ ⟨W,H,Q⟩:=by unfold twoAns; rw [if_pos e]
     rw [a,e];exact two_yes op W H A n c P W H B m d Q w hn hI hl hm hI' hl' hF hF' g hg eg hrule rfl rfl
    ·have e : twoErr op ⟨W,H,P⟩ ⟨W',H',Q⟩ = 6:=by unfold twoErr; rw [if_neg (by simp [hF,hF']),if_neg (by omega),if_pos (by simp only; omega)]
     have a : twoAns op ⟨W,H,P⟩ ⟨W',H',Q⟩ = Img.none:=by unfold twoAns; rw [if_neg (by omega)]
     rw [a,e];exact two_size op W H A n c P W' H' B m d Q w hn hI hl hm hI' hl' hF hF' g hg hs
   ·have e : twoErr op ⟨W,H,P⟩ ⟨W',H',Q⟩ = 4:=by unfold twoErr; rw [if_neg (by simp [hF,hF']),if_pos hop]
    have a : twoAns op ⟨W,H,P⟩ ⟨W',H',Q⟩ = Img.none:=by unfold twoAns; rw [if_neg (by omega)]
    rw [a,e];exact two_kind op W H A n c P W' H' B m d Q w hn hI hl hm hI' hl' hF hF' hop
  ·have e : twoErr op ⟨W,H,P⟩ ⟨W',H',Q⟩ = 1:=by unfold twoErr; rw [if_pos (by simp [hF'])]
   have a : twoAns op ⟨W,H,P⟩ ⟨W',H',Q⟩ = Img.none:=by unfold twoAns; rw [if_neg (by omega)]
   rw [a,e];exact two_form2 op W H A n c P W' H' B m d Q w hn hI hl hm hI' hl' hF hF'
 ·have e : twoErr op ⟨W,H,P⟩ ⟨W',H',Q⟩ = 1:=by unfold twoErr; rw [if_pos (by simp [hF])]
  have a : twoAns op ⟨W,H,P⟩ ⟨W',H',Q⟩ = Img.none:=by unfold twoAns; rw [if_neg (by omega)]
  rw [a,e];exact two_form1 op W H A n c P W' H' B m d Q w hn hI hl hm hI' hl' hF
end Go.Proofs.YtibpmogmeoappabGreat
namespace Go.Proofs.YtibpmogmeoappabGreat
open Go.RowKit
theorem twoOf_start (w : World) (W H : Int) (A : Option Addr) (n c : Nat) (W' H' : Int) (B : Option Addr) (m d : Nat) :
 (∀ b ∈ [(w.heap.size, 29, [Value.int .i64 W, .int .i64 H, .slice A n c]), (w.heap.size + 1, 29, [Value.int .i64 W', .int .i64 H', .slice B m d]), (w.heap.size + 2, 29, [Value.int .i64 0, .int .i64 0, .slice none 0 0])],
   Blk ((((w.alloc (.cells #[.int .i64 W,.int .i64 H,.slice A n c] 29)).alloc (.cells #[.int .i64 W',.int .i64 H',.slice B m d] 29)).alloc (.cells #[.int .i64 0,.int .i64 0,.slice none 0 0] 29)).alloc (.cells #[.int .i64 W,.int .i64 H,.slice none 0 0] 29)) b.1 b.2.1 b.2.2 ∧ b.1 < w.heap.size + 4 ∧ b.1 ≠ w.heap.size + 3) ∧
 Blk ((((w.alloc (.cells #[.int .i64 W,.int .i64 H,.slice A n c] 29)).alloc (.cells #[.int .i64 W',.int .i64 H',.slice B m d] 29)).alloc (.cells #[.int .i64 0,.int .i64 0,.slice none 0 0] 29)).alloc (.cells #[.int .i64 W,.int .i64 H,.slice none 0 0] 29)) (w.heap.size + 3) 29 [.int .i64 W,.int .i64 H,.slice none 0 0] ∧
 Below w.heap.size w ((((w.alloc (.cells #[.int .i64 W,.int .i64 H,.slice A n c] 29)).alloc (.cells #[.int .i64 W',.int .i64 H',.slice B m d] 29)).alloc (.cells #[.int .i64 0,.int .i64 0,.slice none 0 0] 29)).alloc (.cells #[.int .i64 W,.int .i64 H,.slice none 0 0] 29)):=by
 have b0:=Blk.new w 29 [Value.int .i64 W,.int .i64 H,.slice A n c];have b1:=Blk.new (w.alloc (.cells #[.int .i64 W,.int .i64 H,.slice A n c] 29)) 29 [Value.int .i64 W',.int .i64 H',.slice B m d];have b2:=Blk.new ((w.alloc (.cells #[.int .i64 W,.int .i64 H,.slice A n c] 29)).alloc (.cells #[.int .i64 W',.int .i64 H',.slice B m d] 29)) 29 [Value.int .i64 0,.int .i64 0,.slice none 0 0];have b3:=Blk.new (((w.alloc (.cells #[.int .i64 W,.int .i64 H,.slice A n c] 29)).alloc (.cells #[.int .i64 W',.int .i64 H',.slice B m d] 29)).alloc (.cells #[.int .i64 0,.int .i64 0,.slice none 0 0] 29)) 29 [Value.int .i64 W,.int .i64 H,.slice none 0 0];simp only [World.size_alloc] at b1 b2 b3;refine ⟨?_,b3,?_⟩
 ·intro b hb
  simp only [List.mem_cons,List.not_mem_nil,or_false] at hb;rcases hb with rfl | rfl | rfl
  ·exact ⟨((b0.alloc _).alloc _).alloc _,by simp,by simp⟩
  ·exact ⟨(b1.alloc _).alloc _,by simp,by simp⟩
  ·exact ⟨b2.alloc _,by simp,by simp⟩
 ·exact ((((Below.refl _ _).alloc (Nat.le_refl _) _).alloc (by simp) _).alloc (by simp; omega) _).alloc (by simp; omega) _
theorem twoOf_any (op : Int) (W H : Int) (A : Option Addr) (n c : Nat) (P : List Int) (W' H' : Int) (B : Option Addr) (m d : Nat) (Q : List Int) (w : World) (hop : 4 ≤ op ∧ op ≤ 7)
 (hF : Img.Fine ⟨W,H,P⟩) (hn : P.length = n) (hI : Ints w A P) (hF' : Img.Fine ⟨W',H',Q⟩) (hm : Q.length = m) (hI' : Ints w B Q) (hW : W = W') (hH : H = H') :
 Calls Tryz.prog 58 #[.int .i64 op,.agg #[.int .i64 W,.int .i64 H,.slice A n c],.agg #[.int .i64 W',.int .i64 H',.slice B m d]] w (RetImg w (twoImg op ⟨W,H,P⟩ ⟨W',H',Q⟩)):=by
 obtain ⟨i0,hi0,hz0,hz1,hz2⟩:=info_parts Tryz.info3
 have hnm : n = m:=by
  have h1:=hF.2.2.1;have h2:=hF'.2.2.1;simp only at h1 h2;rw [hW,hH] at h1;omega
 have hn256 : n ≤ 256:=by
  have h1:=hF.2.2.1;have h2:=mul_bd hF.1.1 hF.1.2 hF.2.1.1 hF.2.1.2;simp only at h1 h2;omega
 have HF:=hide hF;have HF2:=hide hF';have HN:=hide hn;have HM:=hide hm;have HI:=hide hI;have HI':=hide hI';have HOP:=hide hop;subst hnm;clear hF hF' hn hm hI hI' hop hW hH;go_enter Tryz.func58,Tryz.ntmps58
 go_wp2_with fail
 go_loopw [8] (fun i wr=>∃ (k : Nat) (A' : Option Addr) (c' : Nat),k ≤ n ∧ i = .int .i64 k ∧ LineRel w W H (w.heap.size + 3) (w.heap.size + 4) [(w.heap.size,29,[.int .i64 W,.int .i64 H,.slice A n c]),(w.heap.size + 1,29,[.int .i64 W',.int .i64 H',.slice B n d]),(w.heap.size + 2,29,[.int .i64 0,.int .i64 0,.slice none 0 0])] (pairList op P Q k) A' k c' wr)
  (fun i _=>n - (intOf i).toNat)
 case atStart =>
  have HB:=twoOf_start w W H A n c W' H' B n d;exact ⟨0,none,0,by omega,rfl,LineRel.start HB.2.1 (by omega) (by omega) (by simp) HB.1 HB.2.2⟩
 case round =>
  obtain ⟨k,A',c',hk,rfl,hG⟩:=hrel;have HG:=hide hG;have hs:=hG.size;have hk30 : k ≤ 1073741824:=by omega
  obtain ⟨t0,t1,t2,t3,t4⟩:=hG.cells;have hba:=hG.others (w.heap.size,29,[.int .i64 W,.int .i64 H,.slice A n c]) (by simp);have hbb:=hG.others (w.heap.size + 1,29,[.int .i64 W',.int .i64 H',.slice B n d]) (by simp);have q2 : wr.cell? ⟨w.heap.size,2,none⟩ = some (.slice A n c):=by rw [hba.1.cell]; rfl
  have q3 : wr.cell? ⟨w.heap.size + 1,2,none⟩ = some (.slice B n d):=by rw [hbb.1.cell]; rfl
  clear hG hba hbb;by_cases hlt : k < n
  ·obtain ⟨b,o,x,hA,hb,hx,hc⟩:=(HI.out.keep HG.out.below).at_ k (by have:=HN.out; omega)
   obtain ⟨b2,o2,y,hB,hb2,hy,hc2⟩:=(HI'.out.keep HG.out.below).at_ k (by have:=HM.out; omega);have hvx:=HF.out.2.2.2 x (List.mem_of_getElem? hx);have hvy:=HF2.out.2.2.2 y (List.mem_of_getElem? hy);have HST:=hide (pairList_succ op P Q k hx hy);have hk0 : (0 : Int) ≤ (k : Int):=by omega
   have hk1 : (k : Int) < (n : Int):=by omega
   obtain ⟨x0,x1⟩:=hvx;obtain ⟨y0,y1⟩:=hvy;have hm0:=Int.mul_nonneg x0 y0;have hm1 : x * y ≤ 65535 * 65535:=Int.mul_le_mul x1 y1 y0 (by omega);have hd1 : x * y / 65535 ≤ x * y:=Int.ediv_le_self _ hm0;have hd0 : 0 ≤ x * y / 65535:=Int.ediv_nonneg hm0 (by omega);have e1 : IntKind.i64.wrap (x + y) = x + y:=IntWalk.i64_in _ (by omega);have e2 : IntKind.i64.wrap (x - y) = x - y:=IntWalk.i64_in _ (by omega);have e3 : IntKind.i64.wrap (x * y) = x * y:=IntWalk.i64_in _ (by omega);have e4 : (x * y).tdiv 65535 = x * y / 65535:=Int.tdiv_eq_ediv_of_nonneg hm0;have e5 : IntKind.i64.wrap (x * y / 65535) = x * y / 65535:=IntWalk.i64_in _ (by omega);subst hA hB;clear hx hy;have hopc:=HOP.out;obtain h | h | h | h : op = 4 ∨ op = 5 ∨ op = 6 ∨ op = 7:=by omega
   ·subst h
    have hmin : (if x + y < 65535 then x + y else 65535) = min 65535 (x + y):=by omega
    go_wp2_with fail;go_quiet (fail)
    have HG1:=hide (HG.out.keep (below_drewN (Below.refl _ _) nq));have hs1 : w.heap.size + 4 ≤ (wr.drewN nq).heap.size:=hs;go_wp2_with (at_builtin; refine wpList_app1 (wr.drewN nq) rfl _ _ 25 rfl (w.heap.size + 4) 3 i0 _ 1 8 Tryz.underlying25 hi0 hz0 hz1 hz2 rfl (by omega) A' k c' _ [.int .i64 (min 65535 (x + y))] rfl HG1.out.own rfl rfl (one_int _) hk30 (by omega) hs1 ?_; intro A1 c1 w1 hown1 hg1; obtain ⟨p0,p1,p2⟩:=HG1.out.midCells hg1)
    go_roundw
    case rel=>exact ⟨k + 1,A1,c1,by omega,by go_num,by rw [HST.out]; exact HG1.out.step hg1 hown1⟩
    case measure=>simp [intOf]; omega
   ·subst h
    have hmin : (if y < x then x - y else 0) = max 0 (x - y):=by omega
    go_wp2_with fail;go_quiet (fail)
    have HG1:=hide (HG.out.keep (below_drewN (Below.refl _ _) nq));have hs1 : w.heap.size + 4 ≤ (wr.drewN nq).heap.size:=hs;go_wp2_with (at_builtin; refine wpList_app1 (wr.drewN nq) rfl _ _ 25 rfl (w.heap.size + 4) 3 i0 _ 1 8 Tryz.underlying25 hi0 hz0 hz1 hz2 rfl (by omega) A' k c' _ [.int .i64 (max 0 (x - y))] rfl HG1.out.own rfl rfl (one_int _) hk30 (by omega) hs1 ?_; intro A1 c1 w1 hown1 hg1; obtain ⟨p0,p1,p2⟩:=HG1.out.midCells hg1)
    go_roundw
    case rel=>exact ⟨k + 1,A1,c1,by omega,by go_num,by rw [HST.out]; exact HG1.out.step hg1 hown1⟩
    case measure=>simp [intOf]; omega
   ·subst h
    go_wp2_with fail;go_quiet (fail)
    have HG1:=hide (HG.out.keep (below_drewN (Below.refl _ _) nq));have hs1 : w.heap.size + 4 ≤ (wr.drewN nq).heap.size:=hs;go_wp2_with (at_builtin; refine wpList_app1 (wr.drewN nq) rfl _ _ 25 rfl (w.heap.size + 4) 3 i0 _ 1 8 Tryz.underlying25 hi0 hz0 hz1 hz2 rfl (by omega) A' k c' _ [.int .i64 (x * y / 65535)] rfl HG1.out.own rfl rfl (one_int _) hk30 (by omega) hs1 ?_; intro A1 c1 w1 hown1 hg1; obtain ⟨p0,p1,p2⟩:=HG1.out.midCells hg1)
    go_roundw
    case rel=>exact ⟨k + 1,A1,c1,by omega,by go_num,by rw [HST.out]; exact HG1.out.step hg1 hown1⟩
    case measure=>simp [intOf]; omega
   ·subst h
    have hmin : (if x < y then y else x) = max x y:=by omega
    go_wp2_with fail;go_quiet (fail)
    have HG1:=hide (HG.out.keep (below_drewN (Below.refl _ _) nq));have hs1 : w.heap.size + 4 ≤ (wr.drewN nq).heap.size:=hs;go_wp2_with (at_builtin; refine wpList_app1 (wr.drewN nq) rfl _ _ 25 rfl (w.heap.size + 4) 3 i0 _ 1 8 Tryz.underlying25 hi0 hz0 hz1 hz2 rfl (by omega) A' k c' _ [.int .i64 (max x y)] rfl HG1.out.own rfl rfl (one_int _) hk30 (by omega) hs1 ?_; intro A1 c1 w1 hown1 hg1; obtain ⟨p0,p1,p2⟩:=HG1.out.midCells hg1)
    go_roundw
    case rel=>exact ⟨k + 1,A1,c1,by omega,by go_num,by rw [HST.out]; exact HG1.out.step hg1 hown1⟩
    case measure=>simp [intOf]; omega
  ·have hkn : k = n:=by omega
   have hR:=(HG.out.others (w.heap.size + 2,29,[.int .i64 0,.int .i64 0,.slice none 0 0]) (by simp)).1;have r0 : wr.cell? ⟨w.heap.size + 1 + 1,0,none⟩ = some (.int .i64 0):=by rw [hR.cell]; rfl
   have r1' : wr.cell? ⟨w.heap.size + 1 + 1,1,none⟩ = some (.int .i64 0):=by rw [hR.cell]; rfl
   have r2' : wr.cell? ⟨w.heap.size + 1 + 1,2,none⟩ = some (.slice none 0 0):=by rw [hR.cell]; rfl
   have f0 : wr.frozen? ⟨w.heap.size + 1 + 1,0,none⟩ = false:=hR.frozen 0;have f1 : wr.frozen? ⟨w.heap.size + 1 + 1,1,none⟩ = false:=hR.frozen 1;have f2 : wr.frozen? ⟨w.heap.size + 1 + 1,2,none⟩ = false:=hR.frozen 2;have HKN:=hide hkn;clear hR hkn;go_wp2_with fail;refine bodyPost_ret (v:=.agg #[.int .i64 W,.int .i64 H,.slice A' k c']) (by simp [results,Tryz.results58,go_sem,r0,r1',r2']) rfl ?_
   have e : twoImg op ⟨W,H,P⟩ ⟨W',H',Q⟩ = ⟨W,H,pairList op P Q k⟩:=by
    unfold twoImg pairList; simp only; rw [HN.out,HKN.out]
   rw [e];exact HG.out.done (gres:=w.heap.size + 2) (u:=[.int .i64 0,.int .i64 0,.slice none 0 0]) (by simp) (by omega)
end Go.Proofs.YtibpmogmeoappabGreat
