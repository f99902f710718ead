/- Walks: One. (The cases are printed by gen_one.py.) -/
import Derived.Test.YtibpmogmeoappabGreatJImgA
import Derived.Laws.EntriesVeiled
set_option maxRecDepth 100000
set_option maxHeartbeats 600000
namespace Go.Proofs.YtibpmogmeoappabGreat
open Go.RowKit
theorem retBoxNone {w w1 : World} {g : Nat} {x : Int} {u v z : Value} (hw : w.heap.size ≤ g) (hb : Below w.heap.size w w1) :
 RetImgErr w Img.none x (.returned (.tuple #[.agg #[.int .i64 0,.int .i64 0,.slice none 0 0],.int .i64 x])) (((w1.setCell ⟨g,0,none⟩ u).setCell ⟨g,1,none⟩ v).setCell ⟨g,2,none⟩ z) :=
 retNone (((hb.setCell (p:=⟨g,0,none⟩) hw u).setCell (p:=⟨g,1,none⟩) hw v).setCell (p:=⟨g,2,none⟩) hw z)
def OneBoxes (w : World) (W H : Int) (A : Option Addr) (n c : Nat) (k : Int) (w1 : World) : Prop :=
 ImgBox w1 w.heap.size W H A n c ∧ VarBox w1 (w.heap.size + 1) 3 (.int .i64 k) ∧ Blk w1 (w.heap.size + 1 + 1) 29 [.int .i64 0,.int .i64 0,.slice none 0 0] ∧ Below w.heap.size w w1
theorem OneBoxes.keep {w : World} {W H : Int} {A : Option Addr} {n c : Nat} {k : Int} {w1 w2 : World} (h : OneBoxes w W H A n c k w1) (hb : Below w1.heap.size w1 w2) : OneBoxes w W H A n c k w2 :=
 ⟨Blk.keep h.1 hb,Blk.keep h.2.1 hb,h.2.2.1.keep hb,h.2.2.2.trans (hb.mono h.2.2.2.size)⟩
theorem oneBoxes_start (w : World) (W H : Int) (A : Option Addr) (n c : Nat) (k : Int) :
 OneBoxes w W H A n c k (((w.alloc (.cells #[.int .i64 W,.int .i64 H,.slice A n c] 29)).alloc (.cells #[.int .i64 k] 3)).alloc (.cells #[.int .i64 0,.int .i64 0,.slice none 0 0] 29)):=by
 have b0:=Blk.new w 29 [Value.int .i64 W,.int .i64 H,.slice A n c];have b1:=Blk.new (w.alloc (.cells #[.int .i64 W,.int .i64 H,.slice A n c] 29)) 3 [Value.int .i64 k];have b2:=Blk.new ((w.alloc (.cells #[.int .i64 W,.int .i64 H,.slice A n c] 29)).alloc (.cells #[.int .i64 k] 3)) 29 [Value.int .i64 0,.int .i64 0,.slice none 0 0];simp only [World.size_alloc] at b1 b2;exact ⟨(b0.alloc _).alloc _,b1.alloc _,b2,(((Below.refl _ _).alloc (Nat.le_refl _) _).alloc (by simp) _).alloc (by simp; omega) _⟩
theorem OneBoxes.cells {w : World} {W H : Int} {A : Option Addr} {n c : Nat} {k : Int} {w1 : World} (h : OneBoxes w W H A n c k w1) :
 w.heap.size + 1 + 1 < w1.heap.size ∧ w1.cell? ⟨w.heap.size,0,none⟩ = some (.int .i64 W) ∧ w1.cell? ⟨w.heap.size,1,none⟩ = some (.int .i64 H) ∧ w1.cell? ⟨w.heap.size,2,none⟩ = some (.slice A n c) ∧
 w1.cell? ⟨w.heap.size + 1,0,none⟩ = some (.int .i64 k) ∧ w1.cell? ⟨w.heap.size + 1 + 1,0,none⟩ = some (.int .i64 0) ∧ w1.cell? ⟨w.heap.size + 1 + 1,1,none⟩ = some (.int .i64 0) ∧ w1.cell? ⟨w.heap.size + 1 + 1,2,none⟩ = some (.slice none 0 0) ∧
 w1.frozen? ⟨w.heap.size + 1 + 1,0,none⟩ = false ∧ w1.frozen? ⟨w.heap.size + 1 + 1,1,none⟩ = false ∧ w1.frozen? ⟨w.heap.size + 1 + 1,2,none⟩ = false :=
 ⟨h.2.2.1.lt,by rw [Blk.cell h.1]; rfl,by rw [Blk.cell h.1]; rfl,by rw [Blk.cell h.1]; rfl,by rw [Blk.cell h.2.1]; rfl,by rw [h.2.2.1.cell]; rfl,by rw [h.2.2.1.cell]; rfl,by rw [h.2.2.1.cell]; rfl,h.2.2.1.frozen 0,h.2.2.1.frozen 1,h.2.2.1.frozen 2⟩
theorem one_form (op : Int) (W H : Int) (A : Option Addr) (n c : Nat) (P : List Int) (k : Int) (w : World) (hF : ¬ Img.Fine ⟨W,H,P⟩) (hn : P.length = n) (hI : Ints w A P) (hl : n ≤ 9223372036854775807) :
 Calls Tryz.prog 49 #[.int .i64 op,.agg #[.int .i64 W,.int .i64 H,.slice A n c],.int .i64 k] w (RetImgErr w Img.none 1):=by
 have hcall : ∀ W0 : World,Below w.heap.size w W0 → Calls Tryz.prog 73 #[.agg #[.int .i64 W,.int .i64 H,.slice A n c]] W0 fun e w'=>e = .returned (.int .i64 1) ∧ Below W0.heap.size W0 w':=by
  intro W0 hb;have:=check_any W H A n c P W0 hn (hI.keep hb) hl
  rwa [checkErr_no hF] at this
 have HC:=hide hcall;have HI:=hide hI;have HN:=hide hn;have HF:=hide hF;have HS:=hide (oneBoxes_start w W H A n c k);clear hcall hn hI hF;go_enter Tryz.func49,Tryz.ntmps49
 go_wp2_with fail;refine ((unhide HC) _ HS.out.2.2.2).mono ?_;rintro e w1 ⟨rfl,hE⟩;have HB:=hide (HS.out.keep hE);obtain ⟨q0,q1,q2,q3,q4,q5,q6,q7,q8,q9,q10⟩:=HB.out.cells;have z0 : w.heap.size < w1.heap.size:=by omega
 have z1 : w.heap.size + 1 < w1.heap.size:=by omega
 have z2 : ¬ w.heap.size = w1.heap.size:=by omega
 have z3 : ¬ w.heap.size + 1 = w1.heap.size:=by omega
 have z4 : ¬ w.heap.size + 1 + 1 = w1.heap.size:=by omega
 clear hE HS;go_wp2_with fail
 all_goals
  refine bodyPost_ret (v:=.tuple #[.agg #[.int .i64 0,.int .i64 0,.slice none 0 0],.int .i64 1]) (by simp [results,Tryz.results49,go_sem,q5,q6,q7]) rfl ?_;exact retBoxNone (by omega) HB.out.2.2.2
theorem one3_walk (W H : Int) (A : Option Addr) (n c : Nat) (P : List Int) (k : Int) (w : World) (hF : Img.Fine ⟨W,H,P⟩) (hn : P.length = n) (hI : Ints w A P) (hl : n ≤ 9223372036854775807) :
 Calls Tryz.prog 49 #[.int .i64 3,.agg #[.int .i64 W,.int .i64 H,.slice A n c],.int .i64 k] w (RetImgErr w (drawn W H (onePix 3 ⟨W,H,P⟩ k)) 0):=by
 have hcall : ∀ W0 : World,Below w.heap.size w W0 → Calls Tryz.prog 73 #[.agg #[.int .i64 W,.int .i64 H,.slice A n c]] W0 fun e w'=>e = .returned (.int .i64 0) ∧ Below W0.heap.size W0 w':=by
  intro W0 hb;have:=check_any W H A n c P W0 hn (hI.keep hb) hl
  rwa [checkErr_yes hF] at this
 have HC:=hide hcall;have HI:=hide hI;have HN:=hide hn;have HF:=hide hF;obtain ⟨⟨d1,d2⟩,⟨d3,d4⟩,_⟩:=id hF;simp only at d1 d2 d3 d4;have HS:=hide (oneBoxes_start w W H A n c k);clear hcall hn hI hF;go_enter Tryz.func49,Tryz.ntmps49
 go_wp2_with fail;refine ((unhide HC) _ HS.out.2.2.2).mono ?_;rintro e w1 ⟨rfl,hE⟩;have HB:=hide (HS.out.keep hE);obtain ⟨q0,q1,q2,q3,q4,q5,q6,q7,q8,q9,q10⟩:=HB.out.cells;have z0 : w.heap.size < w1.heap.size:=by omega
 have z1 : w.heap.size + 1 < w1.heap.size:=by omega
 have z2 : ¬ w.heap.size = w1.heap.size:=by omega
 have z3 : ¬ w.heap.size + 1 = w1.heap.size:=by omega
 have z4 : ¬ w.heap.size + 1 + 1 = w1.heap.size:=by omega
 clear hE HS;go_wp2_with fail;go_quiet (fail)
 go_wp2_with fail;all_goals try (exfalso; omega)
 have HB2:=hide ((HB.out.keep ((Below.refl _ _).alloc (Nat.le_refl _) (.cells #[atFn w.heap.size] 132))).keep (below_drewN (Below.refl _ _) nq));have hat : VarBox ((w1.alloc (.cells #[atFn w.heap.size] 132)).drewN nq) w1.heap.size 132 (atFn w.heap.size):=Blk.new w1 132 [atFn w.heap.size];have HAT:=hide hat;clear hat;refine (draw_any 81 #[.pointer (some ⟨w.heap.size,0,none⟩)] W H (by omega) (by omega) (by omega) (by omega) (onePix 3 ⟨W,H,P⟩ k) _ enters_One1 (fun W0 x y hb hx hx' hy hy'=>?_)).mono ?_
 ·exact (one1_any w.heap.size W H A n c P x y W0 HF.out HN.out (HI.out.keep (HB2.out.2.2.2.trans (hb.mono HB2.out.2.2.2.size))) (Blk.keep HB2.out.1 hb) hx hx' hy hy').mono fun _ _ ⟨a,b⟩=>⟨a,b ▸ Below.refl _ _⟩
 rintro e w2 ⟨W1,H1,P1,A1,n1,c1,hr,hn1,rfl,hI1,hA1,hb1⟩;have HR:=hide hr;have HN1:=hide hn1;have HA1:=hide hA1;have HB3:=hide (HB2.out.keep hb1);obtain ⟨q0,q1,q2,q3,q4,q5,q6,q7,q8,q9,q10⟩:=HB3.out.cells;have hsz:=HB.out.cells.1;clear hr hn1 hA1 hb1;go_wp2_with fail;refine bodyPost_ret (v:=.tuple #[.agg #[.int .i64 W1,.int .i64 H1,.slice A1 n1 c1],.int .i64 0]) (by simp [results,Tryz.results49,go_sem,q5,q6,q7]) rfl ?_;refine retBox HR.out HN1.out hI1 HA1.out ?_ (by omega) HB3.out.2.2.2
 show w.heap.size + 1 + 1 < (w1.alloc _).heap.size
 simp only [World.size_alloc]; omega
theorem one8_walk (W H : Int) (A : Option Addr) (n c : Nat) (P : List Int) (k : Int) (w : World) (hF : Img.Fine ⟨W,H,P⟩) (hn : P.length = n) (hI : Ints w A P) (hl : n ≤ 9223372036854775807) (k1 : 0 ≤ k) (k2 : k ≤ 65535) :
 Calls Tryz.prog 49 #[.int .i64 8,.agg #[.int .i64 W,.int .i64 H,.slice A n c],.int .i64 k] w (RetImgErr w (drawn W H (onePix 8 ⟨W,H,P⟩ k)) 0):=by
 have hcall : ∀ W0 : World,Below w.heap.size w W0 → Calls Tryz.prog 73 #[.agg #[.int .i64 W,.int .i64 H,.slice A n c]] W0 fun e w'=>e = .returned (.int .i64 0) ∧ Below W0.heap.size W0 w':=by
  intro W0 hb;have:=check_any W H A n c P W0 hn (hI.keep hb) hl
  rwa [checkErr_yes hF] at this
 have HC:=hide hcall;have HI:=hide hI;have HN:=hide hn;have HF:=hide hF;obtain ⟨⟨d1,d2⟩,⟨d3,d4⟩,_⟩:=id hF;simp only at d1 d2 d3 d4;have HS:=hide (oneBoxes_start w W H A n c k);clear hcall hn hI hF;go_enter Tryz.func49,Tryz.ntmps49
 go_wp2_with fail;refine ((unhide HC) _ HS.out.2.2.2).mono ?_;rintro e w1 ⟨rfl,hE⟩;have HB:=hide (HS.out.keep hE);obtain ⟨q0,q1,q2,q3,q4,q5,q6,q7,q8,q9,q10⟩:=HB.out.cells;have z0 : w.heap.size < w1.heap.size:=by omega
 have z1 : w.heap.size + 1 < w1.heap.size:=by omega
 have z2 : ¬ w.heap.size = w1.heap.size:=by omega
 have z3 : ¬ w.heap.size + 1 = w1.heap.size:=by omega
 have z4 : ¬ w.heap.size + 1 + 1 = w1.heap.size:=by omega
 clear hE HS;go_wp2_with fail;go_quiet (fail)
 go_wp2_with fail;all_goals try (exfalso; omega)
 have HB2:=hide ((HB.out.keep ((Below.refl _ _).alloc (Nat.le_refl _) (.cells #[atFn w.heap.size] 132))).keep (below_drewN (Below.refl _ _) nq));have hat : VarBox ((w1.alloc (.cells #[atFn w.heap.size] 132)).drewN nq) w1.heap.size 132 (atFn w.heap.size):=Blk.new w1 132 [atFn w.heap.size];have HAT:=hide hat;clear hat;refine (draw_any 82 #[.pointer (some ⟨w1.heap.size,0,none⟩),.pointer (some ⟨w.heap.size + 1,0,none⟩)] W H (by omega) (by omega) (by omega) (by omega) (onePix 8 ⟨W,H,P⟩ k) _ enters_One2 (fun W0 x y hb hx hx' hy hy'=>?_)).mono ?_
 ·exact (one2_any w.heap.size w1.heap.size (w.heap.size + 1) W H A n c P x y k W0 HF.out HN.out (HI.out.keep (HB2.out.2.2.2.trans (hb.mono HB2.out.2.2.2.size))) (Blk.keep HB2.out.1 hb) (Blk.keep HAT.out hb) (Blk.keep HB2.out.2.1 hb) hx hx' hy hy').mono fun _ _ ⟨a,b⟩=>⟨a,b ▸ Below.refl _ _⟩
 rintro e w2 ⟨W1,H1,P1,A1,n1,c1,hr,hn1,rfl,hI1,hA1,hb1⟩;have HR:=hide hr;have HN1:=hide hn1;have HA1:=hide hA1;have HB3:=hide (HB2.out.keep hb1);obtain ⟨q0,q1,q2,q3,q4,q5,q6,q7,q8,q9,q10⟩:=HB3.out.cells;have hsz:=HB.out.cells.1;clear hr hn1 hA1 hb1;go_wp2_with fail;refine bodyPost_ret (v:=.tuple #[.agg #[.int .i64 W1,.int .i64 H1,.slice A1 n1 c1],.int .i64 0]) (by simp [results,Tryz.results49,go_sem,q5,q6,q7]) rfl ?_;refine retBox HR.out HN1.out hI1 HA1.out ?_ (by omega) HB3.out.2.2.2
 show w.heap.size + 1 + 1 < (w1.alloc _).heap.size
 simp only [World.size_alloc]; omega
theorem one9_walk (W H : Int) (A : Option Addr) (n c : Nat) (P : List Int) (k : Int) (w : World) (hF : Img.Fine ⟨W,H,P⟩) (hn : P.length = n) (hI : Ints w A P) (hl : n ≤ 9223372036854775807) (k1 : -16 ≤ k) (k2 : k ≤ 16) :
 Calls Tryz.prog 49 #[.int .i64 9,.agg #[.int .i64 W,.int .i64 H,.slice A n c],.int .i64 k] w (RetImgErr w (drawn W H (onePix 9 ⟨W,H,P⟩ k)) 0):=by
 have hcall : ∀ W0 : World,Below w.heap.size w W0 → Calls Tryz.prog 73 #[.agg #[.int .i64 W,.int .i64 H,.slice A n c]] W0 fun e w'=>e = .returned (.int .i64 0) ∧ Below W0.heap.size W0 w':=by
  intro W0 hb;have:=check_any W H A n c P W0 hn (hI.keep hb) hl
  rwa [checkErr_yes hF] at this
 have HC:=hide hcall;have HI:=hide hI;have HN:=hide hn;have HF:=hide hF;obtain ⟨⟨d1,d2⟩,⟨d3,d4⟩,_⟩:=id hF;simp only at d1 d2 d3 d4;have HS:=hide (oneBoxes_start w W H A n c k);clear hcall hn hI hF;go_enter Tryz.func49,Tryz.ntmps49
 go_wp2_with fail;refine ((unhide HC) _ HS.out.2.2.2).mono ?_;rintro e w1 ⟨rfl,hE⟩;have HB:=hide (HS.out.keep hE);obtain ⟨q0,q1,q2,q3,q4,q5,q6,q7,q8,q9,q10⟩:=HB.out.cells;have z0 : w.heap.size < w1.heap.size:=by omega
 have z1 : w.heap.size + 1 < w1.heap.size:=by omega
 have z2 : ¬ w.heap.size = w1.heap.size:=by omega
 have z3 : ¬ w.heap.size + 1 = w1.heap.size:=by omega
 have z4 : ¬ w.heap.size + 1 + 1 = w1.heap.size:=by omega
 clear hE HS;go_wp2_with fail;go_quiet (fail)
 go_wp2_with fail;all_goals try (exfalso; omega)
 have HB2:=hide ((HB.out.keep ((Below.refl _ _).alloc (Nat.le_refl _) (.cells #[atFn w.heap.size] 132))).keep (below_drewN (Below.refl _ _) nq));have hat : VarBox ((w1.alloc (.cells #[atFn w.heap.size] 132)).drewN nq) w1.heap.size 132 (atFn w.heap.size):=Blk.new w1 132 [atFn w.heap.size];have HAT:=hide hat;clear hat;refine (draw_any 83 #[.pointer (some ⟨w1.heap.size,0,none⟩),.pointer (some ⟨w.heap.size + 1,0,none⟩),.pointer (some ⟨w.heap.size,0,none⟩)] W H (by omega) (by omega) (by omega) (by omega) (onePix 9 ⟨W,H,P⟩ k) _ enters_One3 (fun W0 x y hb hx hx' hy hy'=>?_)).mono ?_
 ·exact (one3_any w.heap.size w1.heap.size (w.heap.size + 1) W H A n c P x y k W0 HF.out HN.out (HI.out.keep (HB2.out.2.2.2.trans (hb.mono HB2.out.2.2.2.size))) (Blk.keep HB2.out.1 hb) (Blk.keep HAT.out hb) (Blk.keep HB2.out.2.1 hb) k1 k2 hx hx' hy hy').mono fun _ _ ⟨a,b⟩=>⟨a,b ▸ Below.refl _ _⟩
 rintro e w2 ⟨W1,H1,P1,A1,n1,c1,hr,hn1,rfl,hI1,hA1,hb1⟩;have HR:=hide hr;have HN1:=hide hn1;have HA1:=hide hA1;have HB3:=hide (HB2.out.keep hb1);obtain ⟨q0,q1,q2,q3,q4,q5,q6,q7,q8,q9,q10⟩:=HB3.out.cells;have hsz:=HB.out.cells.1;clear hr hn1 hA1 hb1;go_wp2_with fail;refine bodyPost_ret (v:=.tuple #[.agg #[.int .i64 W1,.int .i64 H1,.slice A1 n1 c1],.int .i64 0]) (by simp [results,Tryz.results49,go_sem,q5,q6,q7]) rfl ?_;refine retBox HR.out HN1.out hI1 HA1.out ?_ (by omega) HB3.out.2.2.2
 show w.heap.size + 1 + 1 < (w1.alloc _).heap.size
 simp only [World.size_alloc]; omega
theorem one10_walk (W H : Int) (A : Option Addr) (n c : Nat) (P : List Int) (k : Int) (w : World) (hF : Img.Fine ⟨W,H,P⟩) (hn : P.length = n) (hI : Ints w A P) (hl : n ≤ 9223372036854775807) :
 Calls Tryz.prog 49 #[.int .i64 10,.agg #[.int .i64 W,.int .i64 H,.slice A n c],.int .i64 k] w (RetImgErr w (drawn W H (onePix 10 ⟨W,H,P⟩ k)) 0):=by
 have hcall : ∀ W0 : World,Below w.heap.size w W0 → Calls Tryz.prog 73 #[.agg #[.int .i64 W,.int .i64 H,.slice A n c]] W0 fun e w'=>e = .returned (.int .i64 0) ∧ Below W0.heap.size W0 w':=by
  intro W0 hb;have:=check_any W H A n c P W0 hn (hI.keep hb) hl
  rwa [checkErr_yes hF] at this
 have HC:=hide hcall;have HI:=hide hI;have HN:=hide hn;have HF:=hide hF;obtain ⟨⟨d1,d2⟩,⟨d3,d4⟩,_⟩:=id hF;simp only at d1 d2 d3 d4;have HS:=hide (oneBoxes_start w W H A n c k);clear hcall hn hI hF;go_enter Tryz.func49,Tryz.ntmps49
 go_wp2_with fail;refine ((unhide HC) _ HS.out.2.2.2).mono ?_;rintro e w1 ⟨rfl,hE⟩;have HB:=hide (HS.out.keep hE);obtain ⟨q0,q1,q2,q3,q4,q5,q6,q7,q8,q9,q10⟩:=HB.out.cells;have z0 : w.heap.size < w1.heap.size:=by omega
 have z1 : w.heap.size + 1 < w1.heap.size:=by omega
 have z2 : ¬ w.heap.size = w1.heap.size:=by omega
 have z3 : ¬ w.heap.size + 1 = w1.heap.size:=by omega
 have z4 : ¬ w.heap.size + 1 + 1 = w1.heap.size:=by omega
 clear hE HS;go_wp2_with fail;go_quiet (fail)
 go_wp2_with fail;all_goals try (exfalso; omega)
 have HB2:=hide ((HB.out.keep ((Below.refl _ _).alloc (Nat.le_refl _) (.cells #[atFn w.heap.size] 132))).keep (below_drewN (Below.refl _ _) nq));have hat : VarBox ((w1.alloc (.cells #[atFn w.heap.size] 132)).drewN nq) w1.heap.size 132 (atFn w.heap.size):=Blk.new w1 132 [atFn w.heap.size];have HAT:=hide hat;clear hat;refine (draw_any 84 #[.pointer (some ⟨w.heap.size,0,none⟩)] W H (by omega) (by omega) (by omega) (by omega) (onePix 10 ⟨W,H,P⟩ k) _ enters_One4 (fun W0 x y hb hx hx' hy hy'=>?_)).mono ?_
 ·exact one4_any w.heap.size W H A n c P x y k W0 HF.out HN.out (HI.out.keep (HB2.out.2.2.2.trans (hb.mono HB2.out.2.2.2.size))) (Blk.keep HB2.out.1 hb) hx hx' hy hy'
 rintro e w2 ⟨W1,H1,P1,A1,n1,c1,hr,hn1,rfl,hI1,hA1,hb1⟩;have HR:=hide hr;have HN1:=hide hn1;have HA1:=hide hA1;have HB3:=hide (HB2.out.keep hb1);obtain ⟨q0,q1,q2,q3,q4,q5,q6,q7,q8,q9,q10⟩:=HB3.out.cells;have hsz:=HB.out.cells.1;clear hr hn1 hA1 hb1;go_wp2_with fail;refine bodyPost_ret (v:=.tuple #[.agg #[.int .i64 W1,.int .i64 H1,.slice A1 n1 c1],.int .i64 0]) (by simp [results,Tryz.results49,go_sem,q5,q6,q7]) rfl ?_;refine retBox HR.out HN1.out hI1 HA1.out ?_ (by omega) HB3.out.2.2.2
 show w.heap.size + 1 + 1 < (w1.alloc _).heap.size
 simp only [World.size_alloc]; omega
theorem one11_walk (W H : Int) (A : Option Addr) (n c : Nat) (P : List Int) (k : Int) (w : World) (hF : Img.Fine ⟨W,H,P⟩) (hn : P.length = n) (hI : Ints w A P) (hl : n ≤ 9223372036854775807) (k1 : W % 2 = 0) (k2 : H % 2 = 0) :
 Calls Tryz.prog 49 #[.int .i64 11,.agg #[.int .i64 W,.int .i64 H,.slice A n c],.int .i64 k] w (RetImgErr w (drawn (W / 2) (H / 2) (onePix 11 ⟨W,H,P⟩ k)) 0):=by
 have hcall : ∀ W0 : World,Below w.heap.size w W0 → Calls Tryz.prog 73 #[.agg #[.int .i64 W,.int .i64 H,.slice A n c]] W0 fun e w'=>e = .returned (.int .i64 0) ∧ Below W0.heap.size W0 w':=by
  intro W0 hb;have:=check_any W H A n c P W0 hn (hI.keep hb) hl
  rwa [checkErr_yes hF] at this
 have HC:=hide hcall;have HI:=hide hI;have HN:=hide hn;have HF:=hide hF;obtain ⟨⟨d1,d2⟩,⟨d3,d4⟩,_⟩:=id hF;simp only at d1 d2 d3 d4;have HS:=hide (oneBoxes_start w W H A n c k);clear hcall hn hI hF;go_enter Tryz.func49,Tryz.ntmps49
 go_wp2_with fail;refine ((unhide HC) _ HS.out.2.2.2).mono ?_;rintro e w1 ⟨rfl,hE⟩;have HB:=hide (HS.out.keep hE);obtain ⟨q0,q1,q2,q3,q4,q5,q6,q7,q8,q9,q10⟩:=HB.out.cells;have z0 : w.heap.size < w1.heap.size:=by omega
 have z1 : w.heap.size + 1 < w1.heap.size:=by omega
 have z2 : ¬ w.heap.size = w1.heap.size:=by omega
 have z3 : ¬ w.heap.size + 1 = w1.heap.size:=by omega
 have z4 : ¬ w.heap.size + 1 + 1 = w1.heap.size:=by omega
 clear hE HS
 have hand : ∀ z : Int,0 ≤ z → z ≤ 16 → bits .and .i64 z 1 = z % 2:=fun z h0 h1=>by
  obtain ⟨m,rfl⟩:=Int.eq_ofNat_of_zero_le h0
  show IntKind.i64.wrap ((BitVec.ofInt 64 (m : Int) &&& BitVec.ofInt 64 (1 : Int)).toNat : Int) = _
  have e1 : (BitVec.ofInt 64 (m : Int)).toNat = m:=by
   rw [BitVec.ofInt_natCast,BitVec.toNat_ofNat]; exact Nat.mod_eq_of_lt (by omega)
  have e2 : (BitVec.ofInt 64 (1 : Int)).toNat = 2 ^ 1 - 1:=by rfl
  rw [BitVec.toNat_and,e1,e2,Nat.and_two_pow_sub_one_eq_mod,IntKind.wrap_i64];omega
 have hand1:=hand W (by omega) d2;have hand2:=hand H (by omega) d4;clear hand;have m1 : 1 ≤ W / 2:=by omega
 have m2 : 1 ≤ H / 2:=by omega
 rw [k1] at hand1;rw [k2] at hand2;have K1:=hide k1;have K2:=hide k2;clear k1 k2;go_wp2_with fail;go_quiet (fail)
 go_wp2_with fail;all_goals try (exfalso; omega)
 have HB2:=hide ((HB.out.keep ((Below.refl _ _).alloc (Nat.le_refl _) (.cells #[atFn w.heap.size] 132))).keep (below_drewN (Below.refl _ _) nq));have hat : VarBox ((w1.alloc (.cells #[atFn w.heap.size] 132)).drewN nq) w1.heap.size 132 (atFn w.heap.size):=Blk.new w1 132 [atFn w.heap.size];have HAT:=hide hat;clear hat;refine (draw_any 86 #[.pointer (some ⟨w1.heap.size,0,none⟩)] (W / 2) (H / 2) (by omega) (by omega) (by omega) (by omega) (onePix 11 ⟨W,H,P⟩ k) _ enters_One5 (fun W0 x y hb hx hx' hy hy'=>?_)).mono ?_
 ·exact one5_any w.heap.size w1.heap.size W H A n c P x y k W0 HF.out HN.out (HI.out.keep (HB2.out.2.2.2.trans (hb.mono HB2.out.2.2.2.size))) (Blk.keep HB2.out.1 hb) (Blk.keep HAT.out hb) hx (by omega) hy (by omega)
 rintro e w2 ⟨W1,H1,P1,A1,n1,c1,hr,hn1,rfl,hI1,hA1,hb1⟩;have HR:=hide hr;have HN1:=hide hn1;have HA1:=hide hA1;have HB3:=hide (HB2.out.keep hb1);obtain ⟨q0,q1,q2,q3,q4,q5,q6,q7,q8,q9,q10⟩:=HB3.out.cells;have hsz:=HB.out.cells.1;clear hr hn1 hA1 hb1;go_wp2_with fail;refine bodyPost_ret (v:=.tuple #[.agg #[.int .i64 W1,.int .i64 H1,.slice A1 n1 c1],.int .i64 0]) (by simp [results,Tryz.results49,go_sem,q5,q6,q7]) rfl ?_;refine retBox HR.out HN1.out hI1 HA1.out ?_ (by omega) HB3.out.2.2.2
 show w.heap.size + 1 + 1 < (w1.alloc _).heap.size
 simp only [World.size_alloc]; omega
theorem one12_walk (W H : Int) (A : Option Addr) (n c : Nat) (P : List Int) (k : Int) (w : World) (hF : Img.Fine ⟨W,H,P⟩) (hn : P.length = n) (hI : Ints w A P) (hl : n ≤ 9223372036854775807) (k1 : 2 * W ≤ 16) (k2 : 2 * H ≤ 16) :
 Calls Tryz.prog 49 #[.int .i64 12,.agg #[.int .i64 W,.int .i64 H,.slice A n c],.int .i64 k] w (RetImgErr w (drawn (2 * W) (2 * H) (onePix 12 ⟨W,H,P⟩ k)) 0):=by
 have hcall : ∀ W0 : World,Below w.heap.size w W0 → Calls Tryz.prog 73 #[.agg #[.int .i64 W,.int .i64 H,.slice A n c]] W0 fun e w'=>e = .returned (.int .i64 0) ∧ Below W0.heap.size W0 w':=by
  intro W0 hb;have:=check_any W H A n c P W0 hn (hI.keep hb) hl
  rwa [checkErr_yes hF] at this
 have HC:=hide hcall;have HI:=hide hI;have HN:=hide hn;have HF:=hide hF;obtain ⟨⟨d1,d2⟩,⟨d3,d4⟩,_⟩:=id hF;simp only at d1 d2 d3 d4;have HS:=hide (oneBoxes_start w W H A n c k);clear hcall hn hI hF;go_enter Tryz.func49,Tryz.ntmps49
 go_wp2_with fail;refine ((unhide HC) _ HS.out.2.2.2).mono ?_;rintro e w1 ⟨rfl,hE⟩;have HB:=hide (HS.out.keep hE);obtain ⟨q0,q1,q2,q3,q4,q5,q6,q7,q8,q9,q10⟩:=HB.out.cells;have z0 : w.heap.size < w1.heap.size:=by omega
 have z1 : w.heap.size + 1 < w1.heap.size:=by omega
 have z2 : ¬ w.heap.size = w1.heap.size:=by omega
 have z3 : ¬ w.heap.size + 1 = w1.heap.size:=by omega
 have z4 : ¬ w.heap.size + 1 + 1 = w1.heap.size:=by omega
 clear hE HS;obtain ⟨M,hM,hM2⟩ : ∃ M,(if W < H then 2 * H else 2 * W) = M ∧ M ≤ 16:=⟨_,rfl,by omega⟩;go_wp2_with fail;go_quiet (fail)
 go_wp2_with fail;all_goals try (exfalso; omega)
 have HB2:=hide ((HB.out.keep ((Below.refl _ _).alloc (Nat.le_refl _) (.cells #[atFn w.heap.size] 132))).keep (below_drewN (Below.refl _ _) nq));have hat : VarBox ((w1.alloc (.cells #[atFn w.heap.size] 132)).drewN nq) w1.heap.size 132 (atFn w.heap.size):=Blk.new w1 132 [atFn w.heap.size];have HAT:=hide hat;clear hat;refine (draw_any 87 #[.pointer (some ⟨w1.heap.size,0,none⟩)] (2 * W) (2 * H) (by omega) (by omega) (by omega) (by omega) (onePix 12 ⟨W,H,P⟩ k) _ enters_One6 (fun W0 x y hb hx hx' hy hy'=>?_)).mono ?_
 ·exact (one6_any w.heap.size w1.heap.size W H A n c P x y k W0 HF.out HN.out (HI.out.keep (HB2.out.2.2.2.trans (hb.mono HB2.out.2.2.2.size))) (Blk.keep HB2.out.1 hb) (Blk.keep HAT.out hb) hx hx' hy hy').mono fun _ _ ⟨a,b⟩=>⟨a,b ▸ Below.refl _ _⟩
 rintro e w2 ⟨W1,H1,P1,A1,n1,c1,hr,hn1,rfl,hI1,hA1,hb1⟩;have HR:=hide hr;have HN1:=hide hn1;have HA1:=hide hA1;have HB3:=hide (HB2.out.keep hb1);obtain ⟨q0,q1,q2,q3,q4,q5,q6,q7,q8,q9,q10⟩:=HB3.out.cells;have hsz:=HB.out.cells.1;clear hr hn1 hA1 hb1;go_wp2_with fail;refine bodyPost_ret (v:=.tuple #[.agg #[.int .i64 W1,.int .i64 H1,.slice A1 n1 c1],.int .i64 0]) (by simp [results,Tryz.results49,go_sem,q5,q6,q7]) rfl ?_;refine retBox HR.out HN1.out hI1 HA1.out ?_ (by omega) HB3.out.2.2.2
 show w.heap.size + 1 + 1 < (w1.alloc _).heap.size
 simp only [World.size_alloc]; omega
theorem one8_bad (W H : Int) (A : Option Addr) (n c : Nat) (P : List Int) (k : Int) (w : World) (hF : Img.Fine ⟨W,H,P⟩) (hn : P.length = n) (hI : Ints w A P) (hl : n ≤ 9223372036854775807) (k1 : ¬ (0 ≤ k ∧ k ≤ 65535)) :
 Calls Tryz.prog 49 #[.int .i64 8,.agg #[.int .i64 W,.int .i64 H,.slice A n c],.int .i64 k] w (RetImgErr w Img.none 3):=by
 have hcall : ∀ W0 : World,Below w.heap.size w W0 → Calls Tryz.prog 73 #[.agg #[.int .i64 W,.int .i64 H,.slice A n c]] W0 fun e w'=>e = .returned (.int .i64 0) ∧ Below W0.heap.size W0 w':=by
  intro W0 hb;have:=check_any W H A n c P W0 hn (hI.keep hb) hl
  rwa [checkErr_yes hF] at this
 have HC:=hide hcall;have HI:=hide hI;have HN:=hide hn;have HF:=hide hF;obtain ⟨⟨d1,d2⟩,⟨d3,d4⟩,_⟩:=id hF;simp only at d1 d2 d3 d4;have HS:=hide (oneBoxes_start w W H A n c k);clear hcall hn hI hF;go_enter Tryz.func49,Tryz.ntmps49
 go_wp2_with fail;refine ((unhide HC) _ HS.out.2.2.2).mono ?_;rintro e w1 ⟨rfl,hE⟩;have HB:=hide (HS.out.keep hE);obtain ⟨q0,q1,q2,q3,q4,q5,q6,q7,q8,q9,q10⟩:=HB.out.cells;have z0 : w.heap.size < w1.heap.size:=by omega
 have z1 : w.heap.size + 1 < w1.heap.size:=by omega
 have z2 : ¬ w.heap.size = w1.heap.size:=by omega
 have z3 : ¬ w.heap.size + 1 = w1.heap.size:=by omega
 have z4 : ¬ w.heap.size + 1 + 1 = w1.heap.size:=by omega
 clear hE HS;go_wp2_with fail;go_quiet (fail)
 go_wp2_with fail;all_goals try (exfalso; omega)
 all_goals
  obtain ⟨_,_,_,_,_,p5,p6,p7,_,_,_⟩:=((HB.out.keep ((Below.refl _ _).alloc (Nat.le_refl _) (.cells #[atFn w.heap.size] 132))).keep (below_drewN (Below.refl _ _) nq)).cells;unfold atFn at p5 p6 p7
 all_goals
  refine bodyPost_ret (v:=.tuple #[.agg #[.int .i64 0,.int .i64 0,.slice none 0 0],.int .i64 3]) (by simp [results,Tryz.results49,go_sem,p5,p6,p7]) rfl ?_;exact retBoxNone (by omega) (below_drewN ((HB.out.2.2.2).alloc (HB.out.2.2.2).size _) _)
theorem one9_bad (W H : Int) (A : Option Addr) (n c : Nat) (P : List Int) (k : Int) (w : World) (hF : Img.Fine ⟨W,H,P⟩) (hn : P.length = n) (hI : Ints w A P) (hl : n ≤ 9223372036854775807) (k1 : ¬ (-16 ≤ k ∧ k ≤ 16)) :
 Calls Tryz.prog 49 #[.int .i64 9,.agg #[.int .i64 W,.int .i64 H,.slice A n c],.int .i64 k] w (RetImgErr w Img.none 3):=by
 have hcall : ∀ W0 : World,Below w.heap.size w W0 → Calls Tryz.prog 73 #[.agg #[.int .i64 W,.int .i64 H,.slice A n c]] W0 fun e w'=>e = .returned (.int .i64 0) ∧ Below W0.heap.size W0 w':=by
  intro W0 hb;have:=check_any W H A n c P W0 hn (hI.keep hb) hl
  rwa [checkErr_yes hF] at this
 have HC:=hide hcall;have HI:=hide hI;have HN:=hide hn;have HF:=hide hF;obtain ⟨⟨d1,d2⟩,⟨d3,d4⟩,_⟩:=id hF;simp only at d1 d2 d3 d4;have HS:=hide (oneBoxes_start w W H A n c k);clear hcall hn hI hF;go_enter Tryz.func49,Tryz.ntmps49
 go_wp2_with fail;refine ((unhide HC) _ HS.out.2.2.2).mono ?_;rintro e w1 ⟨rfl,hE⟩;have HB:=hide (HS.out.keep hE);obtain ⟨q0,q1,q2,q3,q4,q5,q6,q7,q8,q9,q10⟩:=HB.out.cells;have z0 : w.heap.size < w1.heap.size:=by omega
 have z1 : w.heap.size + 1 < w1.heap.size:=by omega
 have z2 : ¬ w.heap.size = w1.heap.size:=by omega
 have z3 : ¬ w.heap.size + 1 = w1.heap.size:=by omega
 have z4 : ¬ w.heap.size + 1 + 1 = w1.heap.size:=by omega
 clear hE HS;go_wp2_with fail;go_quiet (fail)
 go_wp2_with fail;all_goals try (exfalso; omega)
 all_goals
  obtain ⟨_,_,_,_,_,p5,p6,p7,_,_,_⟩:=((HB.out.keep ((Below.refl _ _).alloc (Nat.le_refl _) (.cells #[atFn w.heap.size] 132))).keep (below_drewN (Below.refl _ _) nq)).cells;unfold atFn at p5 p6 p7
 all_goals
  refine bodyPost_ret (v:=.tuple #[.agg #[.int .i64 0,.int .i64 0,.slice none 0 0],.int .i64 3]) (by simp [results,Tryz.results49,go_sem,p5,p6,p7]) rfl ?_;exact retBoxNone (by omega) (below_drewN ((HB.out.2.2.2).alloc (HB.out.2.2.2).size _) _)
theorem one11_bad (W H : Int) (A : Option Addr) (n c : Nat) (P : List Int) (k : Int) (w : World) (hF : Img.Fine ⟨W,H,P⟩) (hn : P.length = n) (hI : Ints w A P) (hl : n ≤ 9223372036854775807) (k1 : W % 2 = 1 ∨ H % 2 = 1) :
 Calls Tryz.prog 49 #[.int .i64 11,.agg #[.int .i64 W,.int .i64 H,.slice A n c],.int .i64 k] w (RetImgErr w Img.none 6):=by
 have hcall : ∀ W0 : World,Below w.heap.size w W0 → Calls Tryz.prog 73 #[.agg #[.int .i64 W,.int .i64 H,.slice A n c]] W0 fun e w'=>e = .returned (.int .i64 0) ∧ Below W0.heap.size W0 w':=by
  intro W0 hb;have:=check_any W H A n c P W0 hn (hI.keep hb) hl
  rwa [checkErr_yes hF] at this
 have HC:=hide hcall;have HI:=hide hI;have HN:=hide hn;have HF:=hide hF;obtain ⟨⟨d1,d2⟩,⟨d3,d4⟩,_⟩:=id hF;simp only at d1 d2 d3 d4;have HS:=hide (oneBoxes_start w W H A n c k);clear hcall hn hI hF;go_enter Tryz.func49,Tryz.ntmps49
 go_wp2_with fail;refine ((unhide HC) _ HS.out.2.2.2).mono ?_;rintro e w1 ⟨rfl,hE⟩;have HB:=hide (HS.out.keep hE);obtain ⟨q0,q1,q2,q3,q4,q5,q6,q7,q8,q9,q10⟩:=HB.out.cells;have z0 : w.heap.size < w1.heap.size:=by omega
 have z1 : w.heap.size + 1 < w1.heap.size:=by omega
 have z2 : ¬ w.heap.size = w1.heap.size:=by omega
 have z3 : ¬ w.heap.size + 1 = w1.heap.size:=by omega
 have z4 : ¬ w.heap.size + 1 + 1 = w1.heap.size:=by omega
 clear hE HS
 have hand : ∀ z : Int,0 ≤ z → z ≤ 16 → bits .and .i64 z 1 = z % 2:=fun z h0 h1=>by
  obtain ⟨m,rfl⟩:=Int.eq_ofNat_of_zero_le h0
  show IntKind.i64.wrap ((BitVec.ofInt 64 (m : Int) &&& BitVec.ofInt 64 (1 : Int)).toNat : Int) = _
  have e1 : (BitVec.ofInt 64 (m : Int)).toNat = m:=by
   rw [BitVec.ofInt_natCast,BitVec.toNat_ofNat]; exact Nat.mod_eq_of_lt (by omega)
  have e2 : (BitVec.ofInt 64 (1 : Int)).toNat = 2 ^ 1 - 1:=by rfl
  rw [BitVec.toNat_and,e1,e2,Nat.and_two_pow_sub_one_eq_mod,IntKind.wrap_i64];omega
 have hand1:=hand W (by omega) d2;have hand2:=hand H (by omega) d4;clear hand;have hw2 : 0 ≤ W % 2:=by omega
 have hw3 : W % 2 ≤ 1:=by omega
 have hh2 : 0 ≤ H % 2:=by omega
 have hh3 : H % 2 ≤ 1:=by omega
 have hsum : 0 < W % 2 + H % 2:=by omega
 clear k1;go_wp2_with fail;go_quiet (fail)
 go_wp2_with fail;all_goals try (exfalso; omega)
 all_goals
  obtain ⟨_,_,_,_,_,p5,p6,p7,_,_,_⟩:=((HB.out.keep ((Below.refl _ _).alloc (Nat.le_refl _) (.cells #[atFn w.heap.size] 132))).keep (below_drewN (Below.refl _ _) nq)).cells;unfold atFn at p5 p6 p7
 all_goals
  refine bodyPost_ret (v:=.tuple #[.agg #[.int .i64 0,.int .i64 0,.slice none 0 0],.int .i64 6]) (by simp [results,Tryz.results49,go_sem,p5,p6,p7]) rfl ?_;exact retBoxNone (by omega) (below_drewN ((HB.out.2.2.2).alloc (HB.out.2.2.2).size _) _)
theorem one12_bad (W H : Int) (A : Option Addr) (n c : Nat) (P : List Int) (k : Int) (w : World) (hF : Img.Fine ⟨W,H,P⟩) (hn : P.length = n) (hI : Ints w A P) (hl : n ≤ 9223372036854775807) (k1 : 16 < 2 * W ∨ 16 < 2 * H) :
 Calls Tryz.prog 49 #[.int .i64 12,.agg #[.int .i64 W,.int .i64 H,.slice A n c],.int .i64 k] w (RetImgErr w Img.none 6):=by
 have hcall : ∀ W0 : World,Below w.heap.size w W0 → Calls Tryz.prog 73 #[.agg #[.int .i64 W,.int .i64 H,.slice A n c]] W0 fun e w'=>e = .returned (.int .i64 0) ∧ Below W0.heap.size W0 w':=by
  intro W0 hb;have:=check_any W H A n c P W0 hn (hI.keep hb) hl
  rwa [checkErr_yes hF] at this
 have HC:=hide hcall;have HI:=hide hI;have HN:=hide hn;have HF:=hide hF;obtain ⟨⟨d1,d2⟩,⟨d3,d4⟩,_⟩:=id hF;simp only at d1 d2 d3 d4;have HS:=hide (oneBoxes_start w W H A n c k);clear hcall hn hI hF;go_enter Tryz.func49,Tryz.ntmps49
 go_wp2_with fail;refine ((unhide HC) _ HS.out.2.2.2).mono ?_;rintro e w1 ⟨rfl,hE⟩;have HB:=hide (HS.out.keep hE);obtain ⟨q0,q1,q2,q3,q4,q5,q6,q7,q8,q9,q10⟩:=HB.out.cells;have z0 : w.heap.size < w1.heap.size:=by omega
 have z1 : w.heap.size + 1 < w1.heap.size:=by omega
 have z2 : ¬ w.heap.size = w1.heap.size:=by omega
 have z3 : ¬ w.heap.size + 1 = w1.heap.size:=by omega
 have z4 : ¬ w.heap.size + 1 + 1 = w1.heap.size:=by omega
 clear hE HS;obtain ⟨M,hM,hM2⟩ : ∃ M,(if W < H then 2 * H else 2 * W) = M ∧ 16 < M:=⟨_,rfl,by omega⟩;clear k1;go_wp2_with fail;go_quiet (fail)
 go_wp2_with fail;all_goals try (exfalso; omega)
 all_goals
  obtain ⟨_,_,_,_,_,p5,p6,p7,_,_,_⟩:=((HB.out.keep ((Below.refl _ _).alloc (Nat.le_refl _) (.cells #[atFn w.heap.size] 132))).keep (below_drewN (Below.refl _ _) nq)).cells;unfold atFn at p5 p6 p7
 all_goals
  refine bodyPost_ret (v:=.tuple #[.agg #[.int .i64 0,.int .i64 0,.slice none 0 0],.int .i64 6]) (by simp [results,Tryz.results49,go_sem,p5,p6,p7]) rfl ?_;exact retBoxNone (by omega) (below_drewN ((HB.out.2.2.2).alloc (HB.out.2.2.2).size _) _)
theorem one_kind (op : Int) (W H : Int) (A : Option Addr) (n c : Nat) (P : List Int) (k : Int) (w : World) (hF : Img.Fine ⟨W,H,P⟩) (hn : P.length = n) (hI : Ints w A P) (hl : n ≤ 9223372036854775807) (h3 : ¬ op = 3) (h8 : ¬ op = 8) (h9 : ¬ op = 9) (h10 : ¬ op = 10) (h11 : ¬ op = 11) (h12 : ¬ op = 12) :
 Calls Tryz.prog 49 #[.int .i64 op,.agg #[.int .i64 W,.int .i64 H,.slice A n c],.int .i64 k] w (RetImgErr w Img.none 4):=by
 have hcall : ∀ W0 : World,Below w.heap.size w W0 → Calls Tryz.prog 73 #[.agg #[.int .i64 W,.int .i64 H,.slice A n c]] W0 fun e w'=>e = .returned (.int .i64 0) ∧ Below W0.heap.size W0 w':=by
  intro W0 hb;have:=check_any W H A n c P W0 hn (hI.keep hb) hl
  rwa [checkErr_yes hF] at this
 have HC:=hide hcall;have HI:=hide hI;have HN:=hide hn;have HF:=hide hF;obtain ⟨⟨d1,d2⟩,⟨d3,d4⟩,_⟩:=id hF;simp only at d1 d2 d3 d4;have HS:=hide (oneBoxes_start w W H A n c k);clear hcall hn hI hF;go_enter Tryz.func49,Tryz.ntmps49
 go_wp2_with fail;refine ((unhide HC) _ HS.out.2.2.2).mono ?_;rintro e w1 ⟨rfl,hE⟩;have HB:=hide (HS.out.keep hE);obtain ⟨q0,q1,q2,q3,q4,q5,q6,q7,q8,q9,q10⟩:=HB.out.cells;have z0 : w.heap.size < w1.heap.size:=by omega
 have z1 : w.heap.size + 1 < w1.heap.size:=by omega
 have z2 : ¬ w.heap.size = w1.heap.size:=by omega
 have z3 : ¬ w.heap.size + 1 = w1.heap.size:=by omega
 have z4 : ¬ w.heap.size + 1 + 1 = w1.heap.size:=by omega
 clear hE HS;have e3 : (op == 3) = false:=by simpa using h3
 have e8 : (op == 8) = false:=by simpa using h8
 have e9 : (op == 9) = false:=by simpa using h9
 have e10 : (op == 10) = false:=by simpa using h10
 have e11 : (op == 11) = false:=by simpa using h11
 have e12 : (op == 12) = false:=by simpa using h12
 clear h3 h8 h9 h10 h11 h12;go_wp2_with fail;go_quiet (fail)
 go_wp2_with fail;all_goals try (exfalso; omega)
 all_goals
  obtain ⟨_,_,_,_,_,p5,p6,p7,_,_,_⟩:=((HB.out.keep ((Below.refl _ _).alloc (Nat.le_refl _) (.cells #[atFn w.heap.size] 132))).keep (below_drewN (Below.refl _ _) nq)).cells;unfold atFn at p5 p6 p7
 all_goals
  refine bodyPost_ret (v:=.tuple #[.agg #[.int .i64 0,.int .i64 0,.slice none 0 0],.int .i64 4]) (by simp [results,Tryz.results49,go_sem,p5,p6,p7]) rfl ?_;exact retBoxNone (by omega) (below_drewN ((HB.out.2.2.2).alloc (HB.out.2.2.2).size _) _)
theorem one_any (op : Int) (W H : Int) (A : Option Addr) (n c : Nat) (P : List Int) (k : Int) (w : World) (hn : P.length = n) (hI : Ints w A P) (hl : n ≤ 9223372036854775807) :
 Calls Tryz.prog 49 #[.int .i64 op,.agg #[.int .i64 W,.int .i64 H,.slice A n c],.int .i64 k] w (RetImgErr w (oneAns op ⟨W,H,P⟩ k) (oneErrAll op ⟨W,H,P⟩ k)):=by
 by_cases hF : Img.Fine ⟨W,H,P⟩
 ·have hAll : oneErrAll op ⟨W,H,P⟩ k = oneErr op ⟨W,H,P⟩ k:=if_pos hF
  have hyes : oneErr op ⟨W,H,P⟩ k = 0 → oneAns op ⟨W,H,P⟩ k = oneImg op ⟨W,H,P⟩ k:=fun h=>by unfold oneAns; rw [hAll,h]; rfl
  have hno : ∀ x : Int,oneErr op ⟨W,H,P⟩ k = x → x ≠ 0 → oneAns op ⟨W,H,P⟩ k = Img.none:=fun x h hx=>by unfold oneAns; rw [hAll,h,if_neg hx]
  rw [hAll];by_cases h3 : op = 3
  ·subst h3; rw [hyes rfl]; exact one3_walk W H A n c P k w hF hn hI hl
  by_cases h10 : op = 10
  ·subst h10; rw [hyes rfl]; exact one10_walk W H A n c P k w hF hn hI hl
  by_cases h8 : op = 8
  ·subst h8
   by_cases hk : 0 ≤ k ∧ k ≤ 65535
   ·have e : oneErr 8 ⟨W,H,P⟩ k = 0:=if_pos hk
    rw [hyes e,e]; exact one8_walk W H A n c P k w hF hn hI hl hk.1 hk.2
   ·have e : oneErr 8 ⟨W,H,P⟩ k = 3:=if_neg hk
    rw [hno 3 e (by omega),e]; exact one8_bad W H A n c P k w hF hn hI hl hk
  by_cases h9 : op = 9
  ·subst h9
   by_cases hk : -16 ≤ k ∧ k ≤ 16
   ·have e : oneErr 9 ⟨W,H,P⟩ k = 0:=if_pos hk
    rw [hyes e,e]; exact one9_walk W H A n c P k w hF hn hI hl hk.1 hk.2
   ·have e : oneErr 9 ⟨W,H,P⟩ k = 3:=if_neg hk
    rw [hno 3 e (by omega),e]; exact one9_bad W H A n c P k w hF hn hI hl hk
  by_cases h11 : op = 11
  ·subst h11
   by_cases hk : W % 2 = 1 ∨ H % 2 = 1
   ·have e : oneErr 11 ⟨W,H,P⟩ k = 6:=if_pos hk
    rw [hno 6 e (by omega),e]; exact one11_bad W H A n c P k w hF hn hI hl hk
   ·have e : oneErr 11 ⟨W,H,P⟩ k = 0:=if_neg hk
    rw [hyes e,e]; exact one11_walk W H A n c P k w hF hn hI hl (by omega) (by omega)
  by_cases h12 : op = 12
  ·subst h12
   by_cases hk : 16 < 2 * W ∨ 16 < 2 * H
   ·have e : oneErr 12 ⟨W,H,P⟩ k = 6:=if_pos hk
    rw [hno 6 e (by omega),e]; exact one12_bad W H A n c P k w hF hn hI hl hk
   ·have e : oneErr 12 ⟨W,H,P⟩ k = 0:=if_neg hk
    rw [hyes e,e]; exact one12_walk W H A n c P k w hF hn hI hl (by omega) (by omega)
  have e : oneErr op ⟨W,H,P⟩ k = 4:=by unfold oneErr; rw [if_neg (by omega),if_neg h8,if_neg h9,if_neg h11,if_neg h12]
  rw [hno 4 e (by omega),e];exact one_kind op W H A n c P k w hF hn hI hl h3 h8 h9 h10 h11 h12
 ·have hAll : oneErrAll op ⟨W,H,P⟩ k = 1:=if_neg hF
  have hA : oneAns op ⟨W,H,P⟩ k = Img.none:=by unfold oneAns; rw [hAll]; rfl
  rw [hA,hAll];exact one_form op W H A n c P k w hF hn hI hl
end Go.Proofs.YtibpmogmeoappabGreat
