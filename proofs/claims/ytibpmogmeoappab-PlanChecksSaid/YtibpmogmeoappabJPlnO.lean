/- Walks: other, planBegun. -/
import Derived.Test.YtibpmogmeoappabJPlnK
import Derived.Test.YtibpmogmeoappabJGlow
import Derived.Laws.StructEq
set_option maxRecDepth 100000
set_option maxHeartbeats 8000000
namespace Go.Proofs.Ytibpmogmeoappab
open Go.RowKit
@[go_sem] theorem span_guard : Try.prog.eqGuardType Try.prog.depth 41 = false:=by kernel_rfl
theorem span_held : Try.prog.stoodInHeld 41 = false:=by kernel_rfl
theorem span_fields : (Try.prog.fieldsOf 41).toList.map (fun f=>(f.name,f.type,f.offset)) = [("First",3,0),("Last",3,1)]:=by kernel_rfl
theorem run_neq_span (a b : Int) (w : World) :
 (binOp .neq 41 (.agg #[.int .i64 a,.int .i64 b]) (.agg #[.int .i64 a,.int .i64 b])).run Try.prog w = .ok (.bool false) w:=by
 rw [run_neq_struct,run_equalIn_agg]
 ·have hf:=span_fields
  generalize (Try.prog.fieldsOf 41).toList = l at hf
  obtain ⟨x,l,rfl⟩ : ∃ x l',l = x :: l':=by cases l with
   | nil=>simp at hf
   | cons x l'=>exact ⟨x,l',rfl⟩
  obtain ⟨y,l,rfl⟩ : ∃ x l',l = x :: l':=by cases l with
   | nil=>simp at hf
   | cons x l'=>exact ⟨x,l',rfl⟩
  simp only [List.map_cons,List.cons.injEq,Prod.mk.injEq,List.map_eq_nil_iff] at hf;obtain ⟨⟨x1,x2,x3⟩,⟨y1,y2,y3⟩,rfl⟩:=hf;simp only [Op.eqFields,x1,x2,x3,y1,y2,y3];simp [go_sem]
 ·simp only [Program.fieldsOf,Try.underlying41]
 ·exact span_held
theorem run_eql_span (a b : Int) (w : World) :
 (binOp .eql 41 (.agg #[.int .i64 a,.int .i64 b]) (.agg #[.int .i64 a,.int .i64 b])).run Try.prog w = .ok (.bool true) w:=by
 rw [run_eql_struct,run_equalIn_agg]
 ·have hf:=span_fields
  generalize (Try.prog.fieldsOf 41).toList = l at hf
  obtain ⟨x,l,rfl⟩ : ∃ x l',l = x :: l':=by cases l with
   | nil=>simp at hf
   | cons x l'=>exact ⟨x,l',rfl⟩
  obtain ⟨y,l,rfl⟩ : ∃ x l',l = x :: l':=by cases l with
   | nil=>simp at hf
   | cons x l'=>exact ⟨x,l',rfl⟩
  simp only [List.map_cons,List.cons.injEq,Prod.mk.injEq,List.map_eq_nil_iff] at hf;obtain ⟨⟨x1,x2,x3⟩,⟨y1,y2,y3⟩,rfl⟩:=hf;simp only [Op.eqFields,x1,x2,x3,y1,y2,y3];simp [go_sem]
 ·simp only [Program.fieldsOf,Try.underlying41]
 ·exact span_held
theorem pb1 : spansAns glowF otherP = [⟨1,2⟩,⟨-1,-1⟩,⟨-1,-1⟩,⟨0,2⟩,⟨2,2⟩]:=by decide +kernel
theorem pb2 : planErr glowF otherP = 0:=by decide +kernel
theorem pb3 : peakAns glowF otherP = 28:=by decide +kernel
theorem pb4 : floorAns glowF otherP = 24:=by decide +kernel
theorem pb5 : pckErr glowF otherP 28 = 0:=by decide +kernel
theorem pb6 : pckErr glowF otherP 27 = 7:=by decide +kernel
theorem pb7 : pckErr glowF ⟨[],[]⟩ 28 = 1:=by decide +kernel
theorem planBegun_any (w : World) : Calls Try.prog 14 #[] w fun e w'=>e = .returned (.bool true) ∧ Below w.heap.size w w':=by
 have eG : (⟨4,2,3,1,glowF.P⟩ : Frm) = glowF:=rfl;have HSP:=hide (fun (A : Option Addr) (c : Nat) (B C : Option Addr) (W0 : World) (h1 : Passes W0 A glowF.P) (h2 : Ints W0 B otherP.Order) (h3 : Ints W0 C otherP.Places)=>planSpans_any 4 2 3 1 A 5 c glowF.P B 3 3 C 5 5 otherP W0 rfl h1 h2 rfl (by omega) h3 rfl (by omega));have HPE:=hide (fun (A : Option Addr) (c : Nat) (B C : Option Addr) (W0 : World) (h1 : Passes W0 A glowF.P) (h2 : Ints W0 B otherP.Order) (h3 : Ints W0 C otherP.Places)=>planPeak_any 4 2 3 1 A 5 c glowF.P B 3 3 C 5 5 otherP W0 rfl h1 h2 rfl (by omega) h3 rfl (by omega));have HFL:=hide (fun (A : Option Addr) (c : Nat) (B C : Option Addr) (W0 : World) (h1 : Passes W0 A glowF.P) (h2 : Ints W0 B otherP.Order) (h3 : Ints W0 C otherP.Places)=>planFloor_any 4 2 3 1 A 5 c glowF.P B 3 3 C 5 5 otherP W0 rfl h1 h2 rfl (by omega) h3 rfl (by omega));have HC1:=hide (fun (A : Option Addr) (c : Nat) (B C : Option Addr) (W0 : World) (h1 : Passes W0 A glowF.P) (h2 : Ints W0 B otherP.Order) (h3 : Ints W0 C otherP.Places)=>planCheck_any 4 2 3 1 A 5 c glowF.P B 3 3 C 5 5 otherP 28 W0 rfl h1 h2 rfl (by omega) (by omega) h3 rfl (by omega));have HC2:=hide (fun (A : Option Addr) (c : Nat) (B C : Option Addr) (W0 : World) (h1 : Passes W0 A glowF.P) (h2 : Ints W0 B otherP.Order) (h3 : Ints W0 C otherP.Places)=>planCheck_any 4 2 3 1 A 5 c glowF.P B 3 3 C 5 5 otherP 27 W0 rfl h1 h2 rfl (by omega) (by omega) h3 rfl (by omega));have HC3:=hide (fun (A : Option Addr) (c : Nat) (W0 : World) (h1 : Passes W0 A glowF.P)=>planCheck_any 4 2 3 1 A 5 c glowF.P none 0 0 none 0 0 ⟨[],[]⟩ 28 W0 rfl h1 (Ints.nil _ _) rfl (by omega) (by omega) (Ints.nil _ _) rfl (by omega));rw [eG,pb1,pb2] at HSP;rw [eG,pb3,pb2] at HPE;rw [eG,pb4,pb2] at HFL;rw [eG,pb5] at HC1;rw [eG,pb6] at HC2;rw [eG,pb7] at HC3;have heq:=run_eql_span;clear eG;go_enter Try.func14,Try.ntmps14
 have HB0:=hide (Below.refl w.heap.size w);go_wp2_with fail;refine (glow_any _).mono ?_;rintro e w1 ⟨A1,c1,rfl,hP1,hE1⟩;have HB1:=hide (HB0.out.trans (hE1.mono HB0.out.size));have HP1:=hide hP1;go_wp2_with fail;refine (other_any _).mono ?_;rintro e w2 ⟨B2,C2,rfl,hO2,hQ2,hE2⟩;have HB2:=hide (HB1.out.trans (hE2.mono HB1.out.size));have hP:=HP1.out.keep hE2;go_wp2_with fail;refine ((unhide HSP) A1 c1 B2 C2 w2 hP hO2 hQ2).mono ?_;rintro e w3 ⟨SA,sn,sc,rfl,hsn,hS,hE3⟩;obtain rfl : sn = 5:=hsn.symm;have HB3:=hide (HB2.out.trans (hE3.mono HB2.out.size));have HS3:=hide (show Keeps w3 (fun W'=>Cells W' SA (([⟨1,2⟩,⟨-1,-1⟩,⟨-1,-1⟩,⟨0,2⟩,⟨2,2⟩] : List Spn).flatMap spnCells)) from ⟨hS,fun _ hb=>Cells.keep hS hb⟩);clear hP hO2 hQ2 hE1 hE2 hE3 hP1 HP1 HB1 HB2 hS hsn HSP;go_wp2_with fail;refine (glow_any _).mono ?_;rintro e w4 ⟨A4,c4,rfl,hP4,hE4⟩;have HB4:=hide (HB3.out.trans (hE4.mono HB3.out.size));have HP4:=hide hP4;go_wp2_with fail;refine (other_any _).mono ?_;rintro e w5 ⟨B5,C5,rfl,hO5,hQ5,hE5⟩;have HB5:=hide (HB4.out.trans (hE5.mono HB4.out.size));have hP:=HP4.out.keep hE5;have HS5:=hide ((HS3.out.move hE4).move hE5);go_wp2_with fail;refine ((unhide HPE) A4 c4 B5 C5 w5 hP hO5 hQ5).mono ?_;rintro e w6 ⟨rfl,hE6⟩;have HB6:=hide (HB5.out.trans (hE6.mono HB5.out.size));have HS6:=hide (HS5.out.move hE6);clear hP hO5 hQ5 hE4 hE5 hE6 hP4 HP4 HB3 HB4 HB5 HS3 HS5 HPE;go_wp2_with fail;refine (glow_any _).mono ?_;rintro e w7 ⟨A7,c7,rfl,hP7,hE7⟩;have HB7:=hide (HB6.out.trans (hE7.mono HB6.out.size));have HP7:=hide hP7;go_wp2_with fail;refine (other_any _).mono ?_;rintro e w8 ⟨B8,C8,rfl,hO8,hQ8,hE8⟩;have HB8:=hide (HB7.out.trans (hE8.mono HB7.out.size));have hP:=HP7.out.keep hE8;have HS8:=hide ((HS6.out.move hE7).move hE8);go_wp2_with fail;refine ((unhide HFL) A7 c7 B8 C8 w8 hP hO8 hQ8).mono ?_;rintro e w9 ⟨rfl,hE9⟩;have HB9:=hide (HB8.out.trans (hE9.mono HB8.out.size));have HS9:=hide (HS8.out.move hE9);clear hP hO8 hQ8 hE7 hE8 hE9 hP7 HP7 HB6 HB7 HB8 HS6 HS8 HFL;go_wp2_with fail;refine (glow_any _).mono ?_;rintro e w10 ⟨A10,c10,rfl,hP10,hE10⟩;have HB10:=hide (HB9.out.trans (hE10.mono HB9.out.size));have HP10:=hide hP10;go_wp2_with fail;refine (other_any _).mono ?_;rintro e w11 ⟨B11,C11,rfl,hO11,hQ11,hE11⟩;have HB11:=hide (HB10.out.trans (hE11.mono HB10.out.size));have hP:=HP10.out.keep hE11;have HS11:=hide ((HS9.out.move hE10).move hE11);go_wp2_with fail;refine ((unhide HC1) A10 c10 B11 C11 w11 hP hO11 hQ11).mono ?_;rintro e w12 ⟨rfl,hE12⟩;have HB12:=hide (HB11.out.trans (hE12.mono HB11.out.size));have HS12:=hide (HS11.out.move hE12);clear hP hO11 hQ11 hE10 hE11 hE12 hP10 HP10 HB9 HB10 HB11 HS9 HS11 HC1;go_wp2_with fail;refine (glow_any _).mono ?_;rintro e w13 ⟨A13,c13,rfl,hP13,hE13⟩;have HB13:=hide (HB12.out.trans (hE13.mono HB12.out.size));have HP13:=hide hP13;go_wp2_with fail;refine (other_any _).mono ?_;rintro e w14 ⟨B14,C14,rfl,hO14,hQ14,hE14⟩
 have HB14:=hide (HB13.out.trans (hE14.mono HB13.out.size));have hP:=HP13.out.keep hE14;have HS14:=hide ((HS12.out.move hE13).move hE14);go_wp2_with fail;refine ((unhide HC2) A13 c13 B14 C14 w14 hP hO14 hQ14).mono ?_;rintro e w15 ⟨rfl,hE15⟩;have HB15:=hide (HB14.out.trans (hE15.mono HB14.out.size));have HS15:=hide (HS14.out.move hE15);clear hP hO14 hQ14 hE13 hE14 hE15 hP13 HP13 HB12 HB13 HB14 HS12 HS14 HC2;go_wp2_with fail;refine (glow_any _).mono ?_;rintro e w16 ⟨A16,c16,rfl,hP16,hE16⟩;have HB16:=hide (HB15.out.trans (hE16.mono HB15.out.size));have HP16:=hide hP16;have HS16:=hide (HS15.out.move hE16);go_wp2_with fail;refine ((unhide HC3) A16 c16 w16 HP16.out).mono ?_;rintro e w17 ⟨rfl,hE17⟩;have HB17:=hide (HB16.out.trans (hE17.mono HB16.out.size));have hs:=HS16.out.later _ hE17;obtain ⟨sb,so,hSA,hsb,s2⟩:=hs 2 (by decide);obtain rfl:=hSA;obtain ⟨_,_,e1,-,s3⟩:=hs 3 (by decide);cases e1;obtain ⟨_,_,e1,-,s6⟩:=hs 6 (by decide);cases e1;obtain ⟨_,_,e1,-,s7⟩:=hs 7 (by decide);cases e1;have s2' : w17.cell? ⟨sb,so + 2,none⟩ = some (.int .i64 (-1)):=s2;have s3' : w17.cell? ⟨sb,so + 2 + 1,none⟩ = some (.int .i64 (-1)):=s3;have s6' : w17.cell? ⟨sb,so + 6,none⟩ = some (.int .i64 0):=s6;have s7' : w17.cell? ⟨sb,so + 6 + 1,none⟩ = some (.int .i64 2):=s7;have s3'' : w17.cell? ⟨sb,so + 3,none⟩ = some (.int .i64 (-1)):=s3;have s7'' : w17.cell? ⟨sb,so + 7,none⟩ = some (.int .i64 2):=s7;clear hE16 hE17 hP16 HP16 HB15 HB16 HS15 HS16 HC3 hs s2 s3 s6 s7;go_wp2_with fail;go_ret;exact ⟨rfl,HB17.out⟩
end Go.Proofs.Ytibpmogmeoappab
