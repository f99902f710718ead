/- Walks: glow, frameBegun. -/
import Derived.Test.YtibpmogmeoappabJFrmR
import Derived.Test.YtibpmogmeoappabJFrmS
import Derived.Test.YtibpmogmeoappabJImgH
import Derived.Test.YtibpmogmeoappabJGlow
set_option maxRecDepth 100000
set_option maxHeartbeats 4000000
namespace Go.Proofs.Ytibpmogmeoappab
open Go.RowKit
def eqSz (a b c d : Int) : Bool:=a == c && b == d
@[go_sem high] theorem run_eq_size (a b c d : Int) (w : World) :
 (binOp .eql 51 (.agg #[.int .i64 a,.int .i64 b]) (.agg #[.int .i64 c,.int .i64 d])).run Try.prog w = .ok (.bool (eqSz a b c d)) w:=by
  unfold eqSz;rw [run_eql_struct,run_equalIn_agg]
  ·have hf:=size_fields
   generalize (Try.prog.fieldsOf 51).toList = l at hf
   obtain ⟨x,l,rfl⟩ : ∃ x l',l = x :: l':=by cases l with
    | nil=>simp at hf
    | cons x l'=>exact ⟨x,l',rfl⟩
   obtain ⟨y,l,rfl⟩ : ∃ x l',l = x :: l':=by cases l with
    | nil=>simp at hf
    | cons x l'=>exact ⟨x,l',rfl⟩
   simp only [List.map_cons,List.cons.injEq,Prod.mk.injEq,List.map_eq_nil_iff] at hf;obtain ⟨⟨x1,x2,x3⟩,⟨y1,y2,y3⟩,rfl⟩:=hf;simp only [Op.eqFields,x1,x2,x3,y1,y2,y3];by_cases h1 : a = c <;> by_cases h2 : b = d <;> simp [go_sem,h1,h2]
  ·simp only [Program.fieldsOf,Try.underlying51]
  ·exact size_held
theorem gf2 : frSizes glowF = [⟨4,2⟩,⟨4,2⟩,⟨4,2⟩,⟨4,2⟩,⟨4,2⟩]:=by decide +kernel
theorem gf3 : frSources glowF = [[],[],[0],[],[0,3]]:=by decide +kernel
theorem gf4 : frAns glowF = ⟨4,2,[9,109,209,309,10,110,210,310]⟩:=by decide +kernel
theorem gf5 : frErr ⟨0,0,0,0,[]⟩ = 3:=by decide +kernel
theorem frameBegun_any (w : World) : Calls Try.prog 29 #[] w fun e w'=>e = .returned (.bool true) ∧ Below w.heap.size w w':=by
 have HB0:=hide (Below.refl w.heap.size w);go_enter Try.func29,Try.ntmps29
 go_wp2_with fail;refine (glow_any _).mono ?_;rintro e w1 ⟨A1,c1,rfl,hP1,hE1⟩;have HB1:=hide (HB0.out.trans (hE1.mono HB0.out.size));clear HB0 hE1;go_wp2_with fail;refine (sizes_any 4 2 3 1 A1 5 c1 glowF.P _ rfl hP1).mono ?_;rintro e w2 ⟨A2,n2,c2,rfl,hn2,hS2,hE2⟩
 change (frSizes glowF).length = n2 at hn2
 change Sizes w2 A2 (frSizes glowF) at hS2
 rw [gf2] at hn2 hS2;subst hn2;obtain ⟨sb,so,rfl,slt,s0,s1⟩:=hS2.at_ (i:=4) (by decide);have HB2:=hide (HB1.out.trans (hE2.mono HB1.out.size));have HK2:=hide ((Keeps.cell (show w2.cell? ⟨sb,so + 8,none⟩ = some (.int .i64 4) from s0)).and (Keeps.cell (show w2.cell? ⟨sb,so + 8 + 1,none⟩ = some (.int .i64 2) from s1)));have hz2 : frErr ⟨4,2,3,1,glowF.P⟩ = 0:=gf1;rw [hz2];clear HB1 hE2 hP1 hS2 s0 s1 slt;simp only [List.length_cons,List.length_nil,Nat.reduceAdd];go_wp2_with fail;refine (glow_any _).mono ?_;rintro e w3 ⟨A3,c3,rfl,hP3,hE3⟩;have HB3:=hide (HB2.out.trans (hE3.mono HB2.out.size));have HK3:=hide (HK2.out.move hE3);clear HB2 HK2 hE3;go_wp2_with fail;refine (sources_any 4 2 3 1 A3 5 c3 glowF.P _ rfl hP3).mono ?_;rintro e w4 ⟨A4,n4,c4,rfl,hn4,hS4,hE4⟩
 change (frSources glowF).length = n4 at hn4
 change IntRows w4 A4 (frSources glowF) at hS4
 rw [gf3] at hn4 hS4;subst hn4;obtain ⟨rb,ro,RB,rm,rd,rfl,rlt,rc,hrm,hRI⟩:=hS4 4 [0,3] rfl;have hrm : rm = 2:=hrm.symm;subst hrm;have HB4:=hide (HB3.out.trans (hE4.mono HB3.out.size));have HK4:=hide ((HK3.out.move hE4).and ((Keeps.cell rc).and (Keeps.ints hRI)));rw [hz2];clear HB3 HK3 hE4 hP3 hS4 rc hRI rlt;simp only [List.length_cons,List.length_nil,Nat.reduceAdd];go_wp2_with fail;refine (glow_any _).mono ?_;rintro e w5 ⟨A5,c5,rfl,hP5,hE5⟩;have HB5:=hide (HB4.out.trans (hE5.mono HB4.out.size));have HK5:=hide (HK4.out.move hE5);clear HB4 HK4 hE5;go_wp2_with fail;refine (render_any 4 2 3 1 A5 5 c5 glowF.P _ rfl hP5).mono ?_;rintro e w6 ⟨W6,H6,P6,A6,n6,c6,hr6,hn6,rfl,hI6,hE6⟩
 change Img.mk W6 H6 P6 = frAns glowF at hr6
 rw [gf4] at hr6;injection hr6 with a1 a2 a3;subst a1 a2 a3;have hn6 : n6 = 8:=hn6.symm;subst hn6;rw [hz2];have hba:=HB5.out.trans (hE6.mono HB5.out.size);have HB6:=hide (hba.alloc hba.size (.cells #[.int .i64 4,.int .i64 2,.slice A6 8 c6] 56));have HK6:=hide ((((HK5.out.move hE6).and (Keeps.ints hI6)).alloc (.cells #[.int .i64 4,.int .i64 2,.slice A6 8 c6] 56)).and (Keeps.blk (Blk.new w6 56 [.int .i64 4,.int .i64 2,.slice A6 8 c6])));clear HB5 HK5 hE6 hP5 hI6 hba;go_wp2_with fail;refine (glow_any _).mono ?_;rintro e w7 ⟨A7,c7,rfl,hP7,hE7⟩;have HB7:=hide (HB6.out.trans (hE7.mono HB6.out.size));have HK7:=hide (HK6.out.move hE7);clear HB6 HK6 hE7;go_wp2_with fail;refine (frameCheck_any 4 2 3 1 A7 5 c7 glowF.P _ rfl hP7).mono ?_;rintro e w8 ⟨rfl,hE8⟩;rw [hz2];have HB8:=hide (HB7.out.trans (hE8.mono HB7.out.size));have HK8:=hide (HK7.out.move hE8);clear HB7 HK7 hE8 hP7;go_wp2_with fail;refine (frameCheck_any 0 0 0 0 none 0 0 [] _ rfl (by intro i hi; simp at hi)).mono ?_;rintro e w9 ⟨rfl,hE9⟩;rw [gf5];have HB9:=hide (HB8.out.trans (hE9.mono HB8.out.size));have HK9:=hide (HK8.out.move hE9);clear HB8 HK8 hE9 hz2;obtain ⟨⟨⟨⟨k0,k1⟩,k2,k3⟩,k4⟩,k5⟩:=HK9.out.now;have k6 : w9.cell? ⟨w6.heap.size,2,none⟩ = some (.slice A6 8 c6):=(k5.cell 2).trans rfl;have HI3:=hide (Keeps.ints k3);have HI4:=hide (Keeps.ints k4);have HC6:=hide (Keeps.cell k6);have heq : eqSz 4 2 4 2 = true:=rfl;clear k3 k4 k5 HK9;go_wp2_with fail;have hb0 : Below w9.heap.size w9 (w9.alloc (.cells ([0,3].map (Value.int .i64)).toArray 3)):=(Below.refl _ _).alloc (Nat.le_refl _) _;have HB10:=hide (HB9.out.trans (hb0.mono HB9.out.size));refine (sameNums RB (some ⟨w9.heap.size,0,none⟩) 2 rd 2 [0,3] (w9.alloc (.cells ([0,3].map (Value.int .i64)).toArray 3)) rfl (HI3.out.later _ hb0) (intsNew _ _) (by omega)).mono ?_;rintro e w10 ⟨rfl,hE10⟩;have HB11:=hide (HB10.out.trans (hE10.mono HB10.out.size));have hb1:=hb0.trans (hE10.mono hb0.size);have HI5:=hide (HI4.out.move hb1);have k7:=HC6.out.later _ hb1;clear hb0 hb1 hE10 HB10 HB9 HI4 HC6 k6 k0 k1 k2 HI3 heq;go_wp2_with fail;have hb2 : Below w10.heap.size w10 (w10.alloc (.cells ([9,109,209,309,10,110,210,310].map (Value.int .i64)).toArray 3)):=(Below.refl _ _).alloc (Nat.le_refl _) _;have HB12:=hide (HB11.out.trans (hb2.mono HB11.out.size));refine (sameNums A6 (some ⟨w10.heap.size,0,none⟩) 8 c6 8 [9,109,209,309,10,110,210,310] (w10.alloc (.cells ([9,109,209,309,10,110,210,310].map (Value.int .i64)).toArray 3)) rfl (HI5.out.later _ hb2) (intsNew _ _) (by omega)).mono ?_;rintro e w11 ⟨rfl,hE11⟩;have HB13:=hide (HB12.out.trans (hE11.mono HB12.out.size));clear HB12 hE11 hb2;go_wp2_with fail;go_ret;exact ⟨rfl,HB13.out⟩
end Go.Proofs.Ytibpmogmeoappab
