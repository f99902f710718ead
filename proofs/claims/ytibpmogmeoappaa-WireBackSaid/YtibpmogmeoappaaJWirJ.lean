/- Walk: wireBegun. -/
import Derived.Test.YtibpmogmeoappaaJWirI
import Derived.Test.YtibpmogmeoappaaJGlow
import Derived.Test.YtibpmogmeoappaaJNeedE
set_option maxRecDepth 100000
set_option maxHeartbeats 4000000
namespace Go.Proofs.Ytibpmogmeoappaa
open Go.RowKit
def glowS : ByteArray:=mkS (frmBytes glowF)
theorem gw1 : glowS.size = 45:=by decide +kernel
theorem gw2 : glowS.extract 0 13 = ⟨#[4,2,3,1,5,2,0,0,0,0,0,100,0]⟩:=by decide +kernel
theorem gw3 : readF (strL glowS) = glowF ∧ readZ (strL glowS) = 0:=by
 have h1 : strL glowS = frmBytes glowF:=strL_mk (frm_bytes _);have h2:=read_written (frErr_zero.1 gf1);have h3 : ¬ 2048 < (frmBytes glowF).length:=by decide +kernel
 unfold readF readZ;rw [h1,if_neg h3,if_neg h3,h2];exact ⟨rfl,rfl⟩
theorem wireBegun_any (w : World) : Calls Try.prog 41 #[] w fun e w'=>e = .returned (.bool true) ∧ Below w.heap.size w w':=by
 have HW:=hide (fun (A : Option Addr) (c : Nat) (W0 : World) (h1 : Passes W0 A glowF.P)=>write_any 4 2 3 1 A 5 c glowF.P W0 rfl h1);have e : (⟨4,2,3,1,glowF.P⟩ : Frm) = glowF:=rfl;have e2 : writeAns glowF = frmBytes glowF:=if_pos gf1;rw [e,gf1,e2] at HW;have HW2:=hide (fun (A : Option Addr) (c : Nat) (W0 : World) (h1 : Passes W0 A glowF.P)=>(show Calls Try.prog 37 #[.agg #[.int .i64 4,.int .i64 2,.int .i64 3,.int .i64 1,.slice A 5 c]] W0 (fun e w'=>e = .returned (.tuple #[.string glowS,.int .i64 0]) ∧ Below W0.heap.size W0 w') from (unhide HW) A c W0 h1));have HR:=hide (fun W0 : World=>read_any glowS W0);rw [gw3.1,gw3.2] at HR;have HR2:=hide (fun W0 : World=>(show Calls Try.prog 40 #[.string glowS] W0 (fun e w'=>∃ (A : Option Addr) (n c : Nat),e = .returned (.tuple #[.agg #[.int .i64 4,.int .i64 2,.int .i64 3,.int .i64 1,.slice A n c],.int .i64 0]) ∧ 5 = n ∧ Passes w' A glowF.P ∧ Below W0.heap.size W0 w') from (unhide HR) W0));clear HR;have h45:=gw1;have h13:=gw2;obtain ⟨gs,hgs⟩ : ∃ gs,glowS = gs:=⟨_,rfl⟩;rw [hgs] at HW2 HR2 h45 h13;have h45i : (gs.size : Int) = 45:=by omega
 have hn13 : ¬ (gs.size : Int) < 13:=by omega
 have H13:=hide h13;clear e e2 HW hgs h45;go_enter Try.func41,Try.ntmps41
 go_wp2_with fail;refine (glow_any _).mono ?_;rintro e w1 ⟨A1,c1,rfl,hP1,hE1⟩;have HB1:=hide hE1;have HP1:=hide hP1;clear hE1 hP1;go_wp2_with fail;refine ((unhide HW2) A1 c1 _ HP1.out).mono ?_;rintro e w2 ⟨rfl,hE2⟩;have HB2:=hide (HB1.out.trans (hE2.mono HB1.out.size));clear hE2 HB1 HP1 HW2;go_wp2_with fail;refine ((unhide HR2) _).mono ?_;rintro e w3 ⟨A3,n3,c3,rfl,hn3,hP3,hE3⟩;obtain rfl : n3 = 5:=hn3.symm;have hal : Below w3.heap.size w3 (w3.alloc (.cells #[.int .i64 4,.int .i64 2,.int .i64 3,.int .i64 1,.slice A3 5 c3] 63)):=(Below.refl _ _).alloc (Nat.le_refl _) _;have hba:=HB2.out.trans (hE3.mono HB2.out.size);have HB3:=hide (hba.trans (hal.mono hba.size));have hx3 : FrmBox (w3.alloc (.cells #[.int .i64 4,.int .i64 2,.int .i64 3,.int .i64 1,.slice A3 5 c3] 63)) w3.heap.size 4 2 3 1 A3 5 c3:=Blk.new w3 63 (frmCells 4 2 3 1 A3 5 c3);obtain ⟨wf,hwf⟩ : ∃ wf,w3.alloc (.cells #[.int .i64 4,.int .i64 2,.int .i64 3,.int .i64 1,.slice A3 5 c3] 63) = wf:=⟨_,rfl⟩;have hPf:=hP3.keep hal;rw [hwf] at HB3 hx3 hPf;have HPF:=hide (Keeps.passes hPf);have HXF:=hide (Keeps.blk hx3);obtain ⟨x,q0,q1,q2,q3,q4⟩:=FrmBox.cells hx3;have HCS:=hide (show Keeps wf (fun w' : World=>w'.cell? ⟨w3.heap.size,0,none⟩ = some (.int .i64 4) ∧ w'.cell? ⟨w3.heap.size,1,none⟩ = some (.int .i64 2) ∧ w'.cell? ⟨w3.heap.size,2,none⟩ = some (.int .i64 3) ∧ w'.cell? ⟨w3.heap.size,3,none⟩ = some (.int .i64 1) ∧ w'.cell? ⟨w3.heap.size,4,none⟩ = some (.slice A3 5 c3)) from ⟨⟨q0,q1,q2,q3,q4⟩,fun _ hb=>⟨keepC hb q0,keepC hb q1,keepC hb q2,keepC hb q3,keepC hb q4⟩⟩);clear hE3 hn3 hP3 hal hba hPf hx3 HR2 HB2;clear H13 x q0 q1 q2 q3 q4;go_upto_region 3 with fail
 go_region_held3 (fun w' : World=>w'.cell? ⟨w3.heap.size,0,none⟩ = some (.int .i64 4) ∧ w'.cell? ⟨w3.heap.size,1,none⟩ = some (.int .i64 2) ∧ w'.cell? ⟨w3.heap.size,2,none⟩ = some (.int .i64 3) ∧ w'.cell? ⟨w3.heap.size,3,none⟩ = some (.int .i64 1) ∧ w'.cell? ⟨w3.heap.size,4,none⟩ = some (.slice A3 5 c3))
  (first | exact HCS.out.later _ hB7 | exact HCS.out.later _ hB6 | exact HCS.out.later _ (Below.refl _ _).drew)
  (first
    | (go_simp; go_at_call 83; refine (glow_any _).mono ?_; rintro e w6 ⟨A6,c6,rfl,hP6,hE6⟩; have hB6 : Below wf.heap.size wf w6:=(Below.refl _ _).drew.trans hE6)
    | (go_simp; go_at_call 42; refine (sameFrames_any 4 2 3 1 A3 A6 5 c3 c6 glowF.P _ rfl (HPF.out.later _ hB6) hP6 (by omega)).mono ?_; rintro e w7 ⟨rfl,hE7⟩; have hB7 : Below wf.heap.size wf w7:=hB6.trans (hE7.mono hB6.size)))
 all_goals
  go_wp2_with fail;go_ret;exact ⟨rfl,HB3.out.trans (hB7.mono HB3.out.size)⟩
end Go.Proofs.Ytibpmogmeoappaa
