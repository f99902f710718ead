/- Plans: the look in memory, the map of steps, what a store into a map leaves. -/
import Derived.Test.YtibpmogmeoappabGreatJMem
import Derived.Test.YtibpmogmeoappabGreatJFrmM
import Derived.Test.YtibpmogmeoappabGreatJNeed2
import Derived.Test.YtibpmogmeoappabGreatJPlain
import Derived.BigQuiet
set_option maxRecDepth 100000
set_option maxHeartbeats 4000000
namespace Go.Proofs.YtibpmogmeoappabGreat
open Go.RowKit
theorem ne_map {w : World} {mb b o : Nat} {l : List (Int × Value)} {v : Value} (h : IMap w mb l) (hc : w.cell? ⟨b,o,none⟩ = some v) : b ≠ mb:=by
 rintro rfl;obtain ⟨es,clk,h,_⟩:=h;simp [World.cell?,h] at hc
theorem grown_tr {a b c : World} {m : Option Nat} (h : a.grownBy b m) (k : b.grownBy c m) : a.grownBy c m :=
 ⟨k.os.trans h.os,k.tape.trans h.tape,k.output.trans h.output,Nat.le_trans h.size k.size,fun i hi hn=>(k.block i (Nat.lt_of_lt_of_le hi h.size) hn).trans (h.block i hi hn)⟩
theorem grown_rfl (a : World) (m : Option Nat) : a.grownBy a m:=⟨rfl,rfl,rfl,Nat.le_refl _,fun _ _ _=>rfl⟩
theorem mapPut_grown (w : World) (b : Nat) (k : Int) (v : Value) : w.grownBy (World.mapPut w b k v) (some b):=by
 unfold World.mapPut;split
 ·refine ⟨rfl,rfl,rfl,by simp,fun i hi hn=>?_⟩
  simp only [Array.getElem?_setIfInBounds];rw [if_neg (fun e=>hn (by rw [e]))]
 ·exact grown_rfl _ _
section
variable {a w : World} {mb : Nat} {l : List (Int × Value)}
theorem grown_cell (hg : a.grownBy w (some mb)) (hm : IMap a mb l) {b o : Nat} {v : Value} (hc : a.cell? ⟨b,o,none⟩ = some v) : w.cell? ⟨b,o,none⟩ = some v:=by
 have hn:=ne_map hm hc;exact (World.cell?_of_block (a:=⟨b,o,none⟩) (hg.block b (World.block_lt_of_cell? a ⟨b,o,none⟩ hc) (by simpa using hn))).trans hc
theorem grown_cells (hg : a.grownBy w (some mb)) (hm : IMap a mb l) {A : Option Addr} {cs : List Value} (hC : Cells a A cs) : Cells w A cs:=by
 intro i hi;obtain ⟨b,o,e,hlt,hc⟩:=hC i hi;exact ⟨b,o,e,Nat.lt_of_lt_of_le hlt hg.size,grown_cell hg hm hc⟩
theorem grown_rows (hg : a.grownBy w (some mb)) (hm : IMap a mb l) {A : Option Addr} {L : List (List Int)} (hC : IntRows a A L) : IntRows w A L:=by
 intro i x hi;obtain ⟨b,o,B,m,d,e,hlt,hc,hl,hI⟩:=hC i x hi;exact ⟨b,o,B,m,d,e,Nat.lt_of_lt_of_le hlt hg.size,grown_cell hg hm hc,hl,grown_cells hg hm hI⟩
theorem grown_blk (hg : a.grownBy w (some mb)) (hm : IMap a mb l) {g : Nat} {t : TypeId} {cs : List Value} (hB : Blk a g t cs) : Blk w g t cs:=by
 have hn : g ≠ mb:=by
  rintro rfl;obtain ⟨es,clk,h,_⟩:=hm;unfold Blk at hB;rw [hB] at h;cases h
 exact (hg.block g hB.lt (by simpa using hn)).trans hB
end
def lookCells (OA : Option Addr) (on oc : Nat) (QA : Option Addr) (qn qc : Nat) (la : Int) (KA : Option Addr) (kn kc : Nat) (SA : Option Addr) (sn sc : Nat) (RA : Option Addr) (rn rc : Nat) (mb : Nat) (XA : Option Addr) (xn xc : Nat) : List Value :=
 [.slice OA on oc,.slice QA qn qc,.int .i64 la,.slice KA kn kc,.slice SA sn sc,.slice RA rn rc,.map (some mb),.slice XA xn xc]
abbrev LookBox (w : World) (g : Nat) (OA : Option Addr) (on oc : Nat) (QA : Option Addr) (qn qc : Nat) (la : Int) (KA : Option Addr) (kn kc : Nat) (SA : Option Addr) (sn sc : Nat) (RA : Option Addr) (rn rc : Nat) (mb : Nat) (XA : Option Addr) (xn xc : Nat) : Prop :=
 Blk w g 122 (lookCells OA on oc QA qn qc la KA kn kc SA sn sc RA rn rc mb XA xn xc)
theorem look_at {w : World} {g : Nat} {OA : Option Addr} {on oc : Nat} {QA : Option Addr} {qn qc : Nat} {la : Int} {KA : Option Addr} {kn kc : Nat} {SA : Option Addr} {sn sc : Nat} {RA : Option Addr} {rn rc : Nat} {mb : Nat} {XA : Option Addr} {xn xc : Nat} (h : LookBox w g OA on oc QA qn qc la KA kn kc SA sn sc RA rn rc mb XA xn xc) :
 g < w.heap.size ∧ w.cell? ⟨g,0,none⟩ = some (.slice OA on oc) ∧ w.cell? ⟨g,1,none⟩ = some (.slice QA qn qc) ∧ w.cell? ⟨g,2,none⟩ = some (.int .i64 la) ∧ w.cell? ⟨g,3,none⟩ = some (.slice KA kn kc) ∧ w.cell? ⟨g,4,none⟩ = some (.slice SA sn sc) ∧ w.cell? ⟨g,5,none⟩ = some (.slice RA rn rc) ∧ w.cell? ⟨g,6,none⟩ = some (.map (some mb)) ∧ w.cell? ⟨g,7,none⟩ = some (.slice XA xn xc):=by
 refine ⟨h.lt,?_,?_,?_,?_,?_,?_,?_,?_⟩ <;> (rw [Blk.cell h]; rfl)
def stepsM (p : Pln) (i : Nat) : List (Int × Value):=(stepsL p i).map fun q=>(q.1,.int .i64 q.2)
theorem stepsM_succ (p : Pln) (i : Nat) : stepsM p (i + 1) = stepsM p i ++ [(p.ord i,.int .i64 (i : Int))]:=by unfold stepsM; rw [stepsL_succ,List.map_append]; rfl
theorem lookI_map (l : List (Int × Int)) (k : Int) : lookI (l.map fun q=>(q.1,Value.int .i64 q.2)) k = (findS l k).map (Value.int .i64):=by
 unfold lookI findS
 induction l with
 | nil=>rfl
 | cons q l ih =>
   simp only [List.map_cons,List.find?_cons]
   cases e : q.1 == k with
   | true=>simp
   | false=>simpa using ih
theorem look_some {f : Frm} {p : Pln} {i m : Nat} (ho : OrdTo f p i) (hm : m < i) : lookI (stepsM p i) (p.ord m) = some (.int .i64 (m : Int)):=by
 unfold stepsM;rw [lookI_map,findS_some ho.uniq hm];rfl
theorem look_none {p : Pln} {i : Nat} {k : Int} (h : ¬ DoneTo p i k) : lookI (stepsM p i) k = none:=by
 unfold stepsM;rw [lookI_map,findS_none h];rfl
theorem int_zero (w : World) : (zeroValue 3).run Tryz.prog w = .ok (.int .i64 0) w:=by kernel_rfl
theorem run_done {f : Frm} {p : Pln} {i : Nat} (ho : OrdTo f p i) {w : World} {mb : Nat} (hM : IMap w mb (stepsM p i)) (k : Int) (hd : DoneTo p i k) :
 ∃ m : Nat,m < i ∧ p.ord m = k ∧ (Instr.lookup 120 (.map (some mb)) (.int .i64 k) true).run Tryz.prog w = .ok (.tuple #[.int .i64 (m : Int),.bool true]) w:=by
 obtain ⟨m,hm,rfl⟩:=hd;refine ⟨m,hm,rfl,?_⟩;have h:=run_lookup_ints Tryz.underlying120 Tryz.underlying3 (int_zero w) hM (p.ord m);rw [look_some ho hm] at h;exact h
theorem run_undone {p : Pln} {i : Nat} {w : World} {mb : Nat} (hM : IMap w mb (stepsM p i)) (k : Int) (hd : ¬ DoneTo p i k) :
 (Instr.lookup 120 (.map (some mb)) (.int .i64 k) true).run Tryz.prog w = .ok (.tuple #[.int .i64 0,.bool false]) w:=by
 have h:=run_lookup_ints Tryz.underlying120 Tryz.underlying3 (int_zero w) hM k;rw [look_none hd] at h;exact h
def RetTest (w : World) (P : Prop) (e : Ending) (w' : World) : Prop:=∃ b : Bool,e = .returned (.bool b) ∧ (b = true ↔ P) ∧ Below w.heap.size w w'
theorem retTest_no {w w' : World} {P : Prop} (h : ¬ P) (hb : Below w.heap.size w w') : RetTest w P (.returned (.bool false)) w':=⟨false,rfl,⟨fun e=>(by cases e),fun e=>absurd e h⟩,hb⟩
theorem retTest_yes {w w' : World} {P : Prop} (h : P) (hb : Below w.heap.size w w') : RetTest w P (.returned (.bool true)) w':=⟨true,rfl,⟨fun _=>h,fun _=>rfl⟩,hb⟩
def RetOrder (w : World) (mb : Nat) (f : Frm) (p : Pln) (e : Ending) (w' : World) : Prop :=
 ∃ b : Bool,e = .returned (.bool b) ∧ (b = true ↔ OrderOk f p) ∧ (b = true → IMap w' mb (stepsM p p.Order.length)) ∧ w.grownBy w' (some mb)
theorem retOrder_no {w w' : World} {mb : Nat} {f : Frm} {p : Pln} (h : ¬ OrderOk f p) (hb : w.grownBy w' (some mb)) : RetOrder w mb f p (.returned (.bool false)) w':=⟨false,rfl,⟨fun e=>(by cases e),fun e=>absurd e h⟩,(fun e=>by cases e),hb⟩
theorem retOrder_yes {w w' : World} {mb : Nat} {f : Frm} {p : Pln} (h : OrderOk f p) (hm : IMap w' mb (stepsM p p.Order.length)) (hb : w.grownBy w' (some mb)) : RetOrder w mb f p (.returned (.bool true)) w':=⟨true,rfl,⟨fun _=>h,fun _=>rfl⟩,fun _=>hm,hb⟩
end Go.Proofs.YtibpmogmeoappabGreat
namespace Go.Proofs.YtibpmogmeoappabGreat
open Go.RowKit
theorem order_any (f : Frm) (p : Pln) (g mb : Nat) (OA : Option Addr) (on oc : Nat) (QA : Option Addr) (qn qc : Nat) (la : Int) (KA : Option Addr) (kn kc : Nat) (SA : Option Addr) (sn sc : Nat) (RA : Option Addr) (rn rc : Nat) (XA : Option Addr) (xn xc : Nat) (w : World)
 (hf : FrmOk f) (hL : LookBox w g OA on oc QA qn qc la KA kn kc SA sn sc RA rn rc mb XA xn xc) (hO : Ints w OA p.Order) (hon : p.Order.length = on) (hol : on ≤ 9223372036854775807)
 (hK : Cells w KA ((keptL f).map Value.bool)) (hkn : f.P.length = kn) (hR : IntRows w RA (frSources f)) (hrn : f.P.length = rn) (hM : IMap w mb []) :
 Calls Tryz.prog 66 #[.pointer (some ⟨g,0,none⟩)] w (RetOrder w mb f p):=by
 have h12:=hf.many;have hk12 : kn ≤ 12:=by omega
 have HF:=hide hf;have HL:=hide hL;have HO:=hide hO;have HK:=hide hK;have HR:=hide hR;have HM:=hide hM;have HON:=hide hon;have HKN:=hide hkn;have HRN:=hide hrn;obtain ⟨x,q0,q1,q2,q3,q4,q5,q6,q7⟩:=look_at hL;clear hf hL hO hK hR hM hon hkn hrn;go_enter Tryz.func66,Tryz.ntmps66
 go_wp2_with fail;clear x q0 q1 q2 q3 q4 q5 q6 q7;go_loopw [3,4,6,7,8,9,10,21] (fun _ _ _ _ _ _ _ i wr=>∃ k : Nat,k ≤ on ∧ i = .int .i64 k ∧ Hid (OrdTo f p k) ∧ Hid (IMap wr mb (stepsM p k)) ∧ Hid (w.grownBy wr (some mb))) (fun _ _ _ _ _ _ _ i _=>on - (intOf i).toNat)
 case atStart=>exact ⟨0,Nat.zero_le _,rfl,hide ⟨Nat.zero_le _,fun m hm=>by omega,fun m m' h1 h2=>by omega,fun m hm=>by omega⟩,HM,hide (grown_rfl _ _)⟩
 case round =>
  obtain ⟨k,hk,rfl,HOT,HMM,HG⟩:=hrel;obtain ⟨x,q0,q1,q2,q3,q4,q5,q6,q7⟩:=look_at (grown_blk HG.out HM.out HL.out);by_cases hlt : k < on
  ·have hk0 : (0 : Int) ≤ (k : Int):=by omega
   have hk1 : (k : Int) < (on : Int):=by omega
   obtain ⟨ob,oo,rfl,hob,co⟩:=(grown_cells HG.out HM.out HO.out) k (by rw [List.length_map,HON.out]; exact hlt);obtain ⟨v,hv⟩ : ∃ v,p.ord k = v:=⟨_,rfl⟩
   have ev : (p.Order.map (Value.int .i64)).getD k undef = .int .i64 v:=by
    rw [← hv,List.getD_eq_getElem?_getD,List.getElem?_map,p.ord_at (by rw [HON.out]; exact hlt)];rfl
   rw [ev] at co;have HV:=hide hv;clear ev hv;by_cases hneg : v < 0
   ·go_wp2_with fail
    go_ret;refine retOrder_no (fun h=>?_) HG.out;have h1:=h.1.rng k (by rw [HON.out]; exact hlt);rw [HV.out] at h1;omega
   ·by_cases hbig : (kn : Int) ≤ v
    ·go_wp2_with fail
     go_ret;refine retOrder_no (fun h=>?_) HG.out;have h1:=h.1.rng k (by rw [HON.out]; exact hlt);rw [HV.out,HKN.out] at h1;omega
    ·obtain ⟨m,rfl⟩ : ∃ m : Nat,v = (m : Int):=⟨v.toNat,by omega⟩
     have hm0 : (0 : Int) ≤ (m : Int):=by omega
     have hmk : m < kn:=by omega
     have hmr : (m : Int) < (rn : Int):=by have h1:=HKN.out; have h2:=HRN.out; omega
     have hsr:=frSources_at HF.out (k:=m) (by rw [HKN.out]; exact hmk);obtain ⟨rb,ro,B,sm,sd,hRA,hrb,cr,hsm,hsI⟩:=grown_rows HG.out HM.out HR.out m (srcs f m) hsr;obtain rfl:=hRA;have hs2 : sm ≤ 2:=by rw [← hsm]; exact srcs_le f m
     have HSM:=hide hsm;have HSI:=hide hsI;clear hsr hsm hsI hneg hbig;go_wp2_with fail;go_loop [6,7,8,45] (fun _ _ _ t=>∃ j : Nat,j ≤ sm ∧ t = .int .i64 j ∧ Hid (∀ s ∈ (srcs f m).take j,DoneTo p k s)) (fun _ _ _ t=>sm - (intOf t).toNat)
     case atStart=>exact ⟨0,Nat.zero_le _,rfl,hide (fun s hs=>by simp at hs)⟩
     case round =>
      obtain ⟨j,hj,rfl,HD⟩:=hrel;by_cases hjl : j < sm
      ·have hj0 : (0 : Int) ≤ (j : Int):=by omega
       have hj1 : (j : Int) < (sm : Int):=by omega
       have hjs : j < (srcs f m).length:=by rw [HSM.out]; exact hjl
       obtain ⟨sb,so,hB,hsb,cs⟩:=HSI.out j (by rw [List.length_map]; exact hjs);obtain rfl:=hB;obtain ⟨s,hs⟩ : ∃ s,(srcs f m)[j] = s:=⟨_,rfl⟩
       have ev : ((srcs f m).map (Value.int .i64)).getD j undef = .int .i64 s:=by
        rw [← hs,List.getD_eq_getElem?_getD,List.getElem?_map,List.getElem?_eq_getElem hjs];rfl
       rw [ev] at cs;have HS:=hide hs;clear ev hs;by_cases hd : DoneTo p k s
       ·obtain ⟨mm,hmm,-,hlk⟩:=run_done HOT.out HMM.out s hd
        have HDD:=hide hd;clear hd;go_wp2_with fail;go_round
        case rel =>
         refine ⟨j + 1,by omega,by go_num,hide (fun s' hs'=>?_)⟩;rw [List.take_add_one,List.getElem?_eq_getElem hjs] at hs';rcases List.mem_append.1 hs' with h | h
         ·exact HD.out s' h
         ·simp only [Option.toList_some,List.mem_singleton] at h
          rw [h,HS.out]; exact HDD.out
        case measure=>simp [intOf]; omega
       ·have hlk:=run_undone HMM.out s hd
        have HDD:=hide hd;clear hd;go_wp2_with fail;go_ret;refine retOrder_no (fun h=>?_) HG.out;exact HDD.out (h.1.srcs k (by rw [HON.out]; exact hlt) s (by rw [HV.out,Int.toNat_natCast,← HS.out]; exact List.getElem_mem hjs))
      ·obtain rfl : j = sm:=by omega
       by_cases hd : DoneTo p k (m : Int)
       ·obtain ⟨mm,hmm,he,hlk⟩:=run_done HOT.out HMM.out (m : Int) hd
        have HE:=hide he;clear he hd;go_wp2_with fail;go_ret;refine retOrder_no (fun h=>?_) HG.out;exact h.1.uniq mm k hmm (by rw [HON.out]; exact hlt) (by rw [HE.out,HV.out])
       ·have hlk:=run_undone HMM.out (m : Int) hd
        have hup:=run_mapUpdate_ints Tryz.underlying120 Tryz.underlying3 HMM.out (m : Int) (.int .i64 k) (look_none hd);have HDD:=hide hd;have hput:=HMM.out.put (m : Int) (.int .i64 k);have HPUT:=hide hput;have HGP:=hide (grown_tr HG.out (mapPut_grown _ mb (m : Int) (.int .i64 k)));clear hd hput;go_wp2_with fail;go_roundw
        case rel =>
         refine ⟨k + 1,by omega,by go_num,hide (ordTo_succ HOT.out (by rw [HON.out]; exact hlt) ⟨by rw [HV.out]; omega,by rw [HV.out,HKN.out]; omega⟩ (fun a ha e=>HDD.out ⟨a,ha,by rw [e,HV.out]⟩) (fun s hs=>?_)),hide ?_,HGP⟩
         ·rw [HV.out,Int.toNat_natCast] at hs
          have h1:=HD.out s (by rw [List.take_of_length_le (by rw [HSM.out]; exact Nat.le_refl _)]; exact hs);exact h1
         ·rw [stepsM_succ,HV.out]; exact HPUT.out
        case measure=>simp [intOf]; omega
  ·obtain rfl : k = on:=by omega
   go_wp2_with fail;go_loop [11,12,13,14,83] (fun _ _ _ _ i=>∃ j : Nat,j ≤ kn ∧ i = .int .i64 j ∧ Hid (∀ t,t < j → (keptL f).getD t false = true → DoneTo p k (t : Int))) (fun _ _ _ _ i=>kn - (intOf i).toNat)
   case atStart=>exact ⟨0,Nat.zero_le _,rfl,hide (fun t ht=>by omega)⟩
   case round =>
    obtain ⟨j,hj,rfl,HD⟩:=hrel;by_cases hjl : j < kn
    ·have hj0 : (0 : Int) ≤ (j : Int):=by omega
     have hj1 : (j : Int) < (kn : Int):=by omega
     have hjk : j < (keptL f).length:=by rw [keptL_len,HKN.out]; exact hjl
     obtain ⟨kb,ko,hKA,hkb,ck⟩:=(grown_cells HG.out HM.out HK.out) j (by rw [List.length_map]; exact hjk);obtain rfl:=hKA;obtain ⟨b,hb⟩ : ∃ b,(keptL f).getD j false = b:=⟨_,rfl⟩
     have ev : ((keptL f).map Value.bool).getD j undef = .bool b:=by
      rw [← hb,List.getD_eq_getElem?_getD,List.getElem?_map,List.getD_eq_getElem?_getD,List.getElem?_eq_getElem hjk];rfl
     rw [ev] at ck;have HBB:=hide hb;clear ev hb;by_cases hd : DoneTo p k (j : Int)
     ·obtain ⟨mm,hmm,-,hlk⟩:=run_done HOT.out HMM.out (j : Int) hd
      have HDD:=hide hd;clear hd
      have hnx:=hide (show ∀ t,t < j + 1 → (keptL f).getD t false = true → DoneTo p k (t : Int) from fun t ht h=>by
       by_cases htj : t < j
       ·exact HD.out t htj h
       ·obtain rfl : t = j:=by omega
        exact HDD.out)
      cases b with
      | true =>
        go_wp2_with fail;go_round
        case rel=>exact ⟨j + 1,by omega,by go_num,hnx⟩
        case measure=>simp [intOf]; omega
      | false =>
        go_wp2_with fail;go_round
        case rel=>exact ⟨j + 1,by omega,by go_num,hnx⟩
        case measure=>simp [intOf]; omega
     ·have hlk:=run_undone HMM.out (j : Int) hd
      have HDD:=hide hd;clear hd
      cases b with
      | true =>
        go_wp2_with fail;go_ret;refine retOrder_no (fun h=>?_) HG.out;have h1:=h.2 j (by rw [HKN.out]; exact hjl) HBB.out;rw [HON.out] at h1;exact HDD.out h1
      | false =>
        go_wp2_with fail;go_round
        case rel =>
         refine ⟨j + 1,by omega,by go_num,hide (fun t ht h=>?_)⟩;by_cases htj : t < j
         ·exact HD.out t htj h
         ·obtain rfl : t = j:=by omega
          rw [HBB.out] at h;cases h
        case measure=>simp [intOf]; omega
    ·obtain rfl : j = kn:=by omega
     go_wp2_with fail;go_ret;exact retOrder_yes ⟨by rw [HON.out]; exact HOT.out,fun t ht h=>by rw [HON.out]; exact HD.out t (by rw [HKN.out] at ht; exact ht) h⟩ (by rw [HON.out]; exact HMM.out) HG.out
end Go.Proofs.YtibpmogmeoappabGreat
namespace Go.Proofs.YtibpmogmeoappabGreat
open Go.RowKit
theorem places_any (f : Frm) (p : Pln) (g mb : Nat) (OA : Option Addr) (on oc : Nat) (QA : Option Addr) (qn qc : Nat) (la : Int) (KA : Option Addr) (kn kc : Nat) (SA : Option Addr) (sn sc : Nat) (RA : Option Addr) (rn rc : Nat) (XA : Option Addr) (xn xc : Nat) (w : World)
 (hkn : f.P.length = kn) (h12 : kn ≤ 12) (hL : LookBox w g OA on oc QA qn qc la KA kn kc SA sn sc RA rn rc mb XA xn xc) (hQ : Ints w QA p.Places) (hqn : p.Places.length = qn) (hql : qn ≤ 9223372036854775807)
 (ho : OrdTo f p p.Order.length) (hM : IMap w mb (stepsM p p.Order.length)) :
 Calls Tryz.prog 67 #[.pointer (some ⟨g,0,none⟩)] w (RetTest w (PlacesOk f p)):=by
 have HL:=hide hL;have HQ:=hide hQ;have HM:=hide hM;have HOT:=hide ho;have HKN:=hide hkn;have HQN:=hide hqn;obtain ⟨x,q0,q1,q2,q3,q4,q5,q6,q7⟩:=look_at hL;clear hL hQ hM ho hkn hqn;by_cases hne : qn = kn
 ·subst hne
  go_enter Tryz.func67,Tryz.ntmps67
  go_wp2_with fail;go_quiet (fail)
  generalize hq : World.drewN w _ = w2;have hb2 : Below w.heap.size w w2:=by rw [← hq]; exact below_drewN (Below.refl _ _) _
  have HB2:=hide hb2;have HL2:=hide (Blk.keep HL.out hb2);have HQ2:=hide (HQ.out.keep hb2);have HM2:=hide (HM.out.keep hb2);clear hq hb2 HL HQ HM x q0 q1 q2 q3 q4 q5 q6 q7;obtain ⟨x,q0,q1,q2,q3,q4,q5,q6,q7⟩:=look_at HL2.out;go_wp2_with fail;go_loop [3,4,5,6,25] (fun _ _ _ _ i=>∃ k : Nat,k ≤ qn ∧ i = .int .i64 k ∧ Hid (∀ j,j < k → PlaceIs p j)) (fun _ _ _ _ i=>qn - (intOf i).toNat)
  case atStart=>exact ⟨0,Nat.zero_le _,rfl,hide (fun j hj=>by omega)⟩
  case round =>
   obtain ⟨k,hk,rfl,HI⟩:=hrel;by_cases hlt : k < qn
   ·have hk0 : (0 : Int) ≤ (k : Int):=by omega
    have hk1 : (k : Int) < (qn : Int):=by omega
    obtain ⟨pb,po,hQA,hpb,cp⟩:=HQ2.out k (by rw [List.length_map,HQN.out]; exact hlt);obtain rfl:=hQA;obtain ⟨v,hv⟩ : ∃ v,p.pl k = v:=⟨_,rfl⟩
    have ev : (p.Places.map (Value.int .i64)).getD k undef = .int .i64 v:=by
     rw [← hv,List.getD_eq_getElem?_getD,List.getElem?_map];unfold Pln.pl;rw [List.getD_eq_getElem?_getD,List.getElem?_eq_getElem (by rw [HQN.out]; exact hlt)];rfl
    rw [ev] at cp;have HV:=hide hv;clear ev hv;have hnot : ¬ PlaceIs p k → ¬ PlacesOk f p:=fun h1 h2=>h1 (h2.2 k (by rw [HKN.out]; exact hlt));have HNOT:=hide hnot;clear hnot;by_cases hd : DoneTo p p.Order.length (k : Int)
    ·obtain ⟨mm,hmm,-,hlk⟩:=run_done HOT.out HM2.out (k : Int) hd
     have HD:=hide hd;clear hd;by_cases h1 : v < 0
     ·go_wp2_with fail
      go_ret;refine retTest_no (fun h=>?_) (HB2.out);exact absurd h (HNOT.out (fun h2=>by have h3:=h2.1 HD.out; rw [HV.out] at h3; omega))
     ·by_cases h2 : 4096 < v
      ·go_wp2_with fail
       go_ret;refine retTest_no (fun h=>?_) (HB2.out);exact absurd h (HNOT.out (fun h2=>by have h3:=h2.1 HD.out; rw [HV.out] at h3; omega))
      ·go_wp2_with fail
       go_round
       case rel =>
        refine ⟨k + 1,by omega,by go_num,hide (fun j hj=>?_)⟩;by_cases hjk : j < k
        ·exact HI.out j hjk
        ·obtain rfl : j = k:=by omega
         exact ⟨fun _=>by rw [HV.out]; omega,fun h=>absurd HD.out h⟩
       case measure=>simp [intOf]; omega
    ·have hlk:=run_undone HM2.out (k : Int) hd
     have HD:=hide hd;clear hd;by_cases h1 : v = -1
     ·subst h1
      go_wp2_with fail;go_round
      case rel =>
       refine ⟨k + 1,by omega,by go_num,hide (fun j hj=>?_)⟩;by_cases hjk : j < k
       ·exact HI.out j hjk
       ·obtain rfl : j = k:=by omega
        exact ⟨fun h=>absurd h HD.out,fun _=>HV.out⟩
      case measure=>simp [intOf]; omega
     ·have hb1 : (v == -1) = false:=by simpa using h1
      have H1:=hide h1;clear h1;go_wp2_with fail;go_ret;refine retTest_no (fun h=>?_) (HB2.out);exact absurd h (HNOT.out (fun h2=>H1.out (by have h3:=h2.2 HD.out; rw [HV.out] at h3; exact h3)))
   ·obtain rfl : k = qn:=by omega
    go_wp2_with fail;go_ret;exact retTest_yes ⟨by rw [HQN.out,HKN.out],fun j hj=>HI.out j (by rw [HKN.out] at hj; exact hj)⟩ HB2.out
 ·have hn1 : ¬ ((qn : Int) = (kn : Int)):=by omega
  have hn2 : ((qn : Int) == (kn : Int)) = false:=by simpa using hn1
  go_enter Tryz.func67,Tryz.ntmps67
  go_wp2_with fail;go_quiet (fail)
  go_wp2_with fail;go_ret;refine retTest_no (fun h=>?_) (below_drewN (Below.refl _ _) _);have h1:=h.1;rw [HQN.out,HKN.out] at h1;exact absurd h1 hne
end Go.Proofs.YtibpmogmeoappabGreat
namespace Go.Proofs.YtibpmogmeoappabGreat
open Go.RowKit
theorem stepOf_ref (A : Option Addr) (n c : Nat) (l : List Int) (k : Int) (w : World) (hn : l.length = n) (hI : Ints w A l) (hl : n ≤ 9223372036854775807) :
 Calls Tryz.prog 52 #[.slice A n c,.int .i64 k] w fun e w'=>e = .returned (.int .i64 (stepOf l k)) ∧ w = w':=by
 have HN:=hide hn;have HI:=hide hI;clear hn hI;go_enter Tryz.func52,Tryz.ntmps52
 go_wp2_with fail;go_loop [5] (fun i=>∃ j : Nat,j ≤ n ∧ i = .int .i64 j ∧ Hid (∀ t,t < j → l[t]? ≠ some k)) (fun i=>n - (intOf i).toNat)
 case atStart=>exact ⟨0,Nat.zero_le _,rfl,hide (fun t ht=>by omega)⟩
 case round =>
  obtain ⟨j,hj,rfl,HJ⟩:=hrel;by_cases hlt : j < n
  ·have hj0 : (0 : Int) ≤ (j : Int):=by omega
   have hj1 : (j : Int) < (n : Int):=by omega
   have hjl : j < l.length:=by rw [HN.out]; exact hlt
   obtain ⟨b,o,hA,hb,cv⟩:=HI.out j (by rw [List.length_map]; exact hjl);obtain rfl:=hA;obtain ⟨v,hv⟩ : ∃ v,l[j]? = some v:=⟨l[j],List.getElem?_eq_getElem hjl⟩
   have ev : (l.map (Value.int .i64)).getD j undef = .int .i64 v:=by
    rw [List.getD_eq_getElem?_getD,List.getElem?_map,hv];rfl
   rw [ev] at cv;have HV:=hide hv;clear ev hv;by_cases he : v = k
   ·subst he
    have HS:=hide (stepOf_hit HV.out HJ.out);go_wp2_with fail;go_ret;exact ⟨ret_int HS.out.symm,rfl⟩
   ·have hb1 : (v == k) = false:=by simpa using he
    have HE:=hide he;clear he;go_wp2_with fail;go_round
    case rel =>
     refine ⟨j + 1,by omega,by go_num,hide (fun t ht=>?_)⟩;by_cases htj : t < j
     ·exact HJ.out t htj
     ·obtain rfl : t = j:=by omega
      rw [HV.out];exact fun e=>HE.out (by injection e)
    case measure=>simp [intOf]; omega
  ·obtain rfl : j = n:=by omega
   have HS:=hide (stepOf_none (l:=l) (k:=k) (fun h=>by
    obtain ⟨t,ht,e⟩:=List.getElem_of_mem h
    exact HJ.out t (by have:=HN.out; omega) (by rw [List.getElem?_eq_getElem ht,e])))
   go_wp2_with fail;go_ret;exact ⟨ret_int HS.out.symm,rfl⟩
end Go.Proofs.YtibpmogmeoappabGreat
