/- Walk: plan.look.span. -/
import Derived.Test.YtibpmogmeoappabGreatJPlnA
import Derived.Test.YtibpmogmeoappabGreatJMem
import Derived.Deep.RegionHeld3
import Derived.Test.YtibpmogmeoappabGreatJFrmM
import Derived.Test.YtibpmogmeoappabGreatJImgJ
import Derived.Test.YtibpmogmeoappabGreatJPlain
import Derived.Deep.DeepCutAuto
import Derived.BigQuiet
set_option maxRecDepth 100000
set_option maxHeartbeats 8000000
namespace Go.Proofs.YtibpmogmeoappabGreat
open Go.RowKit
def spnCells (s : Spn) : List Value:=[.int .i64 s.First,.int .i64 s.Last]
def SpnAt (w : World) (xb n : Nat) (F : Nat → Spn) : Prop:=∀ t,t < n → w.cell? ⟨xb,t * 2,none⟩ = some (.int .i64 (F t).First) ∧ w.cell? ⟨xb,t * 2 + 1,none⟩ = some (.int .i64 (F t).Last) ∧ w.frozen? ⟨xb,t * 2 + 1,none⟩ = false
theorem SpnAt.set {w : World} {xb n : Nat} {F : Nat → Spn} (h : SpnAt w xb n F) {j : Nat} (hj : j < n) (i : Int) : SpnAt (w.setCell ⟨xb,j * 2 + 1,none⟩ (.int .i64 i)) xb n (fun t=>if t = j then ⟨(F t).First,i⟩ else F t):=by
 intro t ht;obtain ⟨h1,h2,h3⟩:=h t ht;have e1 : (if t = j then (⟨(F t).First,i⟩ : Spn) else F t).First = (F t).First:=by split <;> rfl
 have e2 : (if t = j then (⟨(F t).First,i⟩ : Spn) else F t).Last = if t = j then i else (F t).Last:=by split <;> rfl
 show _ = some (Value.int .i64 (if t = j then (⟨(F t).First,i⟩ : Spn) else F t).First) ∧ _ = some (Value.int .i64 (if t = j then (⟨(F t).First,i⟩ : Spn) else F t).Last) ∧ _
 rw [e1,e2];refine ⟨?_,?_,by rw [World.frozen?_setCell]; exact h3⟩
 ·rw [World.cell?_setCell_other _ _ _ _ (by intro e; injection e with _ e _; omega),h1]
 ·by_cases e : t = j
  ·subst e
   rw [World.cell?_setCell_same' _ _ _ (by rw [h2]; rfl),if_pos rfl]
  ·rw [World.cell?_setCell_other _ _ _ _ (by intro e; injection e with _ e _; omega),h2,if_neg e]
theorem SpnAt.congr {w : World} {xb n : Nat} {F G : Nat → Spn} (h : SpnAt w xb n F) (e : ∀ t,t < n → F t = G t) : SpnAt w xb n G:=fun t ht=>by rw [← e t ht]; exact h t ht
def Spns (w : World) (A : Option Addr) (L : List Spn) : Prop:=Cells w A (L.flatMap spnCells)
theorem grown_far {a b c : World} {m r : Option Nat} (h : a.grownBy b m) (k : b.grownBy c r) (hr : ∀ x,r = some x → a.heap.size ≤ x) : a.grownBy c m :=
 ⟨k.os.trans h.os,k.tape.trans h.tape,k.output.trans h.output,Nat.le_trans h.size k.size,fun i hi hn=>(k.block i (Nat.lt_of_lt_of_le hi h.size) (fun e=>by have:=hr i e.symm; omega)).trans (h.block i hi hn)⟩
theorem grown_put (w : World) (a : Addr) (u : Value) : w.grownBy (w.setCell a u) (some a.block) :=
 ⟨rfl,rfl,rfl,by simp [World.setCell],fun k _ hk=>Below.heap_setCell w a u k (fun e=>hk (by rw [e]))⟩
theorem grown_of_below {a w : World} {m : Option Nat} (h : Below a.heap.size a w) : a.grownBy w m:=⟨h.os,h.tape,h.output,h.size,fun k hk _=>h.block k hk⟩
theorem grown_ne {a w : World} {g b o : Nat} {v : Value} (hg : a.grownBy w (some g)) (hb : b ≠ g) (hc : a.cell? ⟨b,o,none⟩ = some v) : w.cell? ⟨b,o,none⟩ = some v :=
 (World.cell?_of_block (a:=⟨b,o,none⟩) (hg.block b (World.block_lt_of_cell? a ⟨b,o,none⟩ hc) (by simpa using hb))).trans hc
theorem cells_ne {a w : World} {g : Nat} (hg : a.grownBy w (some g)) {A : Option Addr} {cs : List Value} (hC : Cells a A cs) (hA : 0 < cs.length → ∀ x,A = some x → x.block ≠ g) : Cells w A cs:=by
 intro i hi;obtain ⟨b,o,e,hlt,hc⟩:=hC i hi;exact ⟨b,o,e,Nat.lt_of_lt_of_le hlt hg.size,grown_ne hg (hA (by omega) _ e) hc⟩
theorem imap_ne {a w : World} {g mb : Nat} {l : List (Int × Value)} (hg : a.grownBy w (some g)) (hM : IMap a mb l) (hne : mb ≠ g) : IMap w mb l:=by
 have hl:=hM.lt;obtain ⟨es,clk,h,h2⟩:=hM;exact ⟨es,clk,(hg.block mb hl (by simpa using hne)).trans h,h2⟩
theorem look_ne_map {w : World} {g mb : Nat} {l : List (Int × Value)} {t : TypeId} {cs : List Value} (h : Blk w g t cs) (hM : IMap w mb l) : mb ≠ g:=by
 rintro rfl;obtain ⟨es,clk,hm,_⟩:=hM;unfold Blk at h;rw [h] at hm;cases hm
theorem Tryz.infoSpn : (Tryz.prog.info? 109).map (fun i=>(i.zero,i.size,i.bytes)) = some (some (.agg #[.int .i64 0,.int .i64 0]),2,16):=by kernel_rfl
theorem spn_one (s : Spn) : ∀ u ∈ spnCells s,u.oneCell' = true:=by
 intro u hu;simp only [spnCells,List.mem_cons,List.not_mem_nil,or_false] at hu;rcases hu with rfl | rfl <;> rfl
def span0 (p : Pln) (k : Nat) : Spn:=⟨stepOf p.Order k,stepOf p.Order k⟩
def spans0 (p : Pln) (k : Nat) : List Value:=(List.range k).flatMap fun t=>spnCells (span0 p t)
theorem spans0_succ (p : Pln) (k : Nat) : spans0 p (k + 1) = spans0 p k ++ spnCells (span0 p k):=by simp [spans0,List.range_succ]
theorem spn_of_own {w : World} {base n c : Nat} {A : Option Addr} {F : Nat → Spn} (h : Own w base 109 2 A n c ((List.range n).flatMap fun t=>spnCells (F t))) (hn : 1 ≤ n) : ∃ xb,A = some ⟨xb,0,none⟩ ∧ base ≤ xb ∧ xb < w.heap.size ∧ SpnAt w xb n F:=by
 rcases h.2 with ⟨hv,hn0⟩ | ⟨xb,cap,cur,hv,hb,hg,-⟩
 ·omega
 ·have hA : A = some ⟨xb,0,none⟩:=by injection hv
  subst hA;refine ⟨xb,rfl,hb,(Array.getElem?_eq_some_iff.1 hg).1,fun t ht=>?_⟩;obtain ⟨b,o,e,-,hc⟩:=cells_flat (k:=2) (f:=fun t=>spnCells (F t)) (fun x=>rfl) h.cells (i:=t) (by simpa using ht) (by omega);cases e;have h0:=hc 0 (by omega);have h1:=hc 1 (by omega);simp only [List.getElem_range,Nat.zero_add,Nat.add_zero] at h0 h1;exact ⟨h0,h1,by simp [World.frozen?,hg]⟩
theorem spns_of_at {w : World} {xb n : Nat} {F : Nat → Spn} (h : SpnAt w xb n F) (hlt : xb < w.heap.size) : Spns w (some ⟨xb,0,none⟩) ((List.range n).map F):=by
 have hlen : ∀ m,((List.range m).map F).flatMap spnCells = (List.range m).flatMap fun t=>spnCells (F t):=fun m=>by rw [List.flatMap_map]
 have hl : ∀ m,((List.range m).flatMap fun t=>spnCells (F t)).length = m * 2:=by
  intro m
  induction m with
  | zero=>rfl
  | succ m ih=>rw [List.range_succ,List.flatMap_append,List.length_append,ih]; simp [spnCells]; omega
 have hget : ∀ m t j,t < m → j < 2 → ((List.range m).flatMap fun t=>spnCells (F t))[t * 2 + j]? = (spnCells (F t))[j]?:=by
  intro m
  induction m with
  | zero=>intro t j ht; omega
  | succ m ih =>
    intro t j ht hj;rw [List.range_succ,List.flatMap_append];by_cases e : t < m
    ·rw [List.getElem?_append_left (by rw [hl]; omega)]
     exact ih t j e hj
    ·obtain rfl : t = m:=by omega
     rw [List.getElem?_append_right (by rw [hl]; omega),hl,show t * 2 + j - t * 2 = j by omega];simp
 intro i hi;unfold Spns at *;rw [hlen] at hi ⊢;rw [hl] at hi;obtain ⟨t,j,rfl,hj⟩ : ∃ t j,i = t * 2 + j ∧ j < 2:=⟨i / 2,i % 2,by omega,by omega⟩;have ht : t < n:=by omega
 obtain ⟨h1,h2,-⟩:=h t ht;refine ⟨xb,0,rfl,hlt,?_⟩;rw [List.getD_eq_getElem?_getD,hget n t j ht hj,Nat.zero_add];rcases (show j = 0 ∨ j = 1 by omega) with rfl | rfl
 ·rw [Nat.add_zero,h1]; rfl
 ·rw [h2]; rfl
theorem span_any (f : Frm) (p : Pln) (g mb : Nat) (OA : Option Addr) (on oc : Nat) (QA : Option Addr) (qn qc : Nat) (KA : Option Addr) (kn kc : Nat) (SA : Option Addr) (sn sc : Nat) (RA : Option Addr) (rn rc : Nat) (w : World)
 (hf : FrmOk f) (hL : LookBox w g OA on oc QA qn qc (frLast f) KA kn kc SA sn sc RA rn rc mb none 0 0) (hO : Ints w OA p.Order) (hOg : 0 < p.Order.length → ∀ x,OA = some x → x.block ≠ g) (hon : p.Order.length = on) (hol : on ≤ 9223372036854775807)
 (hkn : f.P.length = kn) (hR : IntRowsN w RA (frSources f) (g + 1)) (hrn : f.P.length = rn) (ho : OrdTo f p p.Order.length) (hM : IMap w mb (stepsM p p.Order.length)) :
 Calls Tryz.prog 68 #[.pointer (some ⟨g,0,none⟩)] w fun e w'=>∃ (XA : Option Addr) (xc : Nat),e = .returned (.tuple #[]) ∧ LookBox w' g OA on oc QA qn qc (frLast f) KA kn kc SA sn sc RA rn rc mb XA kn xc ∧ Spns w' XA (spansTo f p kn) ∧ w.grownBy w' (some g):=by
 have h12:=hf.many;have hk12 : 1 ≤ kn ∧ kn ≤ 12:=by omega
 have HF:=hide hf;have HL:=hide hL;have HO:=hide hO;have HOG:=hide hOg;have HR:=hide hR;have HM:=hide hM;have HON:=hide hon;have HKN:=hide hkn;have HRN:=hide hrn;have HOT:=hide ho;have HNE:=hide (look_ne_map hL hM);obtain ⟨x,q0,q1,q2,q3,q4,q5,q6,q7⟩:=look_at hL;obtain ⟨i0,hi0,hz0,hz1,hz2⟩:=info_parts Tryz.infoSpn;clear hf hL hO hOg hR hM hon hkn hrn ho;go_enter Tryz.func68,Tryz.ntmps68
 go_wp2_with fail;clear x q0 q1 q2 q3 q4 q5 q6 q7;go_loopw [2,3,4,5,15] (fun _ _ _ _ i wr=>∃ (k : Nat) (XA : Option Addr) (xc : Nat),k ≤ kn ∧ i = .int .i64 k ∧ Hid (LookBox wr g OA on oc QA qn qc (frLast f) KA kn kc SA sn sc RA rn rc mb XA k xc) ∧ Hid (Own wr w.heap.size 109 2 XA k xc (spans0 p k)) ∧ Hid (w.grownBy wr (some g))) (fun _ _ _ _ i _=>kn - (intOf i).toNat)
 case atStart=>exact ⟨0,none,0,Nat.zero_le _,rfl,HL,hide (Own.nil _ _ _ _),hide (grown_rfl _ _)⟩
 case round =>
  obtain ⟨k,XA,xc,hk,rfl,HLR,HOW,HG⟩:=hrel;obtain ⟨x,q0,q1,q2,q3,q4,q5,q6,q7⟩:=look_at HLR.out;by_cases hlt : k < kn
  ·have hk0 : (0 : Int) ≤ (k : Int):=by omega
   have hk1 : (k : Int) < (kn : Int):=by omega
   have hMr:=imap_ne HG.out HM.out HNE.out;have hMx:=hMr.keep ((Below.refl _ _).alloc (Nat.le_refl _) (.cells #[.int .i64 (-1),.int .i64 (-1)] 109));by_cases hd : DoneTo p p.Order.length (k : Int)
   ·obtain ⟨mm,hmm,he,hlk⟩:=run_done HOT.out hMx (k : Int) hd
    have hs : (mm : Int) = stepOf p.Order k:=by rw [← HOT.out.step hmm,he]
    have HS:=hide hs;clear hd he hs hMr hMx;go_wp2_with fail;have hbx : Blk (wr.alloc (.cells #[.int .i64 (mm : Int),.int .i64 (mm : Int)] 109)) wr.heap.size 109 (spnCells ⟨(mm : Int),(mm : Int)⟩):=Blk.new wr _ _;have hax : Below wr.heap.size wr (wr.alloc (.cells #[.int .i64 (mm : Int),.int .i64 (mm : Int)] 109)):=(Below.refl _ _).alloc (Nat.le_refl _) _;have z0 : (wr.alloc (.cells #[.int .i64 (mm : Int),.int .i64 (mm : Int)] 109)).cell? ⟨wr.heap.size,0,none⟩ = some (.int .i64 (mm : Int)):=by rw [hbx.cell]; rfl
    have z1 : (wr.alloc (.cells #[.int .i64 (mm : Int),.int .i64 (mm : Int)] 109)).cell? ⟨wr.heap.size,1,none⟩ = some (.int .i64 (mm : Int)):=by rw [hbx.cell]; rfl
    have z7:=keepC hax q7;have hgw:=HL.out.lt;have hgs:=HG.out.size;have HSS:=hide (show ∀ x1 x2 : World,Below x1.heap.size x1 x2 → (fun w' : World=>w'.cell? ⟨g,7,none⟩ = some (.slice XA k xc) ∧ w'.cell? ⟨wr.heap.size,0,none⟩ = some (.int .i64 (mm : Int)) ∧ w'.cell? ⟨wr.heap.size,1,none⟩ = some (.int .i64 (mm : Int))) x1 → (fun w' : World=>w'.cell? ⟨g,7,none⟩ = some (.slice XA k xc) ∧ w'.cell? ⟨wr.heap.size,0,none⟩ = some (.int .i64 (mm : Int)) ∧ w'.cell? ⟨wr.heap.size,1,none⟩ = some (.int .i64 (mm : Int))) x2 from fun _ _ hb h=>⟨keepC hb h.1,keepC hb h.2.1,keepC hb h.2.2⟩);have hS0 : (fun w' : World=>w'.cell? ⟨g,7,none⟩ = some (.slice XA k xc) ∧ w'.cell? ⟨wr.heap.size,0,none⟩ = some (.int .i64 (mm : Int)) ∧ w'.cell? ⟨wr.heap.size,1,none⟩ = some (.int .i64 (mm : Int))) (wr.alloc (.cells #[.int .i64 (mm : Int),.int .i64 (mm : Int)] 109)).drew:=⟨z7,z0,z1⟩;refine wp_region_B (fun w' : World=>w'.cell? ⟨g,7,none⟩ = some (.slice XA k xc) ∧ w'.cell? ⟨wr.heap.size,0,none⟩ = some (.int .i64 (mm : Int)) ∧ w'.cell? ⟨wr.heap.size,1,none⟩ = some (.int .i64 (mm : Int))) (fun j=>decide (j = 10)) (by kernel_rfl) ?_;refine AnyB.fr (i:=0) (.pointer (some ⟨g,0,none⟩)) rfl (by kernel_rfl) (fun w'=>?_) ?_
    ·go_simp
    try simp only [Act.put,lsa]
    refine AnyB.fr (i:=1) (.pointer (some ⟨g,0,none⟩)) rfl (by kernel_rfl) (fun w'=>?_) ?_
    ·go_simp
    try simp only [Act.put]
    refine AnyB.fr (i:=2) (.pointer (some ⟨g,0,none⟩)) rfl (by kernel_rfl) (fun w'=>?_) ?_
    ·go_simp
    try simp only [Act.put]
    refine AnyB.fr (i:=3) (.pointer (some ⟨g,7,none⟩)) rfl (by kernel_rfl) (fun w'=>?_) ?_
    ·go_simp
    try simp only [Act.put]
    refine AnyB.tk (i:=4) (.slice XA k xc) rfl (by kernel_rfl) (fun w' hS'=>?_) hS0 ?_
    ·obtain ⟨e0,e1,e2⟩:=hS'
     go_simp
    try simp only [Act.put]
    refine AnyB.tk (i:=5) (.agg #[.int .i64 (mm : Int),.int .i64 (mm : Int)]) rfl (by kernel_rfl) (fun w' hS'=>?_) hS0 ?_
    ·obtain ⟨e0,e1,e2⟩:=hS'
     go_simp
    try simp only [Act.put]
    refine AnyB.one (i:=6) (by kernel_rfl) rfl (fun K hK=>?_)
    go_simp;refine hK.out _ _ (fun _ hs=>HSS.out _ _ ((Below.refl _ _).alloc (Nat.le_refl _) _) hs) ?_;clear hK K;try simp only [Act.put,lsa,lsz,lss]
    have hb2 : Below wr.heap.size wr (((wr.alloc (.cells #[.int .i64 (mm : Int),.int .i64 (mm : Int)] 109)).alloc (.cells #[.int .i64 (mm : Int),.int .i64 (mm : Int)] 109)).drew):=(hax.alloc (by simp) _).drew;refine AnyB.one (i:=7) (by kernel_rfl) rfl (fun K hK=>?_)
    refine step_app1W _ _ (by rfl) _ _ 105 (by rfl) w.heap.size 109 i0 _ 2 16 Tryz.underlying105 hi0 hz0 hz1 hz2 rfl (by omega) XA k xc _ (spnCells ⟨(mm : Int),(mm : Int)⟩) (by rfl) (Own.keep HOW.out hb2) (by rfl) (by first | exact Blk.newE (by first | rfl | simp) | exact Blk.drew (Blk.newE (by first | rfl | simp))) rfl (spn_one _) (by omega) (by omega) (by have:=hb2.size; omega) ?_
    intro A9 c9 w9 hown9 hg9 hat9;have hl9:=Blk.grown (Blk.keep HLR.out hb2) (Own.keep HOW.out hb2) hg9 hgw;have hb9 : w.grownBy w9 (some g):=grown_far (grown_tr HG.out (grown_of_below hb2)) hg9 (fun y hy=>((Own.keep HOW.out hb2).lt hy).1);obtain ⟨y,u0,u1,u2,u3,u4,u5,u6,u7⟩:=look_at hl9;have uf:=Blk.frozen hl9 7;have HL9:=hide (hl9.set_ 7 (.slice A9 (k + 1) c9));have HO9:=hide (hown9.far (p:=⟨g,7,none⟩) hgw (.slice A9 (k + 1) c9));have HG9:=hide (grown_tr hb9 (grown_put w9 ⟨g,7,none⟩ (.slice A9 (k + 1) c9)))
    have hS9 : (fun w' : World=>w'.cell? ⟨g,7,none⟩ = some (.slice XA k xc) ∧ w'.cell? ⟨wr.heap.size,0,none⟩ = some (.int .i64 (mm : Int)) ∧ w'.cell? ⟨wr.heap.size,1,none⟩ = some (.int .i64 (mm : Int))) w9:=by
     have hw : (((wr.alloc (.cells #[.int .i64 (mm : Int),.int .i64 (mm : Int)] 109)).alloc (.cells #[.int .i64 (mm : Int),.int .i64 (mm : Int)] 109)).drew).grownBy w9 (Value.slice XA k xc).ownBlock:=hg9;have hx : Blk (((wr.alloc (.cells #[.int .i64 (mm : Int),.int .i64 (mm : Int)] 109)).alloc (.cells #[.int .i64 (mm : Int),.int .i64 (mm : Int)] 109)).drew) wr.heap.size 109 (spnCells ⟨(mm : Int),(mm : Int)⟩):=(hbx.alloc _).drew;have hx9 : Blk w9 wr.heap.size 109 (spnCells ⟨(mm : Int),(mm : Int)⟩):=(hw.block wr.heap.size hx.lt (fun e=>by have:=(HOW.out.lt e.symm).2; omega)).trans hx;exact ⟨u7,by rw [hx9.cell]; rfl,by rw [hx9.cell]; rfl⟩
    try go_simp
    refine hK.out _ _ (fun _ _=>hS9) ?_;clear hK K hl9 hb9 hS9 hown9 hg9 hat9;try simp only [Act.put,lsa,lsz,lss]
    refine AnyB.fr (i:=8) (.pointer (some ⟨g,0,none⟩)) rfl (by kernel_rfl) (fun w'=>?_) ?_
    ·go_simp
    try simp only [Act.put,lsa]
    refine AnyB.fr (i:=9) (.pointer (some ⟨g,7,none⟩)) rfl (by kernel_rfl) (fun w'=>?_) ?_
    ·go_simp
    try simp only [Act.put]
    refine AnyB.one (i:=10) (by kernel_rfl) rfl (fun K hK=>?_)
    go_simp;refine hK.out _ _ (fun h _=>by cases h) ?_;clear hK K;try simp only [Act.put,lsa,lsz,lss]
    refine AnyB.done (by kernel_rfl) ?_;go_wp2_with fail;go_roundw
    case rel=>exact ⟨k + 1,A9,c9,by omega,by go_num,HL9,hide (by rw [spans0_succ]; show Own _ _ _ _ _ _ _ (spans0 p k ++ spnCells ⟨stepOf p.Order k,stepOf p.Order k⟩); rw [← HS.out]; exact HO9.out),HG9⟩
    case measure=>simp [intOf]; omega
   ·have hlk:=run_undone hMx (k : Int) hd
    have hs : (-1 : Int) = stepOf p.Order k:=(stepOf_neg (fun h=>hd (doneTo_all.2 h))).symm;have HS:=hide hs;clear hd hs hMr hMx;go_wp2_with fail;have hbx : Blk (wr.alloc (.cells #[.int .i64 (-1),.int .i64 (-1)] 109)) wr.heap.size 109 (spnCells ⟨(-1),(-1)⟩):=Blk.new wr _ _;have hax : Below wr.heap.size wr (wr.alloc (.cells #[.int .i64 (-1),.int .i64 (-1)] 109)):=(Below.refl _ _).alloc (Nat.le_refl _) _;have z0 : (wr.alloc (.cells #[.int .i64 (-1),.int .i64 (-1)] 109)).cell? ⟨wr.heap.size,0,none⟩ = some (.int .i64 (-1)):=by rw [hbx.cell]; rfl
    have z1 : (wr.alloc (.cells #[.int .i64 (-1),.int .i64 (-1)] 109)).cell? ⟨wr.heap.size,1,none⟩ = some (.int .i64 (-1)):=by rw [hbx.cell]; rfl
    have z7:=keepC hax q7;have hgw:=HL.out.lt;have hgs:=HG.out.size;have HSS:=hide (show ∀ x1 x2 : World,Below x1.heap.size x1 x2 → (fun w' : World=>w'.cell? ⟨g,7,none⟩ = some (.slice XA k xc) ∧ w'.cell? ⟨wr.heap.size,0,none⟩ = some (.int .i64 (-1)) ∧ w'.cell? ⟨wr.heap.size,1,none⟩ = some (.int .i64 (-1))) x1 → (fun w' : World=>w'.cell? ⟨g,7,none⟩ = some (.slice XA k xc) ∧ w'.cell? ⟨wr.heap.size,0,none⟩ = some (.int .i64 (-1)) ∧ w'.cell? ⟨wr.heap.size,1,none⟩ = some (.int .i64 (-1))) x2 from fun _ _ hb h=>⟨keepC hb h.1,keepC hb h.2.1,keepC hb h.2.2⟩);have hS0 : (fun w' : World=>w'.cell? ⟨g,7,none⟩ = some (.slice XA k xc) ∧ w'.cell? ⟨wr.heap.size,0,none⟩ = some (.int .i64 (-1)) ∧ w'.cell? ⟨wr.heap.size,1,none⟩ = some (.int .i64 (-1))) (wr.alloc (.cells #[.int .i64 (-1),.int .i64 (-1)] 109)).drew:=⟨z7,z0,z1⟩;refine wp_region_B (fun w' : World=>w'.cell? ⟨g,7,none⟩ = some (.slice XA k xc) ∧ w'.cell? ⟨wr.heap.size,0,none⟩ = some (.int .i64 (-1)) ∧ w'.cell? ⟨wr.heap.size,1,none⟩ = some (.int .i64 (-1))) (fun j=>decide (j = 10)) (by kernel_rfl) ?_;refine AnyB.fr (i:=0) (.pointer (some ⟨g,0,none⟩)) rfl (by kernel_rfl) (fun w'=>?_) ?_
    ·go_simp
    try simp only [Act.put,lsa]
    refine AnyB.fr (i:=1) (.pointer (some ⟨g,0,none⟩)) rfl (by kernel_rfl) (fun w'=>?_) ?_
    ·go_simp
    try simp only [Act.put]
    refine AnyB.fr (i:=2) (.pointer (some ⟨g,0,none⟩)) rfl (by kernel_rfl) (fun w'=>?_) ?_
    ·go_simp
    try simp only [Act.put]
    refine AnyB.fr (i:=3) (.pointer (some ⟨g,7,none⟩)) rfl (by kernel_rfl) (fun w'=>?_) ?_
    ·go_simp
    try simp only [Act.put]
    refine AnyB.tk (i:=4) (.slice XA k xc) rfl (by kernel_rfl) (fun w' hS'=>?_) hS0 ?_
    ·obtain ⟨e0,e1,e2⟩:=hS'
     go_simp
    try simp only [Act.put]
    refine AnyB.tk (i:=5) (.agg #[.int .i64 (-1),.int .i64 (-1)]) rfl (by kernel_rfl) (fun w' hS'=>?_) hS0 ?_
    ·obtain ⟨e0,e1,e2⟩:=hS'
     go_simp
    try simp only [Act.put]
    refine AnyB.one (i:=6) (by kernel_rfl) rfl (fun K hK=>?_)
    go_simp;refine hK.out _ _ (fun _ hs=>HSS.out _ _ ((Below.refl _ _).alloc (Nat.le_refl _) _) hs) ?_;clear hK K;try simp only [Act.put,lsa,lsz,lss]
    have hb2 : Below wr.heap.size wr (((wr.alloc (.cells #[.int .i64 (-1),.int .i64 (-1)] 109)).alloc (.cells #[.int .i64 (-1),.int .i64 (-1)] 109)).drew):=(hax.alloc (by simp) _).drew;refine AnyB.one (i:=7) (by kernel_rfl) rfl (fun K hK=>?_)
    refine step_app1W _ _ (by rfl) _ _ 105 (by rfl) w.heap.size 109 i0 _ 2 16 Tryz.underlying105 hi0 hz0 hz1 hz2 rfl (by omega) XA k xc _ (spnCells ⟨(-1),(-1)⟩) (by rfl) (Own.keep HOW.out hb2) (by rfl) (by first | exact Blk.newE (by first | rfl | simp) | exact Blk.drew (Blk.newE (by first | rfl | simp))) rfl (spn_one _) (by omega) (by omega) (by have:=hb2.size; omega) ?_
    intro A9 c9 w9 hown9 hg9 hat9;have hl9:=Blk.grown (Blk.keep HLR.out hb2) (Own.keep HOW.out hb2) hg9 hgw;have hb9 : w.grownBy w9 (some g):=grown_far (grown_tr HG.out (grown_of_below hb2)) hg9 (fun y hy=>((Own.keep HOW.out hb2).lt hy).1);obtain ⟨y,u0,u1,u2,u3,u4,u5,u6,u7⟩:=look_at hl9;have uf:=Blk.frozen hl9 7;have HL9:=hide (hl9.set_ 7 (.slice A9 (k + 1) c9));have HO9:=hide (hown9.far (p:=⟨g,7,none⟩) hgw (.slice A9 (k + 1) c9));have HG9:=hide (grown_tr hb9 (grown_put w9 ⟨g,7,none⟩ (.slice A9 (k + 1) c9)))
    have hS9 : (fun w' : World=>w'.cell? ⟨g,7,none⟩ = some (.slice XA k xc) ∧ w'.cell? ⟨wr.heap.size,0,none⟩ = some (.int .i64 (-1)) ∧ w'.cell? ⟨wr.heap.size,1,none⟩ = some (.int .i64 (-1))) w9:=by
     have hw : (((wr.alloc (.cells #[.int .i64 (-1),.int .i64 (-1)] 109)).alloc (.cells #[.int .i64 (-1),.int .i64 (-1)] 109)).drew).grownBy w9 (Value.slice XA k xc).ownBlock:=hg9;have hx : Blk (((wr.alloc (.cells #[.int .i64 (-1),.int .i64 (-1)] 109)).alloc (.cells #[.int .i64 (-1),.int .i64 (-1)] 109)).drew) wr.heap.size 109 (spnCells ⟨(-1),(-1)⟩):=(hbx.alloc _).drew;have hx9 : Blk w9 wr.heap.size 109 (spnCells ⟨(-1),(-1)⟩):=(hw.block wr.heap.size hx.lt (fun e=>by have:=(HOW.out.lt e.symm).2; omega)).trans hx;exact ⟨u7,by rw [hx9.cell]; rfl,by rw [hx9.cell]; rfl⟩
    try go_simp
    refine hK.out _ _ (fun _ _=>hS9) ?_;clear hK K hl9 hb9 hS9 hown9 hg9 hat9;try simp only [Act.put,lsa,lsz,lss]
    refine AnyB.fr (i:=8) (.pointer (some ⟨g,0,none⟩)) rfl (by kernel_rfl) (fun w'=>?_) ?_
    ·go_simp
    try simp only [Act.put,lsa]
    refine AnyB.fr (i:=9) (.pointer (some ⟨g,7,none⟩)) rfl (by kernel_rfl) (fun w'=>?_) ?_
    ·go_simp
    try simp only [Act.put]
    refine AnyB.one (i:=10) (by kernel_rfl) rfl (fun K hK=>?_)
    go_simp;refine hK.out _ _ (fun h _=>by cases h) ?_;clear hK K;try simp only [Act.put,lsa,lsz,lss]
    refine AnyB.done (by kernel_rfl) ?_;go_wp2_with fail;go_roundw
    case rel=>exact ⟨k + 1,A9,c9,by omega,by go_num,HL9,hide (by rw [spans0_succ]; show Own _ _ _ _ _ _ _ (spans0 p k ++ spnCells ⟨stepOf p.Order k,stepOf p.Order k⟩); rw [← HS.out]; exact HO9.out),HG9⟩
    case measure=>simp [intOf]; omega
  ·obtain rfl : k = kn:=by omega
   obtain ⟨xb,hXA,hxb,hxl,hSP⟩:=spn_of_own HOW.out hk12.1;obtain rfl:=hXA;have HSP0:=hide (hSP.congr (G:=spanPart f p 0 []) (fun t _=>(spanPart_start t).symm));have hgw:=HL.out.lt;have hxg : g ≠ xb:=by omega
   clear hSP HOW;go_wp2_with fail;clear x q0 q1 q2 q3 q4 q5 q6 q7;go_loopw [6,7,9,49] (fun _ _ _ s wy=>∃ i : Nat,i ≤ on ∧ s = .int .i64 i ∧ Hid (SpnAt wy xb k (spanPart f p i [])) ∧ Hid (LookBox wy g OA on oc QA qn qc (frLast f) KA k kc SA sn sc RA rn rc mb (some ⟨xb,0,none⟩) k xc) ∧ Hid (w.grownBy wy (some g)) ∧ Hid (xb < wy.heap.size)) (fun _ _ _ s _=>on - (intOf s).toNat)
   case atStart=>exact ⟨0,Nat.zero_le _,rfl,HSP0,HLR,HG,hide hxl⟩
   case round =>
    obtain ⟨i,hi,rfl,HSI,HLY,HGY,HXL⟩:=hrel;obtain ⟨x,q0,q1,q2,q3,q4,q5,q6,q7⟩:=look_at HLY.out;by_cases hil : i < on
    ·have hi0' : (0 : Int) ≤ (i : Int):=by omega
     have hi1' : (i : Int) < (on : Int):=by omega
     obtain ⟨ob,oo,hOA,hob,co⟩:=(cells_ne HGY.out HO.out (fun h=>HOG.out (by simpa using h))) i (by rw [List.length_map,HON.out]; exact hil);obtain rfl:=hOA;have hrg:=HOT.out.rng i (by rw [HON.out]; exact hil);obtain ⟨m,hm⟩ : ∃ m : Nat,p.ord i = (m : Int):=⟨(p.ord i).toNat,by omega⟩
     have ev : (p.Order.map (Value.int .i64)).getD i undef = .int .i64 (m : Int):=by
      rw [← hm,List.getD_eq_getElem?_getD,List.getElem?_map,p.ord_at (by rw [HON.out]; exact hil)];rfl
     rw [ev] at co;rw [hm] at hrg;have HMI:=hide hm;clear ev hm;have hm0 : (0 : Int) ≤ (m : Int):=by omega
     have hmk : m < k:=by have:=HKN.out; omega
     have hmr : (m : Int) < (rn : Int):=by have h1:=HKN.out; have h2:=HRN.out; omega
     have hsr:=frSources_at HF.out (k:=m) (by rw [HKN.out]; exact hmk);obtain ⟨rb,ro,B,sm,sd,hRA,hrb0,hrb,cr0,hsm,hsI,hsn⟩:=HR.out m (srcs f m) hsr;have cr:=grown_ne HGY.out (show rb ≠ g by omega) cr0;obtain rfl:=hRA;have hs2 : sm ≤ 2:=by rw [← hsm]; exact srcs_le f m
     have HSM:=hide hsm;have hsI' : srcs f m ≠ [] → ∀ a : World,w.grownBy a (some g) → Ints a B (srcs f m):=fun hne a ha=>cells_ne ha hsI (fun _ y hy=>by have:=hsn hne y hy; omega);have HSN:=hide hsI';clear hsr hsm hsI hsn hsI' hrb0 cr0;go_wp2_with fail;clear x q0 q1 q2 q3 q4 q5 q6 q7;go_loopw [9,62] (fun _ s wz=>∃ j : Nat,j ≤ sm ∧ s = .int .i64 j ∧ Hid (SpnAt wz xb k (spanPart f p i ((srcs f m).take j))) ∧ Hid (LookBox wz g (some ⟨ob,oo,none⟩) on oc QA qn qc (frLast f) KA k kc SA sn sc (some ⟨rb,ro,none⟩) rn rc mb (some ⟨xb,0,none⟩) k xc) ∧ Hid (w.grownBy wz (some g)) ∧ Hid (xb < wz.heap.size)) (fun _ s _=>sm - (intOf s).toNat)
     case atStart=>exact ⟨0,Nat.zero_le _,rfl,hide (by simpa using HSI.out),HLY,HGY,HXL⟩
     case round =>
      obtain ⟨j,hj,rfl,HSJ,HLZ,HGZ,HXZ⟩:=hrel;obtain ⟨x,q0,q1,q2,q3,q4,q5,q6,q7⟩:=look_at HLZ.out;by_cases hjl : j < sm
      ·have hj0 : (0 : Int) ≤ (j : Int):=by omega
       have hj1 : (j : Int) < (sm : Int):=by omega
       have hjs : j < (srcs f m).length:=by rw [HSM.out]; exact hjl
       obtain ⟨sb,so,hB,hsb,cs⟩:=HSN.out (fun e=>by rw [e] at hjs; simp at hjs) _ HGZ.out j (by rw [List.length_map]; exact hjs);obtain rfl:=hB;obtain ⟨m',hm',hs⟩:=HOT.out.srcs i (by rw [HON.out]; exact hil) (srcs f m)[j] (by rw [HMI.out,Int.toNat_natCast]; exact List.getElem_mem hjs);have hrs:=HOT.out.rng m' (by have:=HON.out; omega);rw [hs] at hrs;obtain ⟨s,hse⟩ : ∃ s : Nat,(srcs f m)[j] = (s : Int):=⟨((srcs f m)[j]).toNat,by omega⟩
       have ev : ((srcs f m).map (Value.int .i64)).getD j undef = .int .i64 (s : Int):=by
        rw [← hse,List.getD_eq_getElem?_getD,List.getElem?_map,List.getElem?_eq_getElem hjs];rfl
       rw [ev] at cs;rw [hse] at hrs;have HSE:=hide hse;have hs0 : (0 : Int) ≤ (s : Int):=by omega
       have hsk : s < k:=by have:=HKN.out; omega
       have hsk' : (s : Int) < (k : Int):=by omega
       obtain ⟨-,c1,c2⟩:=HSJ.out s hsk;have HSet:=hide (HSJ.out.set hsk (i : Int));have hxz:=HXZ.out;clear ev hs hrs hse hm';go_wp2_with fail;go_roundw
       case rel =>
        refine ⟨j + 1,by omega,by go_num,hide (HSet.out.congr (fun t ht=>?_)),hide (HLZ.out.far (p:=⟨xb,s * 2 + 1,none⟩) (by simp only; omega) _),hide (grown_far HGZ.out (grown_put _ ⟨xb,s * 2 + 1,none⟩ _) (fun y hy=>by cases hy; exact hxb)),hide (by simpa [World.setCell] using hxz)⟩;rw [List.take_add_one,List.getElem?_eq_getElem hjs,HSE.out]
        show _ = spanPart f p i (List.take j (srcs f m) ++ [(s : Int)]) t
        rw [spanPart_snoc];by_cases e : t = s
        ·rw [if_pos e,if_pos (by omega)]
        ·rw [if_neg e,if_neg (by omega)]
       case measure=>simp [intOf]; omega
      ·obtain rfl : j = sm:=by omega
       go_wp2_with fail;go_roundw
       case rel =>
        refine ⟨i + 1,by omega,by go_num,hide (HSJ.out.congr (fun t _=>?_)),HLZ,HGZ,HXZ⟩;rw [List.take_of_length_le (by rw [HSM.out]; exact Nat.le_refl _),← spanPart_next,HMI.out,Int.toNat_natCast]
       case measure=>simp [intOf]; omega
    ·obtain rfl : i = on:=by omega
     have hla:=HF.out.last;obtain ⟨la,hla2⟩ : ∃ la : Nat,frLast f = (la : Int):=⟨(frLast f).toNat,by omega⟩;rw [hla2] at hla q2;have HLA:=hide hla2;have hla0 : (0 : Int) ≤ (la : Int):=by omega
     have hlk : la < k:=by have:=HKN.out; omega
     have hlk' : (la : Int) < (k : Int):=by omega
     obtain ⟨-,c1,c2⟩:=HSI.out la hlk;clear hla hla2;have hgx : (⟨g,7,none⟩ : Addr).block ≠ (⟨xb,la * 2 + 1,none⟩ : Addr).block:=hxg
     have HFIN:=hide ((HSI.out.set hlk ((i : Int) - 1)).congr (G:=spanOf f p) (fun t ht=>by
      rw [spanOf_part,HLA.out];by_cases e : t = la
      ·subst e
       rw [if_pos rfl,if_pos rfl,HON.out]
      ·rw [if_neg e,if_neg (by omega),HON.out]))
     have HLF:=hide (HLY.out.far (p:=⟨xb,la * 2 + 1,none⟩) hxg (.int .i64 ((i : Int) - 1)));have HGF:=hide (grown_far HGY.out (grown_put _ ⟨xb,la * 2 + 1,none⟩ (.int .i64 ((i : Int) - 1))) (fun y hy=>by cases hy; exact hxb));have hxl2:=HXL.out;go_wp2_with fail
     go_region_held3 (fun w'=>w'.cell? ⟨g,0,none⟩ = some (.slice OA i oc) ∧ w'.cell? ⟨g,2,none⟩ = some (.int .i64 (la : Int)) ∧ w'.cell? ⟨g,7,none⟩ = some (.slice (some ⟨xb,0,none⟩) k xc))
      (first | exact ⟨q0,q2,q7⟩ | exact ⟨cellFar q0 hgx,cellFar q2 hgx,cellFar q7 hgx⟩) (fail)
     have hwr : IntKind.i64.wrap ((i : Int) - 1) = (i : Int) - 1:=IntWalk.i64_in _ (by omega);go_wp2_with fail;rw [hwr];refine bodyPost_end (v:=.tuple #[]) ?_ rfl ?_
     ·simp [results,Tryz.results68,go_sem]
     exact ⟨some ⟨xb,0,none⟩,xc,rfl,HLF.out.drew,(spns_of_at HFIN.out (by simpa [World.setCell] using hxl2)).keep (Below.refl _ _).drew,grown_tr HGF.out (grown_of_below (Below.refl _ _).drew)⟩
end Go.Proofs.YtibpmogmeoappabGreat
namespace Go.Proofs.YtibpmogmeoappabGreat
open Go.RowKit
def Looked (w : World) (g : Nat) (f : Frm) (p : Pln) (OA : Option Addr) (on oc : Nat) (QA : Option Addr) (qn qc : Nat) : Prop :=
 ∃ (la : Int) (KA : Option Addr) (kn kc : Nat) (SA : Option Addr) (sc : Nat) (RA : Option Addr) (rn rc mb : Nat) (XA : Option Addr) (xc : Nat),LookBox w g OA on oc QA qn qc la KA kn kc SA f.P.length sc RA rn rc mb XA f.P.length xc ∧ Ints w SA ((List.range f.P.length).map (areaOf f)) ∧ Spns w XA (spansTo f p f.P.length)
theorem Looked.keep {w w' : World} {g : Nat} {f : Frm} {p : Pln} {OA : Option Addr} {on oc : Nat} {QA : Option Addr} {qn qc : Nat} (h : Looked w g f p OA on oc QA qn qc) (hb : Below w.heap.size w w') : Looked w' g f p OA on oc QA qn qc:=by
 obtain ⟨la,KA,kn,kc,SA,sc,RA,rn,rc,mb,XA,xc,h1,h2,h3⟩:=h;exact ⟨la,KA,kn,kc,SA,sc,RA,rn,rc,mb,XA,xc,h1.keep hb,h2.keep hb,Cells.keep h3 hb⟩
def RetLook (w : World) (f : Frm) (p : Pln) (OA : Option Addr) (on oc : Nat) (QA : Option Addr) (qn qc : Nat) (e : Ending) (w' : World) : Prop :=
 Below w.heap.size w w' ∧ ((frErr f ≠ 0 ∧ e = .returned (.tuple #[.pointer none,.int .i64 (frErr f)])) ∨ (frErr f = 0 ∧ ∃ g : Nat,(¬ InOrder f p ∧ e = .returned (.tuple #[.pointer (some ⟨g,0,none⟩),.int .i64 1])) ∨ (InOrder f p ∧ e = .returned (.tuple #[.pointer (some ⟨g,0,none⟩),.int .i64 0]) ∧ Looked w' g f p OA on oc QA qn qc)))
theorem cells_set {w : World} {A : Option Addr} {cs : List Value} (hC : Cells w A cs) {q : Addr} (hA : 0 < cs.length → ∀ x,A = some x → x.block ≠ q.block) (u : Value) : Cells (w.setCell q u) A cs :=
 fun i hi=>by
  obtain ⟨b,o,e,hlt,hc⟩:=hC i hi;refine ⟨b,o,e,by simpa [World.setCell] using hlt,?_⟩;rw [World.cell?_setCell_other _ _ _ _ (fun h=>hA (by omega) _ e (by rw [h]))];exact hc
theorem rowsN_ne {a w : World} {g : Nat} (hg : a.grownBy w (some g)) {A : Option Addr} {L : List (List Int)} {base : Nat} (hB : g < base) (h : IntRowsN a A L base) : IntRowsN w A L base:=fun i x hi=>by
 obtain ⟨b,o,B,m,d,h1,h0,h2,h3,h4,h5,h6⟩:=h i x hi;exact ⟨b,o,B,m,d,h1,h0,Nat.lt_of_lt_of_le h2 hg.size,grown_ne hg (by omega) h3,h4,cells_ne hg h5 (fun hl y hy=>by have:=h6 (by intro e; rw [e] at hl; simp at hl) y hy; omega),h6⟩
theorem look_bool {w : World} {g : Nat} {t : TypeId} {OA : Option Addr} {on oc : Nat} {QA : Option Addr} {qn qc : Nat} {la : Int} {KA : Option Addr} {kn kc : Nat} {SA : Option Addr} {sn sc : Nat} {RA : Option Addr} {rn rc : Nat} {mb : Nat} {XA : Option Addr} {xn xc b o : Nat} {v : Bool}
 (h : Blk w g t (lookCells OA on oc QA qn qc la KA kn kc SA sn sc RA rn rc mb XA xn xc)) (hc : w.cell? ⟨b,o,none⟩ = some (.bool v)) : b ≠ g:=by
 rintro rfl;rw [h.cell] at hc;rcases o with _ | _ | _ | _ | _ | _ | _ | _ | o <;> simp [lookCells] at hc
theorem look_two {w : World} {g : Nat} {t : TypeId} {OA : Option Addr} {on oc : Nat} {QA : Option Addr} {qn qc : Nat} {la : Int} {KA : Option Addr} {kn kc : Nat} {SA : Option Addr} {sn sc : Nat} {RA : Option Addr} {rn rc : Nat} {mb : Nat} {XA : Option Addr} {xn xc b o : Nat} {v u : Int}
 (h : Blk w g t (lookCells OA on oc QA qn qc la KA kn kc SA sn sc RA rn rc mb XA xn xc)) (hc : w.cell? ⟨b,o,none⟩ = some (.int .i64 v)) (hd : w.cell? ⟨b,o + 1,none⟩ = some (.int .i64 u)) : b ≠ g:=by
 rintro rfl;rw [h.cell] at hc hd;rcases o with _ | _ | _ | _ | _ | _ | _ | _ | o <;> simp [lookCells] at hc hd
theorem size_at {f : Frm} (h : FrmOk f) {k : Nat} (hk : k < f.P.length) : szAt (frSizes f) k = frSize f k:=by
 unfold szAt frSizes frAll;rw [if_pos (frErr_zero.2 h),List.getD_eq_getElem?_getD,List.getElem?_map,Int.toNat_natCast,List.getElem?_range hk];rfl
theorem sizes_len {f : Frm} (h : FrmOk f) : (frSizes f).length = f.P.length:=by
 unfold frSizes frAll;rw [if_pos (frErr_zero.2 h)];simp
theorem begin_no (W H S O : Int) (PA : Option Addr) (n c : Nat) (ps : List Pas) (OA : Option Addr) (on oc : Nat) (QA : Option Addr) (qn qc : Nat) (p : Pln) (w : World) (hn : ps.length = n) (hP : Passes w PA ps) (he : frErr ⟨W,H,S,O,ps⟩ ≠ 0) :
 Calls Tryz.prog 41 #[.agg #[.int .i64 W,.int .i64 H,.int .i64 S,.int .i64 O,.slice PA n c],.agg #[.slice OA on oc,.slice QA qn qc]] w (RetLook w ⟨W,H,S,O,ps⟩ p OA on oc QA qn qc):=by
 have hb:=((Below.refl w.heap.size w).alloc (Nat.le_refl _) (.cells #[.int .i64 W,.int .i64 H,.int .i64 S,.int .i64 O,.slice PA n c] 24)).alloc (by simp) (.cells #[.slice OA on oc,.slice QA qn qc] 27);have HBX:=hide ((show FrmBox (w.alloc (.cells #[.int .i64 W,.int .i64 H,.int .i64 S,.int .i64 O,.slice PA n c] 24)) w.heap.size W H S O PA n c from Blk.new w 24 (frmCells W H S O PA n c)).alloc (.cells #[.slice OA on oc,.slice QA qn qc] 27));have HLA:=hide (last_any W H S O PA n c ps _ hn (hP.keep hb));have HB0:=hide hb;obtain ⟨f,hf⟩ : ∃ f : Frm,f = ⟨W,H,S,O,ps⟩:=⟨_,rfl⟩;rw [← hf] at HLA he ⊢;obtain ⟨z,hz⟩ : ∃ z,z = frErr f:=⟨_,rfl⟩;rw [← hz] at HLA;have HE:=hide he;rw [← hz] at he;have HZ:=hide hz;have hz2 : (z == 0) = false:=by simpa using he
 clear he hn hP hb hz hf;obtain ⟨x,q0,q1,q2,q3,q4⟩:=FrmBox.cells HBX.out;go_enter Tryz.func41,Tryz.ntmps41
 go_wp2_with fail;refine (unhide HLA).mono ?_;rintro e w1 ⟨rfl,hE1⟩;have HB1:=hide (HB0.out.trans (hE1.mono HB0.out.size));clear HB0 HBX hE1 x q0 q1 q2 q3 q4;go_wp2_with fail;go_ret2;exact ⟨HB1.out,.inl ⟨HE.out,by rw [HZ.out]; rfl⟩⟩
theorem begin_ok (W H S O : Int) (PA : Option Addr) (n c : Nat) (ps : List Pas) (OA : Option Addr) (on oc : Nat) (QA : Option Addr) (qn qc : Nat) (p : Pln) (w : World) (hn : ps.length = n) (hP : Passes w PA ps)
 (hO : Ints w OA p.Order) (hon : p.Order.length = on) (hol : on ≤ 9223372036854775807) (hQ : Ints w QA p.Places) (hqn : p.Places.length = qn) (hql : qn ≤ 9223372036854775807) (hok : FrmOk ⟨W,H,S,O,ps⟩) :
 Calls Tryz.prog 41 #[.agg #[.int .i64 W,.int .i64 H,.int .i64 S,.int .i64 O,.slice PA n c],.agg #[.slice OA on oc,.slice QA qn qc]] w (RetLook w ⟨W,H,S,O,ps⟩ p OA on oc QA qn qc):=by
 have he:=frErr_zero.2 hok;have hb:=((Below.refl w.heap.size w).alloc (Nat.le_refl _) (.cells #[.int .i64 W,.int .i64 H,.int .i64 S,.int .i64 O,.slice PA n c] 24)).alloc (by simp) (.cells #[.slice OA on oc,.slice QA qn qc] 27);have HBX:=hide ((show FrmBox (w.alloc (.cells #[.int .i64 W,.int .i64 H,.int .i64 S,.int .i64 O,.slice PA n c] 24)) w.heap.size W H S O PA n c from Blk.new w 24 (frmCells W H S O PA n c)).alloc (.cells #[.slice OA on oc,.slice QA qn qc] 27));have HPX:=hide (show Blk ((w.alloc (.cells #[.int .i64 W,.int .i64 H,.int .i64 S,.int .i64 O,.slice PA n c] 24)).alloc (.cells #[.slice OA on oc,.slice QA qn qc] 27)) (w.heap.size + 1) 27 [.slice OA on oc,.slice QA qn qc] from Blk.newE (by simp));have hLA:=fun (W0 : World) (h1 : Passes W0 PA ps)=>last_any W H S O PA n c ps W0 hn h1;have hKE:=fun (W0 : World) (h1 : Passes W0 PA ps)=>kept_any W H S O PA n c ps W0 hn h1;have hSO:=fun (W0 : World) (h1 : Passes W0 PA ps)=>sources_new W H S O PA n c ps W0 hn h1;have hSI:=fun (W0 : World) (h1 : Passes W0 PA ps)=>sizes_any W H S O PA n c ps W0 hn h1;have HP:=hide (Keeps.passes (hP.keep hb));have HB0:=hide hb;have HO:=hide (Keeps.ints hO);have HQ:=hide (Keeps.ints hQ);have HON:=hide hon;have HQN:=hide hqn;obtain ⟨f,hf⟩ : ∃ f : Frm,f = ⟨W,H,S,O,ps⟩:=⟨_,rfl⟩;have HFN:=hide (show f.P.length = n from by rw [hf]; exact hn);rw [← hf] at hok hLA hKE hSO hSI he ⊢;rw [he,show lastAns f = frLast f from if_pos he] at hLA;rw [he,show keptAns f = keptL f from if_pos he] at hKE;rw [he] at hSO hSI;have HLA:=hide hLA;have HKE:=hide hKE;have HSO:=hide hSO;have HSI:=hide hSI;have HOK:=hide hok;have HE:=hide he;have h12:=hok.many;rw [HFN.out] at h12;have HSL:=hide (sizes_len hok);clear hLA hKE hSO hSI hn hP hO hQ hon hqn hb hf hok he;obtain ⟨x,q0,q1,q2,q3,q4⟩:=FrmBox.cells HBX.out;obtain ⟨i0,hi0,hz0,hz1,hz2⟩:=info_parts Tryz.info3;go_enter Tryz.func41,Tryz.ntmps41
 go_wp2_with fail;refine ((unhide HLA) _ HP.out.now).mono ?_;rintro e w1 ⟨rfl,hE1⟩;have HB1:=hide (HB0.out.trans (hE1.mono HB0.out.size));have HX1:=hide (Keeps.blk (Blk.keep HBX.out hE1));have HP1:=hide (HP.out.move hE1);have HQ1:=hide (Blk.keep HPX.out hE1);have r0 : w1.cell? ⟨w.heap.size + 1,0,none⟩ = some (.slice OA on oc):=by rw [HQ1.out.cell]; rfl
 have r1 : w1.cell? ⟨w.heap.size + 1,1,none⟩ = some (.slice QA qn qc):=by rw [HQ1.out.cell]; rfl
 have r2:=HQ1.out.lt;clear HB0 HBX HPX HP hE1 x q0 q1 q2 q3 q4 HLA;have hmx : Below w1.heap.size w1 ((w1.alloc (.map #[] 0)).alloc (.cells #[.slice OA on oc,.slice QA qn qc,.int .i64 (frLast f),.slice none 0 0,.slice none 0 0,.slice none 0 0,.map (some w1.heap.size),.slice none 0 0] 122)):=((Below.refl _ _).alloc (Nat.le_refl _) _).alloc (by simp) _;obtain ⟨x,q0,q1,q2,q3,q4⟩:=FrmBox.cells (show FrmBox _ _ W H S O PA n c from HX1.out.later _ hmx);have HM3:=hide ((imap_new w1).keep ((Below.refl _ _).alloc (Nat.le_refl _) (.cells #[.slice OA on oc,.slice QA qn qc,.int .i64 (frLast f),.slice none 0 0,.slice none 0 0,.slice none 0 0,.map (some w1.heap.size),.slice none 0 0] 122)));have HL3:=hide (show LookBox ((w1.alloc (.map #[] 0)).alloc (.cells #[.slice OA on oc,.slice QA qn qc,.int .i64 (frLast f),.slice none 0 0,.slice none 0 0,.slice none 0 0,.map (some w1.heap.size),.slice none 0 0] 122)) (w1.heap.size + 1) OA on oc QA qn qc (frLast f) none 0 0 none 0 0 none 0 0 w1.heap.size none 0 0 from Blk.newE (cs:=lookCells OA on oc QA qn qc (frLast f) none 0 0 none 0 0 none 0 0 w1.heap.size none 0 0) (by simp));have HMX:=hide hmx;have hmm:=@run_makeMap Tryz.prog;clear hmx;go_wp2_with fail;refine ((unhide HKE) _ (HP1.out.later _ HMX.out)).mono ?_;rintro e w4 ⟨KA,kn,kc,rfl,hkn,hKC,hE4⟩;obtain rfl : n = kn:=by rw [keptL_len,HFN.out] at hkn; exact hkn
 have hX4:=HMX.out.trans (hE4.mono HMX.out.size);have hL4:=Blk.keep HL3.out hE4;have hM4:=HM3.out.keep hE4;have hs4:=hL4.lt;have hKL : 0 < ((keptL f).map Value.bool).length:=by rw [List.length_map,hkn]; omega
 have hKne : ∀ x,KA = some x → x.block ≠ w1.heap.size + 1:=fun x hx=>by
  obtain ⟨b,o,e,-,hc⟩:=hKC 0 hKL;rw [hx] at e;cases e
  have hv : ∃ v,((keptL f).map Value.bool).getD 0 undef = Value.bool v:=by
   rw [List.getD_eq_getElem?_getD,List.getElem?_eq_getElem hKL,List.getElem_map];exact ⟨_,rfl⟩
  obtain ⟨v,hv⟩:=hv;rw [hv] at hc;exact look_bool hL4 hc
 obtain ⟨y,u0,u1,u2,u3,u4,u5,u6,u7⟩:=look_at hL4;have uf:=Blk.frozen hL4 3;have hX5:=hX4.setCell (p:=⟨w1.heap.size + 1,3,none⟩) (Nat.le_succ _) (.slice KA n kc);have HX5:=hide hX5;have HL5:=hide (hL4.set_ 3 (.slice KA n kc));have HM5:=hide (hM4.far (p:=⟨w1.heap.size + 1,3,none⟩) (by simp only; omega) (.slice KA n kc));have HK5:=hide (cells_set hKC (q:=⟨w1.heap.size + 1,3,none⟩) (fun _ x hx=>hKne x hx) (.slice KA n kc));have hs5 : (w4.setCell ⟨w1.heap.size + 1,3,none⟩ (.slice KA n kc)).heap.size = w4.heap.size:=by simp [World.setCell]
 have HKNE:=hide hKne;clear x q0 q1 q2 q3 q4 hX4 hL4 hM4 hKL hKne hKC hE4 hX5 HMX HL3 HM3 hkn hmm HKE r0 r1 r2 HQ1;obtain ⟨x,q0,q1,q2,q3,q4⟩:=FrmBox.cells (show FrmBox _ _ W H S O PA n c from HX1.out.later _ HX5.out);go_wp2_with fail;refine ((unhide HSO) _ (HP1.out.later _ HX5.out)).mono ?_;rintro e w6 ⟨RA,rn,rc,rfl,hrn,hRI,hE6⟩
 obtain rfl : n = rn:=by
  rw [← hrn,show frSources f = srcsTo f f.P.length from if_pos HE.out];simp [srcsTo,HFN.out]
 have hX6:=HX5.out.trans (hE6.mono HX5.out.size);have hL6:=Blk.keep HL5.out hE6;have hM6:=HM5.out.keep hE6;have hK6:=HK5.out.keep hE6;obtain ⟨y',v0,v1,v2,v3,v4,v5,v6,v7⟩:=look_at hL6;have vf:=Blk.frozen hL6 5;have HX7:=hide (hX6.setCell (p:=⟨w1.heap.size + 1,5,none⟩) (Nat.le_succ _) (.slice RA n rc));have HL7:=hide (hL6.set_ 5 (.slice RA n rc));have HM7:=hide (hM6.far (p:=⟨w1.heap.size + 1,5,none⟩) (by simp only; omega) (.slice RA n rc));have HK7:=hide (cells_set hK6 (q:=⟨w1.heap.size + 1,5,none⟩) (fun _ x hx=>HKNE.out x hx) (.slice RA n rc));have HR7:=hide (rowsN_ne (grown_put w6 ⟨w1.heap.size + 1,5,none⟩ (.slice RA n rc)) (base:=w1.heap.size + 2) (by simp only; omega) (hRI.mono (by rw [hs5]; omega)));clear x q0 q1 q2 q3 q4 y u0 u1 u2 u3 u4 u5 u6 u7 uf HX5 HL5 HM5 HK5 hs5 hX6 hL6 hM6 hK6 hE6 hRI hrn HSO;obtain ⟨x,q0,q1,q2,q3,q4⟩:=FrmBox.cells (show FrmBox _ _ W H S O PA n c from HX1.out.later _ HX7.out);go_wp2_with fail;refine ((unhide HSI) _ (HP1.out.later _ HX7.out)).mono ?_;rintro e w8 ⟨ZA,zn,zc,rfl,hzn,hZ,hE8⟩;obtain rfl : n = zn:=by rw [← hzn,HSL.out]; exact HFN.out.symm
 have hL8:=Blk.keep HL7.out hE8;have HZ:=hide (show Cells w8 ZA ((frSizes f).flatMap szCells) from hZ)
 have HZNE:=hide (show ∀ x,ZA = some x → x.block ≠ w1.heap.size + 1 from fun x hx=>by
  obtain ⟨b,o,e,-,h0,h1⟩:=Sizes.at_ hZ (i:=0) (by rw [hzn]; omega);rw [hx] at e;cases e
  exact look_two hL8 (by simpa using h0) (by simpa using h1))
 have HX8:=hide (HX7.out.trans (hE8.mono HX7.out.size));have HL8:=hide hL8;have HM8:=hide (HM7.out.keep hE8);have HK8:=hide (HK7.out.keep hE8);have HR8:=hide (HR7.out.keep hE8);have hs8:=hL8.lt;clear x q0 q1 q2 q3 q4 y' v0 v1 v2 v3 v4 v5 v6 v7 vf HX7 HL7 HM7 HK7 HR7 hE8 hZ hzn hL8 HSI;go_wp2_with fail;go_loopw [12,49] (fun _ i wr=>∃ (k : Nat) (SA : Option Addr) (sc : Nat),k ≤ n ∧ i = .int .i64 k ∧ Hid (LookBox wr (w1.heap.size + 1) OA on oc QA qn qc (frLast f) KA n kc SA k sc RA n rc w1.heap.size none 0 0) ∧ Hid (Own wr w8.heap.size 3 1 SA k sc (((List.range k).map (areaOf f)).map (Value.int .i64))) ∧ Hid (w8.grownBy wr (some (w1.heap.size + 1)))) (fun _ i _=>n - (intOf i).toNat)
 case atStart=>exact ⟨0,none,0,Nat.zero_le _,rfl,HL8,hide (Own.nil _ _ _ _),hide (grown_rfl _ _)⟩
 case round =>
  obtain ⟨k,SA,sc,hk,rfl,HLR,HOW,HG⟩:=hrel;obtain ⟨x,q0,q1,q2,q3,q4,q5,q6,q7⟩:=look_at HLR.out;by_cases hlt : k < n
  ·have hk0 : (0 : Int) ≤ (k : Int):=by omega
   have hk1 : (k : Int) < (n : Int):=by omega
   have hkf : k < f.P.length:=by rw [HFN.out]; exact hlt
   obtain ⟨zb,zo,hZA,hzb,cz0,cz1⟩:=Sizes.at_ (show Sizes wr ZA (frSizes f) from cells_ne HG.out HZ.out (fun _=>HZNE.out)) (i:=k) (by rw [HSL.out]; exact hkf);obtain rfl:=hZA;rw [size_at HOK.out hkf] at cz0 cz1;have hab:=area_bd HOK.out hkf;obtain ⟨sw,hsw⟩ : ∃ sw,(frSize f k).W = sw:=⟨_,rfl⟩;obtain ⟨sh,hsh⟩ : ∃ sh,(frSize f k).H = sh:=⟨_,rfl⟩;have har : areaOf f k = sw * sh:=by unfold areaOf; rw [hsw,hsh]
   rw [har] at hab;rw [hsw] at cz0;rw [hsh] at cz1;have hwr : IntKind.i64.wrap (sw * sh) = sw * sh:=IntWalk.i64_in _ (by omega);have HAR:=hide har;clear har hsw hsh;go_wp2_with fail;have hbx : Blk (wr.alloc (.cells #[.int .i64 sw,.int .i64 sh] 53)) wr.heap.size 53 [.int .i64 sw,.int .i64 sh]:=Blk.new wr _ _;have hax : Below wr.heap.size wr (wr.alloc (.cells #[.int .i64 sw,.int .i64 sh] 53)):=(Below.refl _ _).alloc (Nat.le_refl _) _;have z0 : (wr.alloc (.cells #[.int .i64 sw,.int .i64 sh] 53)).cell? ⟨wr.heap.size,0,none⟩ = some (.int .i64 sw):=by rw [hbx.cell]; rfl
   have z1 : (wr.alloc (.cells #[.int .i64 sw,.int .i64 sh] 53)).cell? ⟨wr.heap.size,1,none⟩ = some (.int .i64 sh):=by rw [hbx.cell]; rfl
   have z7:=keepC hax q4;have hgs:=HG.out.size;have HSS:=hide (show ∀ x1 x2 : World,Below x1.heap.size x1 x2 → (fun w' : World=>w'.cell? ⟨w1.heap.size + 1,4,none⟩ = some (.slice SA k sc) ∧ w'.cell? ⟨wr.heap.size,0,none⟩ = some (.int .i64 sw) ∧ w'.cell? ⟨wr.heap.size,1,none⟩ = some (.int .i64 sh)) x1 → (fun w' : World=>w'.cell? ⟨w1.heap.size + 1,4,none⟩ = some (.slice SA k sc) ∧ w'.cell? ⟨wr.heap.size,0,none⟩ = some (.int .i64 sw) ∧ w'.cell? ⟨wr.heap.size,1,none⟩ = some (.int .i64 sh)) x2 from fun _ _ hb h=>⟨keepC hb h.1,keepC hb h.2.1,keepC hb h.2.2⟩);have hS0 : (fun w' : World=>w'.cell? ⟨w1.heap.size + 1,4,none⟩ = some (.slice SA k sc) ∧ w'.cell? ⟨wr.heap.size,0,none⟩ = some (.int .i64 sw) ∧ w'.cell? ⟨wr.heap.size,1,none⟩ = some (.int .i64 sh)) (wr.alloc (.cells #[.int .i64 sw,.int .i64 sh] 53)).drew:=⟨z7,z0,z1⟩;refine wp_region_B (fun w' : World=>w'.cell? ⟨w1.heap.size + 1,4,none⟩ = some (.slice SA k sc) ∧ w'.cell? ⟨wr.heap.size,0,none⟩ = some (.int .i64 sw) ∧ w'.cell? ⟨wr.heap.size,1,none⟩ = some (.int .i64 sh)) (fun j=>decide (j = 14)) (by kernel_rfl) ?_;refine AnyB.fr (i:=0) (.pointer (some ⟨w1.heap.size + 1,0,none⟩)) rfl (by kernel_rfl) (fun w'=>?_) ?_
   ·go_simp
   try simp only [Act.put,lsa]
   refine AnyB.fr (i:=1) (.pointer (some ⟨w1.heap.size + 1,0,none⟩)) rfl (by kernel_rfl) (fun w'=>?_) ?_
   ·go_simp
   try simp only [Act.put]
   refine AnyB.fr (i:=2) (.pointer (some ⟨w1.heap.size + 1,0,none⟩)) rfl (by kernel_rfl) (fun w'=>?_) ?_
   ·go_simp
   try simp only [Act.put]
   refine AnyB.fr (i:=3) (.pointer (some ⟨w1.heap.size + 1,4,none⟩)) rfl (by kernel_rfl) (fun w'=>?_) ?_
   ·go_simp
   try simp only [Act.put]
   refine AnyB.tk (i:=4) (.slice SA k sc) rfl (by kernel_rfl) (fun w' hS'=>?_) hS0 ?_
   ·obtain ⟨e0,e1,e2⟩:=hS'
    go_simp
   try simp only [Act.put]
   refine AnyB.fr (i:=5) (.pointer (some ⟨wr.heap.size,0,none⟩)) rfl (by kernel_rfl) (fun w'=>?_) ?_
   ·go_simp
   try simp only [Act.put]
   refine AnyB.tk (i:=6) (.int .i64 sw) rfl (by kernel_rfl) (fun w' hS'=>?_) hS0 ?_
   ·obtain ⟨e0,e1,e2⟩:=hS'
    go_simp
   try simp only [Act.put]
   refine AnyB.fr (i:=7) (.pointer (some ⟨wr.heap.size,1,none⟩)) rfl (by kernel_rfl) (fun w'=>?_) ?_
   ·go_simp
   try simp only [Act.put]
   refine AnyB.tk (i:=8) (.int .i64 sh) rfl (by kernel_rfl) (fun w' hS'=>?_) hS0 ?_
   ·obtain ⟨e0,e1,e2⟩:=hS'
    go_simp
   try simp only [Act.put]
   refine AnyB.fr (i:=9) (.int .i64 (sw * sh)) rfl (by kernel_rfl) (fun w'=>?_) ?_
   ·go_simp
   try simp only [Act.put]
   refine AnyB.one (i:=10) (by kernel_rfl) rfl (fun K hK=>?_)
   go_simp;refine hK.out _ _ (fun _ hs=>HSS.out _ _ ((Below.refl _ _).alloc (Nat.le_refl _) _) hs) ?_;clear hK K;try simp only [Act.put,lsa,lsz,lss]
   have hb2 : Below wr.heap.size wr (((wr.alloc (.cells #[.int .i64 sw,.int .i64 sh] 53)).alloc (.cells #[.int .i64 (sw * sh)] 3)).drew):=(hax.alloc (by simp) _).drew;refine AnyB.one (i:=11) (by kernel_rfl) rfl (fun K hK=>?_)
   refine step_app1W _ _ (by rfl) _ _ 25 (by rfl) w8.heap.size 3 i0 _ 1 8 Tryz.underlying25 hi0 hz0 hz1 hz2 rfl (by omega) SA k sc _ [.int .i64 (sw * sh)] (by rfl) (Own.keep HOW.out hb2) (by rfl) (by first | exact Blk.newE (by first | rfl | simp) | exact Blk.drew (Blk.newE (by first | rfl | simp))) rfl (by intro u hu; simp at hu; subst hu; rfl) (by omega) (by omega) (by have:=hb2.size; omega) ?_
   intro A9 c9 w9 hown9 hg9 hat9;have hl9:=Blk.grown (Blk.keep HLR.out hb2) (Own.keep HOW.out hb2) hg9 hs8;have hb9 : w8.grownBy w9 (some (w1.heap.size + 1)):=grown_far (grown_tr HG.out (grown_of_below hb2)) hg9 (fun y hy=>((Own.keep HOW.out hb2).lt hy).1);obtain ⟨y,u0,u1,u2,u3,u4,u5,u6,u7⟩:=look_at hl9;have uf:=Blk.frozen hl9 4;have HL9:=hide (hl9.set_ 4 (.slice A9 (k + 1) c9));have HO9:=hide (hown9.far (p:=⟨w1.heap.size + 1,4,none⟩) hs8 (.slice A9 (k + 1) c9));have HG9:=hide (grown_tr hb9 (grown_put w9 ⟨w1.heap.size + 1,4,none⟩ (.slice A9 (k + 1) c9)))
   have hS9 : (fun w' : World=>w'.cell? ⟨w1.heap.size + 1,4,none⟩ = some (.slice SA k sc) ∧ w'.cell? ⟨wr.heap.size,0,none⟩ = some (.int .i64 sw) ∧ w'.cell? ⟨wr.heap.size,1,none⟩ = some (.int .i64 sh)) w9:=by
    have hx : Blk (((wr.alloc (.cells #[.int .i64 sw,.int .i64 sh] 53)).alloc (.cells #[.int .i64 (sw * sh)] 3)).drew) wr.heap.size 53 [.int .i64 sw,.int .i64 sh]:=(hbx.alloc _).drew;have hx9 : Blk w9 wr.heap.size 53 [.int .i64 sw,.int .i64 sh]:=(hg9.block wr.heap.size hx.lt (fun e=>by have:=(HOW.out.lt e.symm).2; omega)).trans hx;exact ⟨u4,by rw [hx9.cell]; rfl,by rw [hx9.cell]; rfl⟩
   try go_simp
   refine hK.out _ _ (fun _ _=>hS9) ?_;clear hK K hl9 hb9 hS9 hown9 hg9 hat9;try simp only [Act.put,lsa,lsz,lss]
   refine AnyB.fr (i:=12) (.pointer (some ⟨w1.heap.size + 1,0,none⟩)) rfl (by kernel_rfl) (fun w'=>?_) ?_
   ·go_simp
   try simp only [Act.put,lsa]
   refine AnyB.fr (i:=13) (.pointer (some ⟨w1.heap.size + 1,4,none⟩)) rfl (by kernel_rfl) (fun w'=>?_) ?_
   ·go_simp
   try simp only [Act.put]
   refine AnyB.one (i:=14) (by kernel_rfl) rfl (fun K hK=>?_)
   go_simp;refine hK.out _ _ (fun h _=>by cases h) ?_;clear hK K;try simp only [Act.put,lsa,lsz,lss]
   refine AnyB.done (by kernel_rfl) ?_;go_wp2_with fail;go_roundw
   case rel=>exact ⟨k + 1,A9,c9,by omega,by go_num,HL9,hide (by rw [List.range_succ,List.map_append,List.map_append]; show Own _ _ _ _ _ _ _ (_ ++ [Value.int .i64 (areaOf f k)]); rw [HAR.out]; exact HO9.out),HG9⟩
   case measure=>simp [intOf]; omega
  ·obtain rfl : k = n:=by omega
   have hwl:=HB1.out.size;have hx8:=HX8.out.size;have hmg : w1.heap.size ≠ w1.heap.size + 1:=by omega
   have hBr : Below w.heap.size w wr:=(HB1.out.trans (HX8.out.mono hwl)).grown HG.out (by omega) (fun y e=>by cases e; omega);have hOr:=HO.out.later _ hBr;have hQr:=HQ.out.later _ hBr;have hKr:=cells_ne HG.out HK8.out (fun _=>HKNE.out);have hRr:=rowsN_ne HG.out (base:=w1.heap.size + 2) (by omega) HR8.out;have hMr:=imap_ne HG.out HM8.out hmg
   have hOg : 0 < p.Order.length → ∀ x,OA = some x → x.block ≠ w1.heap.size + 1:=fun hl x hx=>by
    obtain ⟨b,o,e,hlt,-⟩:=HO.out.now 0 (by simpa using hl);rw [hx] at e;cases e;simp only;omega
   have hSr:=HOW.out.cells;have hSn:=HOW.out.new;have HBr:=hide hBr;have HOR:=hide (Keeps.ints hOr);have HQR:=hide (Keeps.ints hQr);have HRR:=hide hRr;have HMR:=hide hMr;have HOG:=hide hOg;have HSR:=hide hSr;have HSNE:=hide (show ∀ x,SA = some x → x.block ≠ w1.heap.size + 1 from fun x hx=>by have:=hSn x hx; omega);have HOD:=hide (order_any f p (w1.heap.size + 1) w1.heap.size OA on oc QA qn qc (frLast f) KA k kc SA k sc RA k rc none 0 0 wr HOK.out HLR.out hOr HON.out hol hKr HFN.out hRr.rows HFN.out hMr);clear hBr hOr hQr hKr hRr hMr hOg hSr hSn x q0 q1 q2 q3 q4 q5 q6 q7;go_wp2_with fail;refine (unhide HOD).mono ?_;rintro e w9 ⟨b,rfl,hb,hm,hg9⟩;have hb9 : Below w.heap.size w w9:=HBr.out.grown hg9 (by have:=HBr.out.size; omega) (fun y e=>by cases e; omega);have HB9:=hide hb9;have HBO:=hide hb
   cases b with
   | false =>
     clear hb hm hg9 hb9;go_wp2_with fail;go_ret2;exact ⟨HB9.out,.inr ⟨HE.out,w1.heap.size + 1,.inl ⟨(fun h=>by have:=HBO.out.2 (inOrder_iff.1 h).1; cases this),rfl⟩⟩⟩
   | true =>
     have hoo:=hb.1 rfl;have HOT:=hide hoo.1;have HMO:=hide (hm rfl);have HL9:=hide (grown_blk hg9 HMR.out HLR.out);have HO9:=hide (Keeps.ints (grown_cells hg9 HMR.out HOR.out.now));have HQ9:=hide (Keeps.ints (grown_cells hg9 HMR.out HQR.out.now));have HR9:=hide (rowsN_ne hg9 (base:=w1.heap.size + 2) (by omega) HRR.out);have HS9:=hide (grown_cells hg9 HMR.out HSR.out);have HPD:=hide (places_any f p (w1.heap.size + 1) w1.heap.size OA on oc QA qn qc (frLast f) KA k kc SA k sc RA k rc none 0 0 w9 HFN.out (by omega) HL9.out HQ9.out.now HQN.out hql HOT.out HMO.out);clear hb hm hg9 hb9 hoo;go_wp2_with fail;refine (unhide HPD).mono ?_;rintro e w10 ⟨b,rfl,hb,hE10⟩;have HB10:=hide (HB9.out.trans (hE10.mono HB9.out.size));have HBP:=hide hb
     cases b with
     | false =>
       clear hb hE10;go_wp2_with fail;go_ret2;exact ⟨HB10.out,.inr ⟨HE.out,w1.heap.size + 1,.inl ⟨(fun h=>by have:=HBP.out.2 (inOrder_iff.1 h).2; cases this),rfl⟩⟩⟩
     | true =>
       have HIN:=hide (inOrder_iff.2 ⟨(by first | exact HBO.out.1 rfl | exact HBO.out.1 trivial),(by first | exact hb.1 rfl | exact hb.1 trivial)⟩)
       have HS10:=hide (HS9.out.keep hE10);have HSP:=hide (span_any f p (w1.heap.size + 1) w1.heap.size OA on oc QA qn qc KA k kc SA k sc RA k rc w10 HOK.out (HL9.out.keep hE10) (HO9.out.later _ hE10) HOG.out HON.out hol HFN.out (HR9.out.keep hE10) HFN.out HOT.out (HMO.out.keep hE10));clear hb hE10;go_wp2_with fail;refine (unhide HSP).mono ?_;rintro e w11 ⟨XA,xc,rfl,hLf,hXf,hgf⟩;have HB11:=hide (HB10.out.grown hgf (by have:=HB10.out.size; omega) (fun y e=>by cases e; omega));have HLF:=hide hLf;have HXF:=hide hXf;have HSF:=hide (cells_ne hgf HS10.out (fun _=>HSNE.out));clear hLf hXf hgf;go_wp2_with fail;go_ret2;refine ⟨HB11.out,.inr ⟨HE.out,w1.heap.size + 1,.inr ⟨HIN.out,rfl,frLast f,KA,k,kc,SA,sc,RA,k,rc,w1.heap.size,XA,xc,?_,?_,?_⟩⟩⟩
       ·rw [HFN.out]; exact HLF.out
       ·rw [HFN.out]; exact HSF.out
       ·rw [HFN.out]; exact HXF.out
end Go.Proofs.YtibpmogmeoappabGreat
namespace Go.Proofs.YtibpmogmeoappabGreat
open Go.RowKit
theorem spns_at {w : World} {A : Option Addr} {f : Frm} {p : Pln} {n k : Nat} (h : Spns w A (spansTo f p n)) (hk : k < n) : ∃ b o,A = some ⟨b,o,none⟩ ∧ b < w.heap.size ∧ w.cell? ⟨b,o + k * 2,none⟩ = some (.int .i64 (spanOf f p k).First) ∧ w.cell? ⟨b,o + k * 2 + 1,none⟩ = some (.int .i64 (spanOf f p k).Last):=by
 obtain ⟨b,o,e,hlt,hc⟩:=cells_flat (k:=2) (f:=spnCells) (fun x=>rfl) h (i:=k) (by simpa [spansTo] using hk) (by omega);have h0:=hc 0 (by omega);have h1:=hc 1 (by omega);have e0 : (spansTo f p n)[k]'(by simpa [spansTo] using hk) = spanOf f p k:=by simp [spansTo]
 rw [e0] at h0 h1;exact ⟨b,o,e,hlt,h0,h1⟩
theorem areas_at {w : World} {A : Option Addr} {f : Frm} {n k : Nat} (h : Ints w A ((List.range n).map (areaOf f))) (hk : k < n) : ∃ b o,A = some ⟨b,o,none⟩ ∧ b < w.heap.size ∧ w.cell? ⟨b,o + k,none⟩ = some (.int .i64 (areaOf f k)):=by
 obtain ⟨b,o,e,hlt,hc⟩:=h k (by simpa using hk);refine ⟨b,o,e,hlt,hc.trans ?_⟩;rw [List.getD_eq_getElem?_getD,List.getElem?_map,List.getElem?_map,List.getElem?_range hk];rfl
theorem ints_at {w : World} {A : Option Addr} {l : List Int} {k : Nat} (h : Ints w A l) (hk : k < l.length) : ∃ b o,A = some ⟨b,o,none⟩ ∧ b < w.heap.size ∧ w.cell? ⟨b,o + k,none⟩ = some (.int .i64 (l.getD k 0)):=by
 obtain ⟨b,o,e,hlt,hc⟩:=h k (by simpa using hk);refine ⟨b,o,e,hlt,hc.trans ?_⟩;rw [List.getD_eq_getElem?_getD,List.getElem?_map,List.getElem?_eq_getElem hk,List.getD_eq_getElem?_getD,List.getElem?_eq_getElem hk];rfl
theorem clash_any (g : Nat) (f : Frm) (p : Pln) (OA : Option Addr) (on oc : Nat) (QA : Option Addr) (qn qc : Nat) (j k : Nat) (w : World) (hf : FrmOk f) (hL : Looked w g f p OA on oc QA qn qc) (hQ : Ints w QA p.Places) (hqn : p.Places.length = qn) (hpn : qn = f.P.length)
 (hj : j < f.P.length) (hk : k < f.P.length) (hpj : 0 ≤ p.pl j ∧ p.pl j ≤ 4096) (hpk : 0 ≤ p.pl k ∧ p.pl k ≤ 4096) :
 Calls Tryz.prog 69 #[.pointer (some ⟨g,0,none⟩),.int .i64 j,.int .i64 k] w fun e w'=>e = .returned (.bool (decide (Clash f p j k))) ∧ Below w.heap.size w w':=by
 have h12:=hf.many;obtain ⟨la,KA,kn,kc,SA,sc,RA,rn,rc,mb,XA,xc,hLB,hSA,hXA⟩:=hL;have haj:=area_bd hf hj;have hak:=area_bd hf hk;obtain ⟨n,hn⟩ : ∃ n,f.P.length = n:=⟨_,rfl⟩;rw [hn] at hLB hSA hXA hj hk h12 hpn;obtain ⟨pb,po,hQA,hpb,cpj⟩:=ints_at hQ (k:=j) (by omega);obtain ⟨pb',po',e1,-,cpk⟩:=ints_at hQ (k:=k) (by omega);obtain rfl:=hQA;cases e1;obtain ⟨sb,so,hSB,hsb,csj⟩:=areas_at hSA hj;obtain ⟨sb',so',e1,-,csk⟩:=areas_at hSA hk;obtain rfl:=hSB;cases e1;obtain ⟨xb,xo,hXB,hxb,xj0,xj1⟩:=spns_at hXA hj;obtain ⟨xb',xo',e1,-,xk0,xk1⟩:=spns_at hXA hk;obtain rfl:=hXB;cases e1
 have hC : decide (Clash f p j k) = decide ((((spanOf f p j).First ≤ (spanOf f p k).Last ∧ (spanOf f p k).First ≤ (spanOf f p j).Last)) ∧ p.pl j < p.pl k + areaOf f k ∧ p.pl k < p.pl j + areaOf f j):=by
  unfold Clash meetB;simp only [decide_eq_true_eq]
 have HC:=hide hC;rw [show p.Places.getD j 0 = p.pl j from rfl] at cpj;rw [show p.Places.getD k 0 = p.pl k from rfl] at cpk;generalize hgf : (spanOf f p j).First = jf at *;generalize hgl : (spanOf f p j).Last = jl at *;generalize hhf : (spanOf f p k).First = kf at *;generalize hhl : (spanOf f p k).Last = kl at *;generalize hpjv : p.pl j = pj at *;generalize hpkv : p.pl k = pk at *;generalize haj' : areaOf f j = aj at *;generalize hak' : areaOf f k = ak at *;obtain ⟨x,q0,q1,q2,q3,q4,q5,q6,q7⟩:=look_at hLB;subst hpn;have HLB:=hide (Keeps.blk hLB);have HKS:=hide (show Keeps w (fun w'=>w'.cell? ⟨pb,po + j,none⟩ = some (.int .i64 pj) ∧ w'.cell? ⟨pb,po + k,none⟩ = some (.int .i64 pk) ∧ w'.cell? ⟨sb,so + j,none⟩ = some (.int .i64 aj) ∧ w'.cell? ⟨sb,so + k,none⟩ = some (.int .i64 ak)) from ⟨⟨cpj,cpk,csj,csk⟩,fun _ hb=>⟨keepC hb cpj,keepC hb cpk,keepC hb csj,keepC hb csk⟩⟩);have HKX:=hide (show Keeps w (fun w'=>w'.cell? ⟨g,7,none⟩ = some (.slice (some ⟨xb,xo,none⟩) qn xc) ∧ w'.cell? ⟨xb,xo + j * 2,none⟩ = some (.int .i64 jf) ∧ w'.cell? ⟨xb,xo + j * 2 + 1,none⟩ = some (.int .i64 jl) ∧ w'.cell? ⟨xb,xo + k * 2,none⟩ = some (.int .i64 kf) ∧ w'.cell? ⟨xb,xo + k * 2 + 1,none⟩ = some (.int .i64 kl)) from ⟨⟨q7,xj0,xj1,xk0,xk1⟩,fun _ hb=>⟨keepC hb q7,keepC hb xj0,keepC hb xj1,keepC hb xk0,keepC hb xk1⟩⟩);clear hLB hSA hXA hQ hC hgf hgl hhf hhl hpjv hpkv haj' hak' hn hf;have hj0 : (0 : Int) ≤ (j : Int):=by omega
 have hj1 : (j : Int) < (qn : Int):=by omega
 have hk0 : (0 : Int) ≤ (k : Int):=by omega
 have hk1 : (k : Int) < (qn : Int):=by omega
 go_enter Tryz.func69,Tryz.ntmps69
 go_upto_region 1 with fail
 go_cut [7,8] (fun s7 s8 wx=>∃ ga gb : Nat,s7 = .pointer (some ⟨ga,0,none⟩) ∧ s8 = .pointer (some ⟨gb,0,none⟩) ∧ Hid (Blk wx ga 109 [.int .i64 jf,.int .i64 jl]) ∧ Hid (Blk wx gb 109 [.int .i64 kf,.int .i64 kl]) ∧ Hid (Below w.heap.size w wx))
 case first =>
  go_region_held3 (fun w'=>w'.cell? ⟨g,7,none⟩ = some (.slice (some ⟨xb,xo,none⟩) qn xc) ∧ w'.cell? ⟨xb,xo + j * 2,none⟩ = some (.int .i64 jf) ∧ w'.cell? ⟨xb,xo + j * 2 + 1,none⟩ = some (.int .i64 jl) ∧ w'.cell? ⟨xb,xo + k * 2,none⟩ = some (.int .i64 kf) ∧ w'.cell? ⟨xb,xo + k * 2 + 1,none⟩ = some (.int .i64 kl))
   (exact HKX.out.later _ (by repeat (first | exact Below.refl _ _ | exact (Below.refl _ _).drew | with_reducible (refine Below.drew ?_) | with_reducible (refine Below.alloc ?_ (by simp) _) | with_reducible (refine Below.setCell ?_ (by simp) _)))) (fail)
  ·go_wp2_with fail
   go_meet
   exact ⟨w.heap.size,w.heap.size + 1,rfl,rfl,hide ((Blk.new w 109 [.int .i64 jf,.int .i64 jl]).alloc _).drew,hide (Blk.newE (cs:=[.int .i64 kf,.int .i64 kl]) (by simp)).drew,hide (((Below.refl _ _).alloc (Nat.le_refl _) _).alloc (by simp) _).drew⟩
  ·go_wp2_with fail
   go_meet
   exact ⟨w.heap.size + 1,w.heap.size,rfl,rfl,hide (Blk.newE (cs:=[.int .i64 jf,.int .i64 jl]) (by simp)).drew,hide ((Blk.new w 109 [.int .i64 kf,.int .i64 kl]).alloc _).drew,hide (((Below.refl _ _).alloc (Nat.le_refl _) _).alloc (by simp) _).drew⟩
 case rest =>
  obtain ⟨ga,gb,rfl,rfl,HA,HBB,HW⟩:=hcut;obtain ⟨y,u0,u1,u2,u3,u4,u5,u6,u7⟩:=look_at (HLB.out.later _ HW.out);obtain ⟨d0,d1,d2,d3⟩:=HKS.out.later _ HW.out;clear x q0 q1 q2 q3 q4 q5 q6 q7 cpj cpk csj csk xj0 xj1 xk0 xk1;go_wp2_with fail;go_quiet (fail)
  generalize hq2 : World.drewN wc _ = w2;have hb2 : Below wc.heap.size wc w2:=by rw [← hq2]; exact below_drewN (Below.refl _ _) _
  have HW2:=hide (HW.out.trans (hb2.mono HW.out.size));have hA:=HA.out.keep hb2;have hB:=HBB.out.keep hb2;clear hq2 hb2 y u0 u1 u2 u3 u4 u5 u6 u7 d0 d1 d2 d3;obtain ⟨y,u0,u1,u2,u3,u4,u5,u6,u7⟩:=look_at (HLB.out.later _ HW2.out);obtain ⟨d0,d1,d2,d3⟩:=HKS.out.later _ HW2.out;have a0 : w2.cell? ⟨ga,0,none⟩ = some (.int .i64 jf):=(hA.cell 0).trans rfl;have a1 : w2.cell? ⟨ga,1,none⟩ = some (.int .i64 jl):=(hA.cell 1).trans rfl;have b0 : w2.cell? ⟨gb,0,none⟩ = some (.int .i64 kf):=(hB.cell 0).trans rfl;have b1 : w2.cell? ⟨gb,1,none⟩ = some (.int .i64 kl):=(hB.cell 1).trans rfl;have hw1 : IntKind.i64.wrap (pk + ak) = pk + ak:=IntWalk.i64_in _ (by omega);have hw2 : IntKind.i64.wrap (pj + aj) = pj + aj:=IntWalk.i64_in _ (by omega);have ga1:=hA.lt;have gb1:=hB.lt;clear hA hB HA HBB;by_cases c1 : jf ≤ kl
  ·by_cases c2 : kf ≤ jl
   ·by_cases c3 : pj < pk + ak
    ·by_cases c4 : pk < pj + aj
     ·go_wp2_with fail
      go_ret;exact ⟨ret_bool (HC.out.trans (decide_eq_true (by omega))).symm,HW2.out⟩
     ·go_wp2_with fail
      go_ret;exact ⟨ret_bool (HC.out.trans (decide_eq_false (by omega))).symm,HW2.out⟩
    ·go_wp2_with fail
     go_ret;exact ⟨ret_bool (HC.out.trans (decide_eq_false (by omega))).symm,HW2.out⟩
   ·go_wp2_with fail
    go_ret;exact ⟨ret_bool (HC.out.trans (decide_eq_false (by omega))).symm,HW2.out⟩
  ·go_wp2_with fail
   go_ret;exact ⟨ret_bool (HC.out.trans (decide_eq_false (by omega))).symm,HW2.out⟩
theorem ord_in {f : Frm} {p : Pln} (h : InOrder f p) {i : Nat} (hi : i < p.Order.length) : ∃ m : Nat,p.ord i = (m : Int) ∧ m < f.P.length ∧ 0 ≤ p.pl m ∧ p.pl m ≤ 4096:=by
 have h1:=(h.step i hi).1;refine ⟨(p.ord i).toNat,by omega,by omega,?_⟩;have h2:=(h.pass (p.ord i).toNat (by omega)).2.1 (doneTo_all.1 ⟨i,hi,by omega⟩);exact h2
theorem fitsL_any (g : Nat) (f : Frm) (p : Pln) (OA : Option Addr) (on oc : Nat) (QA : Option Addr) (qn qc : Nat) (room : Int) (w : World) (hf : FrmOk f) (hin : InOrder f p) (hL : Looked w g f p OA on oc QA qn qc) (hO : Ints w OA p.Order) (hon : p.Order.length = on) (hoc : on ≤ oc) (hQ : Ints w QA p.Places) (hqn : p.Places.length = qn) (_hr : 0 ≤ room ∧ room ≤ 4096) :
 Calls Tryz.prog 42 #[.pointer (some ⟨g,0,none⟩),.int .i64 room] w (RetTest w (Fits f p room)):=by
 have h12:=hf.many;have hl12:=hin.len;have hpn:=hin.places;have HL:=hide hL;have HLK:=hide (show Keeps w (fun W=>Looked W g f p OA on oc QA qn qc) from ⟨hL,fun _ hb=>hL.keep hb⟩);have HO:=hide (Keeps.ints hO);have HQ:=hide (Keeps.ints hQ);have HF:=hide hf;have HIN:=hide hin;have HON:=hide hon;have HQN:=hide hqn;have HPN:=hide hpn;obtain ⟨la,KA,kn,kc,SA,sc,RA,rn,rc,mb,XA,xc,hLB,hSA,-⟩:=hL;obtain ⟨n,hn⟩ : ∃ n,f.P.length = n:=⟨_,rfl⟩;rw [hn] at hLB hSA h12 hl12;have HN:=hide hn;have HLB:=hide (Keeps.blk hLB);have HSA:=hide (Keeps.ints hSA);rw [hon] at hl12;obtain ⟨x,q0,q1,q2,q3,q4,q5,q6,q7⟩:=look_at hLB;clear hf hin hO hon hQ hqn hpn hLB hSA hn;have hq : qn = n:=by rw [← HQN.out,HPN.out,HN.out]
 subst hq;go_enter Tryz.func42,Tryz.ntmps42
 go_wp2_with fail;clear x q0 q1 q2 q3 q4 q5 q6 q7;go_loopw [5,6,8,15] (fun _ _ _ s wr=>∃ i : Nat,i ≤ on ∧ s = .int .i64 i ∧ Hid (∀ t,t < i → FitsOrd f p room t) ∧ Hid (Below w.heap.size w wr)) (fun _ _ _ s _=>on - (intOf s).toNat)
 case atStart=>exact ⟨0,Nat.zero_le _,rfl,hide (fun t ht=>by omega),hide (Below.refl _ _)⟩
 case round =>
  obtain ⟨i,hi,rfl,HFI,HBW⟩:=hrel;obtain ⟨x,q0,q1,q2,q3,q4,q5,q6,q7⟩:=look_at (HLB.out.later _ HBW.out);by_cases hil : i < on
  ·have hi0 : (0 : Int) ≤ (i : Int):=by omega
   have hi1 : (i : Int) < (on : Int):=by omega
   obtain ⟨m,hm,hmf,hp0,hp1⟩:=ord_in HIN.out (i:=i) (by rw [HON.out]; exact hil);obtain ⟨ob,oo,hOA,hob,co⟩:=ints_at (HO.out.later _ HBW.out) (k:=i) (by rw [HON.out]; exact hil);obtain rfl:=hOA;rw [show p.Order.getD i 0 = p.ord i from rfl,hm] at co;have hmq : m < qn:=by rw [← HN.out]; exact hmf
   obtain ⟨pb,po,hQA,hpb,cp⟩:=ints_at (HQ.out.later _ HBW.out) (k:=m) (by rw [HQN.out]; exact hmq);obtain rfl:=hQA;rw [show p.Places.getD m 0 = p.pl m from rfl] at cp;obtain ⟨sb,so,hSB,hsb,cs⟩:=areas_at (HSA.out.later _ HBW.out) hmq;obtain rfl:=hSB;have hab:=area_bd HF.out hmf;obtain ⟨pm,hpm⟩ : ∃ v,p.pl m = v:=⟨_,rfl⟩;obtain ⟨am,ham⟩ : ∃ v,areaOf f m = v:=⟨_,rfl⟩;rw [hpm] at hp0 hp1 cp;rw [ham] at hab cs;have HMI:=hide hm;have HMF:=hide hmf;have HPM:=hide hpm;have HAM:=hide ham;have hwr : IntKind.i64.wrap (pm + am) = pm + am:=IntWalk.i64_in _ (by omega);have hm0 : (0 : Int) ≤ (m : Int):=by omega
   have hm1 : (m : Int) < (qn : Int):=by omega
   clear hm hmf hpm ham;by_cases hgt : room < pm + am
   ·go_wp2_with fail
    go_quiet (fail)
    go_wp2_with fail;go_ret;refine retTest_no (fun h=>?_) (below_drewN HBW.out _);have h1:=((fits_ord HIN.out).2 h i (by rw [HON.out]; exact hil)).1;rw [HMI.out,Int.toNat_natCast,HPM.out,HAM.out] at h1;omega
   ·have hle : pm + am ≤ room:=by omega
    go_wp2_with fail;go_quiet (fail)
    generalize hq2 : World.drewN wr _ = w2;have HB2:=hide (show Below w.heap.size w w2 from by rw [← hq2]; exact below_drewN HBW.out _);clear hq2 x q0 q1 q2 q3 q4 q5 q6 q7 co cp cs hob hpb hsb;obtain ⟨x,q0,q1,q2,q3,q4,q5,q6,q7⟩:=look_at (HLB.out.later _ HB2.out);go_wp2_with fail;clear x q0 q1 q2 q3 q4 q5 q6 q7;go_loopw [8,46] (fun _ s wz=>∃ j : Nat,j ≤ i ∧ s = .int .i64 j ∧ Hid (∀ t,t < j → ¬ Clash f p (p.ord t).toNat (p.ord i).toNat) ∧ Hid (Below w.heap.size w wz)) (fun _ s _=>i - (intOf s).toNat)
    case atStart=>exact ⟨0,Nat.zero_le _,rfl,hide (fun t ht=>by omega),HB2⟩
    case round =>
     obtain ⟨j,hj,rfl,HCJ,HBZ⟩:=hrel;by_cases hjl : j < i
     ·have hj0 : (0 : Int) ≤ (j : Int):=by omega
      have hj1 : (j : Int) < (i : Int):=by omega
      obtain ⟨s,hs,hsf,hs0,hs1⟩:=ord_in HIN.out (i:=j) (by rw [HON.out]; omega);obtain ⟨ob',oo',e1,hob,co⟩:=ints_at (HO.out.later _ HBZ.out) (k:=j) (by rw [HON.out]; omega);cases e1;rw [show p.Order.getD j 0 = p.ord j from rfl,hs] at co;have HSI:=hide hs;have HCL:=hide (clash_any g f p (some ⟨ob,oo,none⟩) on oc (some ⟨pb,po,none⟩) qn qc s m wr (HF.out) (HLK.out.later _ HBZ.out) (HQ.out.later _ HBZ.out) HQN.out HN.out.symm hsf HMF.out ⟨hs0,hs1⟩ (by rw [HPM.out]; exact ⟨hp0,hp1⟩));clear hs hsf hs0 hs1;go_wp2_with fail;refine (unhide HCL).mono ?_;rintro e w3 ⟨rfl,hE3⟩;have HB3:=hide (HBZ.out.trans (hE3.mono HBZ.out.size));clear hE3 HCL;by_cases hc : Clash f p s m
      ·rw [decide_eq_true hc]
       have HC:=hide hc;clear hc;go_wp2_with fail;go_ret;refine retTest_no (fun h=>?_) HB3.out;have h1:=((fits_ord HIN.out).2 h i (by rw [HON.out]; exact hil)).2 j hjl;rw [HMI.out,HSI.out,Int.toNat_natCast,Int.toNat_natCast] at h1;exact h1 HC.out
      ·rw [decide_eq_false hc]
       have HC:=hide hc;clear hc;go_wp2_with fail;go_roundw
       case rel =>
        refine ⟨j + 1,by omega,by go_num,hide (fun t ht=>?_),HB3⟩;by_cases htj : t < j
        ·exact HCJ.out t htj
        ·obtain rfl : t = j:=by omega
         rw [HMI.out,HSI.out,Int.toNat_natCast,Int.toNat_natCast];exact HC.out
       case measure=>simp [intOf]; omega
     ·obtain rfl : j = i:=by omega
      go_wp2_with fail;go_roundw
      case rel =>
       refine ⟨j + 1,by omega,by go_num,hide (fun t ht=>?_),HBZ⟩;by_cases htj : t < j
       ·exact HFI.out t htj
       ·obtain rfl : t = j:=by omega
        refine ⟨?_,HCJ.out⟩;rw [HMI.out,Int.toNat_natCast,HPM.out,HAM.out];exact hle
      case measure=>simp [intOf]; omega
  ·obtain rfl : i = on:=by omega
   go_wp2_with fail;go_ret;exact retTest_yes ((fits_ord HIN.out).1 (fun t ht=>HFI.out t (by rw [HON.out] at ht; exact ht))) HBW.out
end Go.Proofs.YtibpmogmeoappabGreat
