/- A slice of one-cell elements that begins anywhere in its block: what lies in front is dropped, more is appended behind. -/
import Derived.Test.YtibpmogmeoappabGreatJMem
import Derived.ArgAppend
import Derived.Deep.Upon
import Derived.Test.YtibpmogmeoappabGreatJNeedA
import Derived.Test.YtibpmogmeoappabGreatJFrmN
import Derived.Test.YtibpmogmeoappabGreatJFrmC
set_option maxRecDepth 100000
set_option maxHeartbeats 4000000
namespace Go.Proofs.YtibpmogmeoappabGreat
open Go.RowKit
def Que (w : World) (base : Nat) (A : Option Addr) (n c : Nat) (cs : List Value) : Prop :=
 ∃ b o,A = some ⟨b,o,none⟩ ∧ base ≤ b ∧ b < w.heap.size ∧ cs.length = n ∧ n ≤ c ∧ (∀ j,j < c → (w.cell? ⟨b,o + j,none⟩).isSome = true ∧ w.frozen? ⟨b,o + j,none⟩ = false) ∧ ∀ j u,cs[j]? = some u → w.cell? ⟨b,o + j,none⟩ = some u
section
variable {w w' : World} {base : Nat} {A : Option Addr} {n c : Nat} {cs : List Value}
theorem Que.len (h : Que w base A n c cs) : cs.length = n:=by obtain ⟨b,o,_,_,_,h1,_⟩:=h; exact h1
theorem Que.moved (h : Que w base A n c cs) (hk : ∀ b o,A = some ⟨b,o,none⟩ → w'.heap[b]? = w.heap[b]?) (hs : w.heap.size ≤ w'.heap.size) : Que w' base A n c cs:=by
 obtain ⟨b,o,rfl,h1,h2,h3,h4,h5,h6⟩:=h;have e:=hk b o rfl;refine ⟨b,o,rfl,h1,Nat.lt_of_lt_of_le h2 hs,h3,h4,fun j hj=>?_,fun j u hu=>?_⟩
 ·rw [World.cell?_of_block (a:=⟨b,o + j,none⟩) e,World.frozen?_of_block (a:=⟨b,o + j,none⟩) e]; exact h5 j hj
 ·rw [World.cell?_of_block (a:=⟨b,o + j,none⟩) e]; exact h6 j u hu
theorem Que.keep (h : Que w base A n c cs) (hb : Below w.heap.size w w') : Que w' base A n c cs:=by
 obtain ⟨b,o,rfl,h1,h2,-⟩:=id h;exact h.moved (fun b' o' e=>by cases e; exact hb.block _ h2) hb.size
theorem Que.alloc (h : Que w base A n c cs) (o : Obj) : Que (w.alloc o) base A n c cs:=h.keep ((Below.refl _ _).alloc (Nat.le_refl _) o)
theorem Que.far (h : Que w base A n c cs) {p : Addr} (hp : p.block < base) (u : Value) : Que (w.setCell p u) base A n c cs:=by
 obtain ⟨b,o,rfl,h1,h2,-⟩:=id h;exact h.moved (fun b' o' e=>by cases e; exact Below.heap_setCell w p u _ (by omega)) (by simp)
theorem Que.of_blk {g : Nat} {t : TypeId} (h : Blk w g t cs) (hb : base ≤ g) : Que w base (some ⟨g,0,none⟩) cs.length cs.length cs:=by
 refine ⟨g,0,rfl,hb,h.lt,rfl,Nat.le_refl _,fun j hj=>⟨?_,Blk.frozen h _⟩,fun j u hu=>?_⟩
 ·rw [Nat.zero_add,h.cell,List.getElem?_eq_getElem hj]; rfl
 ·rw [Nat.zero_add,h.cell]; exact hu
theorem Que.pop {x : Value} (h : Que w base A n c (x :: cs)) : ∃ b o,A = some ⟨b,o,none⟩ ∧ 1 ≤ n ∧ n ≤ c ∧ b < w.heap.size ∧ base ≤ b ∧ w.cell? ⟨b,o,none⟩ = some x ∧ Que w base (some ⟨b,o + 1,none⟩) (n - 1) (c - 1) cs:=by
 obtain ⟨b,o,rfl,h1,h2,h3,h4,h5,h6⟩:=h;simp only [List.length_cons] at h3;refine ⟨b,o,rfl,by omega,h4,h2,h1,h6 0 x rfl,b,o + 1,rfl,h1,h2,by omega,by omega,fun j hj=>?_,fun j u hu=>?_⟩
 ·have:=h5 (j + 1) (by omega); rwa [show o + (j + 1) = o + 1 + j from by omega] at this
 ·have:=h6 (j + 1) u (by simpa using hu); rwa [show o + (j + 1) = o + 1 + j from by omega] at this
theorem Que.any0 {b q q' : Nat} (h : Que w base (some ⟨b,q,none⟩) n 0 cs) : Que w base (some ⟨b,q',none⟩) n 0 cs:=by
 obtain ⟨b',o',e,h1,h2,h3,h4,h5,h6⟩:=h;cases e;exact ⟨b,q',rfl,h1,h2,h3,h4,fun j hj=>by omega,fun j u hu=>by have:=(List.getElem?_eq_some_iff.1 hu).1; omega⟩
theorem Below.setCells {B b : Nat} {a : World} (hB : B ≤ b) : ∀ (vs : List Value) (o : Nat) (w : World),Below B a w → Below B a (w.setCells b o vs)
 | [],_,_,h=>h
 | v :: r, o, w, h => by
   rw [World.setCells];exact Below.setCells hB r (o + 1) _ (h.setCell (p:=⟨b,o,none⟩) hB v)
end
theorem Below.grownNone {B : Nat} {a w w' : World} (h : Below B a w) (hg : w.grownBy w' none) (hB : B ≤ w.heap.size) : Below B a w':=h.grown hg hB (fun k e=>by cases e)
theorem wpList_que {P : Program} (w : World) {ops : Array Oper} {rest : List Oper} {o : Oper} {a : Act} {Q : Exit → Act → World → Prop} (hgd : o.guard = none) (s x : Operand) (t : TypeId)
 (hop : o.op = Op.call { callee:=Callee.builtin Builtin.append,args:=#[s,x],argTypes:=#[t,t] })
 (e : TypeId) (i : TypeInfo) (z : Value) (bytes : Nat) (h1 : P.underlying t = some (.slice e)) (h2 : P.info? e = some i) (h3 : i.zero = some z) (h4 : i.size = 1) (h5 : i.bytes = bytes) (h6 : z.cells.size = 1)
 (base : Nat) (A : Option Addr) (n c : Nat) (cs : List Value) (hs : a.eval s = .slice A n c) (hq : Que w base A n c cs)
 (L : Option Addr) (m d : Nat) (news : List Value) (hx : a.eval x = .slice L m d) (hn : news.length = m) (hc : Cells w L news) (h1c : ∀ u ∈ news,u.oneCell' = true)
 (b1 : n + m ≤ maxLen) (b2 : (n + m) * bytes ≤ 140737488355328) (hbase : base ≤ w.heap.size)
 (hK : ∀ A' c' w',Que w' base A' (n + m) c' (cs ++ news) → (∀ B,B ≤ base → Below B w w') → wpList P ops Q rest (a.put o.dst (.slice A' (n + m) c')) w') :
 wpList P ops Q (o :: rest) a w:=by
 obtain ⟨b,q,rfl,g1,g2,g3,g4,g5,g6⟩:=id hq;by_cases hm : m = 0
 ·subst hm
  obtain rfl : news = []:=List.eq_nil_of_length_eq_zero hn;refine wpList_plain hgd fun K hK'=>?_
  have hsrc : Src P i.size t (.slice L 0 d) 0 [] w:=by
   cases L with
   | none=>exact Src.ofNil w h1 d
   | some ad=>exact Src.ofSlice w h1 ad 0 d [] (by simp) (fun j u hu=>by simp at hu) (fun u hu=>by cases hu)
  have hrun:=run_append_nothing (P:=P) w t t o.type e i h1 h2 (some ⟨b,q,none⟩) n c g4 (.slice L 0 d) hsrc;unfold Oper.wp;simp [execOp,hop,resolve,invoke,builtin,hs,hx,hrun,Result.andThen]
  have:=hK (some ⟨b,q,none⟩) c w (by rw [List.append_nil]; exact hq) (fun B _=>Below.refl _ _);exact hK' _ _ this
 ·obtain ⟨lb,lo,rfl,-,-⟩:=hc 0 (by omega)
  have hl : ∀ j u,news[j]? = some u → w.cell? ((⟨lb,lo,none⟩ : Addr).add j) = some u:=fun j u hu=>by
   obtain ⟨b',o',e',-,hcc⟩:=hc j (List.getElem?_eq_some_iff.1 hu).1;cases e';rw [Addr.add_lit,hcc,List.getD_eq_getElem?_getD,hu]; rfl
  refine wpList_append_arg w hgd s x t hop e i z 1 bytes h1 h2 h3 h4 h5 h6 (by omega) b q n c cs hs (by omega) g6 ⟨lb,lo,none⟩ m d news hx (by omega) hl h1c ?_ b1 b2 ?_ ?_
  ·intro hr j hj
   rw [Nat.mul_one,Nat.add_assoc];exact g5 (n + j) (by omega)
  ·intro hr
   rw [Nat.mul_one];have hin:=World.cell?_setCells_in b news (q + n) w (fun j hj=>by rw [Nat.add_assoc]; exact (g5 (n + j) (by omega)).1);refine hK (some ⟨b,q,none⟩) c _ ⟨b,q,rfl,g1,?_,by simp; omega,by omega,fun j hj=>?_,fun j u hu=>?_⟩ (fun B hB=>Below.setCells (by omega) news (q + n) w (Below.refl _ _))
   ·have:=(Below.setCells (B:=0) (b:=b) (Nat.zero_le _) news (q + n) w (Below.refl 0 w)).size; omega
   ·rw [World.frozen?_setCells]
    refine ⟨?_,(g5 j hj).2⟩;by_cases hj2 : n ≤ j ∧ j < n + news.length
    ·have:=hin (j - n) (by omega)
     rw [show q + n + (j - n) = q + j from by omega] at this;rw [this]; rfl
    ·rw [World.cell?_setCells_out b news (q + n) w ⟨b,q + j,none⟩ (fun _ _=>by simp only; omega)]
     exact (g5 j hj).1
   ·by_cases hj2 : j < n
    ·rw [List.getElem?_append_left (by omega)] at hu
     rw [World.cell?_setCells_out b news (q + n) w ⟨b,q + j,none⟩ (fun _ _=>by simp only; omega)];exact g6 j u hu
    ·rw [List.getElem?_append_right (by omega),g3] at hu
     have hlt:=(List.getElem?_eq_some_iff.1 hu).1;have:=hin (j - n) hlt;rw [show q + n + (j - n) = q + j from by omega] at this;rw [this,← hu,List.getElem?_eq_getElem hlt]
  ·intro hr v' w' hown hg
   obtain ⟨hlen,⟨rfl,h0⟩ | ⟨g,cap,cur,rfl,k1,k2,k3,k4,k5,k6⟩⟩:=hown
   ·omega
   ·rw [Nat.mul_one] at k5 k6
    refine hK (some ⟨g,0,none⟩) cap w' ⟨g,0,rfl,by omega,(Array.getElem?_eq_some_iff.1 k2).1,by omega,k3,fun j hj=>?_,fun j u hu=>?_⟩ (fun B hB=>Below.grownNone (Below.refl _ _) hg (by omega))
    ·rw [Nat.zero_add]
     refine ⟨?_,by simp [World.frozen?,k2]⟩;simp only [World.cell?,k2];simp [show j < cur.size from by omega]
    ·rw [Nat.zero_add,← k6,List.getElem?_take] at *
     split at hu
     ·simpa [World.cell?,k2] using hu
     ·cases hu
end Go.Proofs.YtibpmogmeoappabGreat
namespace Go.Proofs.YtibpmogmeoappabGreat
open Go.RowKit
def RetBools (w : World) (L : List Bool) (z : Int) (e : Ending) (w' : World) : Prop :=
 ∃ (A : Option Addr) (n c : Nat),e = .returned (.tuple #[.slice A n c,.int .i64 z]) ∧ L.length = n ∧ Cells w' A (L.map Value.bool) ∧ Below w.heap.size w w'
def isOff : Value → Bool
 | .bool false=>true
 | _=>false
def lenV : Value → Nat
 | .slice _ n _=>n
 | _=>0
def offIn (w : World) (g : Nat) : Nat :=
 match w.heap[g]? with
 | some (.cells cs _ _)=>(cs.toList.filter isOff).length
 | _=>0
theorem offIn_eq {w : World} {g : Nat} {t : TypeId} {out : List Bool} (h : Blk w g t (out.map Value.bool)) : offIn w g = unmarked out:=by
 unfold offIn;rw [show w.heap[g]? = _ from h];simp only [unmarked];clear h
 induction out with
 | nil=>rfl
 | cons x xs ih =>
   rw [List.map_cons];cases x
   ·rw [List.filter_cons_of_pos (by rfl),List.filter_cons_of_pos (by rfl),List.length_cons,List.length_cons,ih]
   ·rw [List.filter_cons_of_neg (by simp [isOff]),List.filter_cons_of_neg (by simp),ih]
theorem frSources_at {f : Frm} (h : FrmOk f) {k : Nat} (hk : k < f.P.length) : (frSources f)[k]? = some (srcs f k):=by
 unfold frSources srcsTo;rw [if_pos (frErr_zero.2 h),List.getElem?_map,List.getElem?_range hk];rfl
structure KRel (f : Frm) (w2 : World) (B : Nat) (xs : List Int) (out : List Bool) (A : Option Addr) (n c : Nat) (wr : World) : Prop where
 blk : Blk wr B 4 (out.map Value.bool)
 que : Que wr (B + 1) A n c (xs.map (Value.int .i64))
 below : Below B w2 wr
 waits : Waits f out xs
 bound : 3 * unmarked out + xs.length ≤ 37
theorem srcs_le (f : Frm) (k : Nat) : (srcs f k).length ≤ 2:=by
 unfold srcs;split <;> split <;> simp
theorem ints_one (xs : List Int) : ∀ u ∈ xs.map (Value.int .i64),u.oneCell' = true:=by
 intro u hu;obtain ⟨x,-,rfl⟩:=List.mem_map.1 hu;rfl
theorem Tryz.infoBool : (Tryz.prog.info? 4).map (fun i=>(i.zero,i.size,i.bytes)) = some (some (.bool false),1,1):=by kernel_rfl
theorem run_make_bools (i : TypeInfo) (hi : Tryz.prog.info? 4 = some i) (hz : i.zero = some (.bool false)) (hs : i.size = 1) (hb : i.bytes = 1) (N : Nat) (h1 : N ≤ 65536) (w : World) :
 (Instr.makeSlice 102 (.int .i64 (N : Int)) (.int .i64 (N : Int))).run Tryz.prog w = .ok (.slice (some ⟨w.heap.size,0,none⟩) N N) (w.alloc (.cells (List.replicate N (Value.bool false)).toArray 4)):=by
 have hr:=run_make (P:=Tryz.prog) w 102 4 i (.bool false) Tryz.underlying102 hi hz .i64 .i64 (N : Int) (N : Int) (by omega) (by omega) (by rw [hb]; omega) (by omega);simp only [Int.toNat_natCast] at hr;rw [hr,hs]
 have e1 : madeCells (Value.bool false).cells (N * 1) = (List.replicate N (Value.bool false)).toArray:=by
  rw [Nat.mul_one]
  apply Array.ext'
  simp [madeCells,Value.cells,Nat.mod_one,List.map_const']
 rw [e1]
theorem kept_ok (W H S O : Int) (PA : Option Addr) (n c : Nat) (ps : List Pas) (w : World) (hn : ps.length = n) (hP : Passes w PA ps) (hf0 : FrmOk ⟨W,H,S,O,ps⟩) :
 Calls Tryz.prog 65 #[.agg #[.int .i64 W,.int .i64 H,.int .i64 S,.int .i64 O,.slice PA n c]] w (RetBools w (keptL ⟨W,H,S,O,ps⟩) 0):=by
 have hmany:=hf0.many;have hla:=hf0.last;simp only [hn] at hmany hla;have hb:=(Below.refl w.heap.size w).alloc (Nat.le_refl _) (.cells #[.int .i64 W,.int .i64 H,.int .i64 S,.int .i64 O,.slice PA n c] 24);have HBX:=hide (show FrmBox (w.alloc (.cells #[.int .i64 W,.int .i64 H,.int .i64 S,.int .i64 O,.slice PA n c] 24)) w.heap.size W H S O PA n c from Blk.new w 24 (frmCells W H S O PA n c));have he:=frErr_zero.2 hf0;have hlst : lastAns ⟨W,H,S,O,ps⟩ = frLast ⟨W,H,S,O,ps⟩:=if_pos he;have HL:=hide (fun (W0 : World) (h1 : Passes W0 PA ps)=>last_any W H S O PA n c ps W0 hn h1);have HS:=hide (fun (W0 : World) (h1 : Passes W0 PA ps)=>sources_any W H S O PA n c ps W0 hn h1);rw [hlst,he] at HL;rw [he] at HS;have HLEN:=hide (show Frm.P ⟨W,H,S,O,ps⟩ = ps from rfl);have HB0:=hide hb;have HP:=hide (Keeps.passes hP);obtain ⟨f,hf⟩ : ∃ f : Frm,f = ⟨W,H,S,O,ps⟩:=⟨_,rfl⟩;rw [← hf] at HL HS hf0 hla HLEN hlst ⊢;have hfl : f.P.length = n:=by rw [HLEN.out,hn]
 have HW0:=hide (waits_start hf0);have HOK:=hide hf0;obtain ⟨lst,hlst2⟩ : ∃ l : Nat,frLast f = (l : Int):=⟨(frLast f).toNat,by omega⟩;rw [hlst2] at HL HW0 hla;have HFL:=hide hfl;have HN:=hide hn;clear hP hf0 hb hf he hlst hlst2 hfl hn HLEN;obtain ⟨i0,hi0,hz0,hz1,hz2⟩:=info_parts Tryz.infoBool;have hmk:=fun W0=>run_make_bools i0 hi0 hz0 hz1 hz2 n (by omega) W0;clear hi0 hz0 hz1 hz2;obtain ⟨j0,hj0,jz0,jz1,jz2⟩:=info_parts Tryz.info3;go_enter Tryz.func65,Tryz.ntmps65
 obtain ⟨x,q0,q1,q2,q3,q4⟩:=FrmBox.cells HBX.out;go_wp2_with fail;refine ((unhide HL) _ (HP.out.later _ HB0.out)).mono ?_;rintro e w1 ⟨rfl,hE1⟩;have HB1:=hide (HB0.out.trans (hE1.mono HB0.out.size));have HX1:=hide (Blk.keep HBX.out hE1);clear x q0 q1 q2 q3 q4 HB0 HBX hE1 HL;obtain ⟨x,q0,q1,q2,q3,q4⟩:=FrmBox.cells HX1.out;go_wp2_with fail;refine ((unhide HS) _ (HP.out.later _ HB1.out)).mono ?_;rintro e w2 ⟨SA,sn,sc,rfl,hsn,hSI,hE2⟩;have HB2:=hide (HB1.out.trans (hE2.mono HB1.out.size));have HX2:=hide (Blk.keep HX1.out hE2)
 obtain rfl : n = sn:=by
  rw [← hsn,← HFL.out];unfold frSources srcsTo;rw [if_pos (frErr_zero.2 HOK.out)];simp
 have HSI:=hide (Keeps.intRows hSI);clear x q0 q1 q2 q3 q4 HB1 HX1 hE2 HS hSI hsn;obtain ⟨x,q0,q1,q2,q3,q4⟩:=FrmBox.cells HX2.out;have hb3:=((Below.refl w2.heap.size w2).alloc (Nat.le_refl _) (.cells (List.replicate n (Value.bool false)).toArray 4)).alloc (by simp) (.cells #[.int .i64 (lst : Int)] 3)
 have hK0 : KRel f w2 w2.heap.size [(lst : Int)] (List.replicate n false) (some ⟨w2.heap.size + 1,0,none⟩) 1 1 ((w2.alloc (.cells (List.replicate n (Value.bool false)).toArray 4)).alloc (.cells #[.int .i64 (lst : Int)] 3)) :=
  ⟨by rw [List.map_replicate]; exact (Blk.new w2 4 _).alloc _,Que.of_blk (t:=3) (cs:=[Value.int .i64 (lst : Int)]) (Blk.newE (by simp)) (Nat.le_refl _),hb3,by have:=HW0.out; rw [HFL.out] at this; exact this,by have:=unmarked_le (List.replicate n false); simp at this ⊢; omega⟩
 have HK0:=hide hK0;clear hb3 hK0;go_wp2_with fail;go_loopw [9,10] (fun s _ wr=>∃ (xs : List Int) (out : List Bool) (A : Option Addr) (k d : Nat),s = .slice A k d ∧ Hid (KRel f w2 w2.heap.size xs out A k d wr)) (fun s _ wr=>3 * offIn wr w2.heap.size + lenV s)
 case atStart=>exact ⟨_,_,_,_,_,rfl,HK0⟩
 case round =>
  obtain ⟨xs,out,A,k,d,rfl,HR⟩:=hrel
  cases xs with
  | nil =>
    obtain rfl : k = 0:=by have:=Que.len HR.out.que; simpa using this.symm
    go_wp2_with fail;go_ret2;have hdone:=Waits.done HOK.out HR.out.waits;rw [← hdone];exact ⟨_,_,_,rfl,by rw [HR.out.waits.len,HFL.out],Blk.cells HR.out.blk,HB2.out.trans (HR.out.below.mono HB2.out.size)⟩
  | cons x xs =>
    obtain ⟨b,o,rfl,hk1,hkd,hblt,hbb,hx0,hpop⟩:=Que.pop HR.out.que;obtain ⟨⟨hx1,hx2⟩,-⟩:=HR.out.waits.work x (by simp);obtain ⟨y,rfl⟩:=Int.eq_ofNat_of_zero_le hx1;rw [HFL.out] at hx2;have hy : y < n:=by omega
    have hlen:=HR.out.waits.len;rw [HFL.out] at hlen
    have hoy : wr.cell? ⟨w2.heap.size,y,none⟩ = some (.bool (out.getD y false)):=by
     rw [Blk.cell HR.out.blk,List.getElem?_map,List.getD_eq_getElem?_getD,List.getElem?_eq_getElem (by omega)]; rfl
    have hofz:=Blk.frozen HR.out.blk y;have HQ:=hide hpop;clear hpop
    have hcap : (d = 1 ∧ k = 1) ∨ ∃ d',d = d' + 2:=by
     rcases Nat.lt_or_ge d 2 with h | h
     ·exact .inl (by omega)
     ·exact .inr ⟨d - 2,by omega⟩
    have hbd:=HR.out.bound;simp only [List.length_cons] at hbd;have hql:=Que.len HQ.out;rw [List.length_map] at hql
    cases hob : out.getD y false with
    | true =>
      have HS:=hide (HR.out.waits.skip (by rw [Int.toNat_natCast]; exact hob));rw [hob] at hoy;have HB:=hide HR.out.blk;have HW:=hide HR.out.below;clear HR;rcases hcap with ⟨rfl,rfl⟩ | ⟨d',rfl⟩
      ·go_wp2_with fail
       refine ⟨⟨_,_,_,_,_,rfl,hide ⟨HB.out,Que.any0 HQ.out,HW.out,HS.out,by omega⟩⟩,by simp only [lenV]; omega⟩
      ·go_wp2_with fail
       refine ⟨⟨_,_,_,_,_,rfl,hide ⟨HB.out,HQ.out,HW.out,HS.out,by omega⟩⟩,by simp only [lenV]; omega⟩
    | false =>
      have HS:=hide (HR.out.waits.take HOK.out);simp only [Int.toNat_natCast] at HS;have hun:=unmarked_set (show y < out.length from by omega) hob;have hbo:=HR.out.blk.set_ y (.bool true);rw [show (out.map Value.bool).set y (.bool true) = (out.set y true).map Value.bool from by rw [List.map_set]] at hbo;have hof:=offIn_eq HR.out.blk;obtain ⟨rb,ro,RB,rm,rd,rfl,hrlt,hrc,hrn,hri⟩:=HSI.out.now y (srcs f y) (frSources_at HOK.out (by rw [HFL.out]; exact hy));have hrc1:=(HR.out.below.cell (p:=⟨rb,ro + y,none⟩) hrlt).trans hrc;have hW1:=HR.out.below.setCell (p:=⟨w2.heap.size,y,none⟩) (Nat.le_refl _) (.bool true);have hrc2:=(hW1.cell (p:=⟨rb,ro + y,none⟩) hrlt).trans hrc;have hne : rb ≠ w2.heap.size:=by omega
      have HRI:=hide (Cells.keep hri hW1);have HQ2:=hide (HQ.out.far (p:=⟨w2.heap.size,y,none⟩) (by simp) (.bool true));have HBO:=hide hbo;have HW:=hide hW1;have HUN:=hide hun;have HOF:=hide hof;have hrm:=srcs_le f y;rw [hrn] at hrm;have HLM:=hide (show ((srcs f y).map (Value.int .i64)).length = rm from by rw [List.length_map]; exact hrn);have HSZ:=hide (show w2.heap.size + 1 ≤ (wr.setCell ⟨w2.heap.size,y,none⟩ (.bool true)).heap.size from by have:=Blk.lt hbo; omega);rw [hob] at hoy;clear HQ HR hW1 hri hbo hun hof;rcases hcap with ⟨rfl,rfl⟩ | ⟨d',rfl⟩
      ·go_wp2_with (at_builtin; go_loud (refine wpList_que (wr.setCell ⟨w2.heap.size,y,none⟩ (.bool true)) rfl _ _ 25 rfl 3 j0 (.int .i64 0) 8 Tryz.underlying25 hj0 jz0 jz1 jz2 rfl (w2.heap.size + 1) _ _ _ (xs.map (Value.int .i64)) rfl (Que.any0 (q':=o) HQ2.out) RB rm rd ((srcs f y).map (Value.int .i64)) rfl HLM.out HRI.out (ints_one _) (by simp only [maxLen]; omega) (by omega) HSZ.out ?_; intro A9 c9 w9 hq9 hb9))
       have hB9:=Blk.below HBO.out (hb9 (w2.heap.size + 1) (Nat.le_refl _)) (by omega);have hof9:=offIn_eq hB9;have hun9:=HUN.out;have hof:=HOF.out;rw [Nat.zero_add] at hq9;refine ⟨⟨xs ++ srcs f y,out.set y true,_,_,_,rfl,hide ⟨hB9,by rw [List.map_append]; exact hq9,HW.out.trans (hb9 w2.heap.size (by omega)),HS.out,by rw [List.length_append]; omega⟩⟩,by simp only [lenV]; omega⟩
      ·go_wp2_with (at_builtin; go_loud (refine wpList_que (wr.setCell ⟨w2.heap.size,y,none⟩ (.bool true)) rfl _ _ 25 rfl 3 j0 (.int .i64 0) 8 Tryz.underlying25 hj0 jz0 jz1 jz2 rfl (w2.heap.size + 1) _ _ _ (xs.map (Value.int .i64)) rfl (HQ2.out) RB rm rd ((srcs f y).map (Value.int .i64)) rfl HLM.out HRI.out (ints_one _) (by simp only [maxLen]; omega) (by omega) HSZ.out ?_; intro A9 c9 w9 hq9 hb9))
       have hB9:=Blk.below HBO.out (hb9 (w2.heap.size + 1) (Nat.le_refl _)) (by omega);have hof9:=offIn_eq hB9;have hun9:=HUN.out;have hof:=HOF.out;refine ⟨⟨xs ++ srcs f y,out.set y true,_,_,_,rfl,hide ⟨hB9,by rw [List.map_append]; exact hq9,HW.out.trans (hb9 w2.heap.size (by omega)),HS.out,by rw [List.length_append]; omega⟩⟩,by simp only [lenV]; omega⟩
theorem kept_any (W H S O : Int) (PA : Option Addr) (n c : Nat) (ps : List Pas) (w : World) (hn : ps.length = n) (hP : Passes w PA ps) :
 Calls Tryz.prog 65 #[.agg #[.int .i64 W,.int .i64 H,.int .i64 S,.int .i64 O,.slice PA n c]] w (RetBools w (keptAns ⟨W,H,S,O,ps⟩) (frErr ⟨W,H,S,O,ps⟩)):=by
 by_cases he : frErr ⟨W,H,S,O,ps⟩ = 0
 ·have:=kept_ok W H S O PA n c ps w hn hP (frErr_zero.1 he)
  unfold keptAns;rw [if_pos he,he];exact this
 ·have hb:=(Below.refl w.heap.size w).alloc (Nat.le_refl _) (.cells #[.int .i64 W,.int .i64 H,.int .i64 S,.int .i64 O,.slice PA n c] 24)
  have HL:=hide (last_any W H S O PA n c ps _ hn (hP.keep hb));have hka : keptAns ⟨W,H,S,O,ps⟩ = []:=if_neg he;have HB:=hide hb;obtain ⟨x,q0,q1,q2,q3,q4⟩:=FrmBox.cells (show FrmBox (w.alloc (.cells #[.int .i64 W,.int .i64 H,.int .i64 S,.int .i64 O,.slice PA n c] 24)) w.heap.size W H S O PA n c from Blk.new w 24 (frmCells W H S O PA n c));rw [hka];generalize lastAns ⟨W,H,S,O,ps⟩ = la at HL;generalize frErr ⟨W,H,S,O,ps⟩ = er at *;have hz2 : (er == 0) = false:=by simpa using he
  clear hn hP hb he hka;go_enter Tryz.func65,Tryz.ntmps65
  go_wp2_with fail;refine (unhide HL).mono ?_;rintro e w1 ⟨rfl,hE1⟩;have HB1:=hide (HB.out.trans (hE1.mono HB.out.size));clear HB HL hE1;go_wp2_with fail;go_ret2;exact ⟨none,0,0,rfl,rfl,Cells.nil _ _,HB1.out⟩
end Go.Proofs.YtibpmogmeoappabGreat
namespace Go.Proofs.YtibpmogmeoappabGreat
open Go.RowKit
def RetBs (w : World) (L : List Bool) (e : Ending) (w' : World) : Prop :=
 ∃ (A : Option Addr) (n c : Nat),e = .returned (.slice A n c) ∧ L.length = n ∧ Cells w' A (L.map Value.bool) ∧ Below w.heap.size w w'
theorem markAll_snoc (out : List Bool) (l : List Int) (x : Int) : markAll out (l ++ [x]) = (markAll out l).set x.toNat true:=by
 unfold markAll; rw [List.foldl_append]; rfl
theorem bools_set {w : World} {g : Nat} {out : List Bool} (h : Blk w g 4 (out.map Value.bool)) (i : Nat) : Blk (w.setCell ⟨g,i,none⟩ (.bool true)) g 4 ((out.set i true).map Value.bool):=by
 have:=h.set_ i (.bool true)
 rwa [show (out.map Value.bool).set i (.bool true) = (out.set i true).map Value.bool from by rw [List.map_set]] at this
theorem bools_at {w : World} {g : Nat} {out : List Bool} (h : Blk w g 4 (out.map Value.bool)) {i : Nat} (hi : i < out.length) : w.cell? ⟨g,i,none⟩ = some (.bool (out.getD i false)) ∧ w.frozen? ⟨g,i,none⟩ = false:=by
 refine ⟨?_,Blk.frozen h i⟩;rw [Blk.cell h,List.getElem?_map,List.getD_eq_getElem?_getD,List.getElem?_eq_getElem hi];rfl
theorem keptOf_ref (W H S O : Int) (PA : Option Addr) (n c : Nat) (ps : List Pas) (w : World) (hn : ps.length = n) (hP : Passes w PA ps) (hf0 : FrmOk ⟨W,H,S,O,ps⟩) :
 Calls Tryz.prog 51 #[.agg #[.int .i64 W,.int .i64 H,.int .i64 S,.int .i64 O,.slice PA n c]] w (RetBs w (keptL ⟨W,H,S,O,ps⟩)):=by
 have hmany:=hf0.many;have hla:=hf0.last;simp only [hn] at hmany hla;have hb:=(Below.refl w.heap.size w).alloc (Nat.le_refl _) (.cells #[.int .i64 W,.int .i64 H,.int .i64 S,.int .i64 O,.slice PA n c] 24);have HBX:=hide (Keeps.blk (show Blk (w.alloc (.cells #[.int .i64 W,.int .i64 H,.int .i64 S,.int .i64 O,.slice PA n c] 24)) w.heap.size 24 (frmCells W H S O PA n c) from Blk.new w 24 (frmCells W H S O PA n c)));have HL:=hide (fun (W0 : World) (h1 : Passes W0 PA ps)=>lastOf_ref W H S O PA n c ps W0 hn h1 (by omega));have HS:=hide (fun (W0 : World) (h1 : Passes W0 PA ps)=>sourcesOf_ref W H S O PA n c ps W0 hn h1 hmany.2);have HLEN:=hide (show Frm.P ⟨W,H,S,O,ps⟩ = ps from rfl);have HB0:=hide hb;have HP:=hide (Keeps.passes hP);obtain ⟨f,hf⟩ : ∃ f : Frm,f = ⟨W,H,S,O,ps⟩:=⟨_,rfl⟩;rw [← hf] at HL HS hf0 hla HLEN ⊢;have HFL:=hide (show f.P.length = n from by rw [HLEN.out,hn]);have HOK:=hide hf0;obtain ⟨lst,hlst2⟩ : ∃ l : Nat,frLast f = (l : Int):=⟨(frLast f).toNat,by omega⟩;have hk0 : kept0 f = (List.replicate n false).set lst true:=by unfold kept0; rw [HFL.out,hlst2,Int.toNat_natCast]
 have HK0:=hide (show keptL f = keptTo f n ((List.replicate n false).set lst true) from by unfold keptL; rw [HFL.out,hk0]);rw [hlst2] at HL hla;obtain ⟨hl0,hl1⟩:=hla;clear hP hf0 hb hf hlst2 HLEN hn hk0;obtain ⟨i0,hi0,hz0,hz1,hz2⟩:=info_parts Tryz.infoBool;have hmk:=fun W0=>run_make_bools i0 hi0 hz0 hz1 hz2 n (by omega) W0;clear hi0 hz0 hz1 hz2;go_enter Tryz.func51,Tryz.ntmps51
 obtain ⟨x,q0,q1,q2,q3,q4⟩:=FrmBox.cells (show FrmBox _ _ W H S O PA n c from HBX.out.now);go_wp2_with fail;refine ((unhide HS) _ (HP.out.later _ HB0.out)).mono ?_;rintro e w1 ⟨SA,sn,sc,rfl,hsn,hSI,hE1⟩;obtain rfl : n = sn:=by rw [← hsn]; simp [srcsTo]
 have HB1:=hide (HB0.out.trans (hE1.mono HB0.out.size));have HX1:=hide (HBX.out.move hE1);have HSI:=hide (Keeps.intRows hSI);have hbo : Below w1.heap.size w1 (w1.alloc (.cells (List.replicate n (Value.bool false)).toArray 4)):=(Below.refl _ _).alloc (Nat.le_refl _) _;have HB2:=hide (HB1.out.trans (hbo.mono HB1.out.size));have HX2:=hide (HX1.out.move hbo);have HO2:=hide (show Blk (w1.alloc (.cells (List.replicate n (Value.bool false)).toArray 4)) w1.heap.size 4 ((List.replicate n false).map Value.bool) from by rw [List.map_replicate]; exact Blk.new w1 _ _);have HW2:=hide hbo;clear x q0 q1 q2 q3 q4 HB0 HBX hE1 HS hSI hsn hbo;obtain ⟨x,q0,q1,q2,q3,q4⟩:=FrmBox.cells (show FrmBox _ _ W H S O PA n c from HX1.out.now);obtain ⟨y,r0,r1,r2,r3,r4⟩:=FrmBox.cells (show FrmBox _ _ W H S O PA n c from HX2.out.now);go_wp2_with fail;refine ((unhide HL) _ (HP.out.later _ HB2.out)).mono ?_;rintro e w2 ⟨rfl,hE2⟩;have HO3:=hide (HO2.out.keep hE2);have hW3:=HW2.out.trans (hE2.mono HW2.out.size);have hO4:=bools_set HO3.out lst;obtain ⟨o0,o1⟩:=bools_at HO3.out (i:=lst) (by simp; omega);have HO4:=hide hO4;have HW4:=hide (hW3.setCell (p:=⟨w1.heap.size,lst,none⟩) (Nat.le_refl _) (.bool true));have hlt : lst < n:=by omega
 clear x q0 q1 q2 q3 q4 y r0 r1 r2 r3 r4 HL HO2 HO3 HW2 hE2 hW3 hO4 HX1 HX2;go_wp2_with fail;clear o0 o1;go_loopw [5,6] (fun i _ wr=>∃ (j : Nat) (out : List Bool),j ≤ n ∧ i = .int .i64 ((j : Int) - 1) ∧ Hid (Blk wr w1.heap.size 4 (out.map Value.bool) ∧ out.length = n ∧ keptL f = keptTo f j out ∧ Below w1.heap.size w1 wr)) (fun i _ _=>(intOf i + 1).toNat)
 case atStart=>exact ⟨n,_,Nat.le_refl _,rfl,hide ⟨HO4.out,by simp,HK0.out,HW4.out⟩⟩
 case round =>
  obtain ⟨j,out,hj,rfl,HR⟩:=hrel
  cases j with
  | zero =>
    go_wp2_with fail;go_ret;exact ⟨_,n,n,rfl,by rw [HR.out.2.2.1]; exact HR.out.2.1,by rw [HR.out.2.2.1]; exact Blk.cells HR.out.1,HB1.out.trans (HR.out.2.2.2.mono HB1.out.size)⟩
  | succ j =>
    have hjn : j < n:=by omega
    have ei : (((j + 1 : Nat) : Int) - 1) = (j : Int):=by omega
    rw [ei] at *;have hj1 : (j : Int) < (n : Int):=by omega
    obtain ⟨sb,so,RB,rm,rd,rfl,hslt,hrc,hrn,hri⟩:=HSI.out.now j (srcs f j) (by unfold srcsTo; rw [List.getElem?_map,List.getElem?_range hjn]; rfl);have HRC:=hide (show ∀ W',Below w1.heap.size w1 W' → W'.cell? ⟨sb,so + j,none⟩ = some (.slice RB rm rd) from fun W' hb=>(hb.cell (p:=⟨sb,so + j,none⟩) hslt).trans hrc);have HRI:=hide (Keeps.ints hri);have HRN:=hide hrn;have hrm:=srcs_le f j;rw [hrn] at hrm;have HW:=hide HR.out.2.2.2;have HBO:=hide HR.out.1;have HLN:=hide HR.out.2.1;have HKE:=hide HR.out.2.2.1;clear hrc hri hrn ei
    cases hob : out.getD j false with
    | false =>
      have HKN:=hide (show keptL f = keptTo f j out from by rw [HKE.out]; simp only [keptTo,hob]; rfl);go_wp2_with fail;go_loopw [6] (fun i wx=>i = .int .i64 0 ∧ Hid (Blk wx w1.heap.size 4 (out.map Value.bool) ∧ Below w1.heap.size w1 wx)) (fun _ _=>0)
      case atStart=>exact ⟨rfl,hide ⟨HBO.out,HW.out⟩⟩
      case round =>
       obtain ⟨rfl,HX⟩:=hrel;have hrc:=HRC.out _ HX.out.2;obtain ⟨o0,o1⟩:=bools_at HX.out.1 (i:=j) (by rw [HLN.out]; exact hjn);rw [hob] at o0;have hcs : rm = 0 ∨ (0 : Int) < (rm : Int):=by omega
       rcases hcs with rfl | hcs
       all_goals
        go_wp2_with fail
       all_goals
        exact ⟨⟨j,out,by omega,rfl,hide ⟨HX.out.1,HLN.out,HKN.out,HX.out.2⟩⟩,by simp [intOf]⟩
    | true =>
      have HKN:=hide (show keptL f = keptTo f j (markAll out (srcs f j)) from by rw [HKE.out]; simp only [keptTo,hob]; rfl);go_wp2_with fail;go_loopw [6] (fun i wx=>∃ t : Nat,t ≤ rm ∧ i = .int .i64 t ∧ Hid (Blk wx w1.heap.size 4 ((markAll out ((srcs f j).take t)).map Value.bool) ∧ Below w1.heap.size w1 wx)) (fun i _=>rm - (intOf i).toNat)
      case atStart=>exact ⟨0,Nat.zero_le _,rfl,hide ⟨HBO.out,HW.out⟩⟩
      case round =>
       obtain ⟨t,ht,rfl,HX⟩:=hrel;have hrc:=HRC.out _ HX.out.2;have hml : (markAll out ((srcs f j).take t)).length = n:=by rw [markAll_len]; exact HLN.out
       obtain ⟨o0,o1⟩:=bools_at HX.out.1 (i:=j) (by rw [hml]; exact hjn);rw [show (markAll out ((srcs f j).take t)).getD j false = true from markAll_true.2 (.inl hob)] at o0;by_cases htr : t < rm
       ·have ht0 : (t : Int) < (rm : Int):=by omega
        have htl : t < (srcs f j).length:=by rw [HRN.out]; exact htr
        obtain ⟨vb,vo,rfl,-,hv⟩:=(HRI.out.later _ HX.out.2) t (by rw [List.length_map]; exact htl);rw [List.getD_eq_getElem?_getD,List.getElem?_map,List.getElem?_eq_getElem htl] at hv;simp only [Option.map_some,Option.getD_some] at hv;have hsrc:=HOK.out.src (k:=j) (by rw [HFL.out]; exact hjn) (List.getElem_mem htl);have htk : (srcs f j).take (t + 1) = (srcs f j).take t ++ [(srcs f j)[t]]:=by rw [List.take_add_one,List.getElem?_eq_getElem htl]; rfl
        have HTK:=hide htk;obtain ⟨y,hy⟩ : ∃ y : Nat,(srcs f j)[t] = (y : Int):=⟨((srcs f j)[t]).toNat,by omega⟩;rw [hy] at hv hsrc;have hyn : y < n:=by omega
        have hyn1 : (y : Int) < (n : Int):=by omega
        obtain ⟨s0,s1⟩:=bools_at HX.out.1 (i:=y) (by rw [hml]; exact hyn);have hset:=bools_set HX.out.1 y;have hms : markAll out ((srcs f j).take (t + 1)) = (markAll out ((srcs f j).take t)).set y true:=by rw [htk,markAll_snoc,hy,Int.toNat_natCast]
        rw [← hms] at hset;have HST:=hide hset;have HW9:=hide (HX.out.2.setCell (p:=⟨w1.heap.size,y,none⟩) (Nat.le_refl _) (.bool true));clear hset hms htk hy hml HTK HX;go_wp2_with fail;exact ⟨⟨t + 1,by omega,by simp,hide ⟨HST.out,HW9.out⟩⟩,by simp [intOf]; omega⟩
       ·have htk : (srcs f j).take t = srcs f j:=List.take_of_length_le (by rw [HRN.out]; omega)
        have HF:=hide HX.out;rw [htk] at HF hml;have HML:=hide hml;clear HX htk hml;go_wp2_with fail;exact ⟨⟨j,markAll out (srcs f j),by omega,rfl,hide ⟨HF.out.1,HML.out,HKN.out,HF.out.2⟩⟩,by simp [intOf]⟩
end Go.Proofs.YtibpmogmeoappabGreat
