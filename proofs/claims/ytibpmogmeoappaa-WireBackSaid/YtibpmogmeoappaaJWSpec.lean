/- Frames as bytes, as plain Lean: what is written, what is read. -/
import Derived.Test.YtibpmogmeoappaaJPlain
import Derived.Laws.Strings
namespace Go.Proofs.Ytibpmogmeoappaa
def lampBytes (l : Lamp) : List Int:=[l.X % 256,l.Y % 256,l.R % 256,l.K / 256 % 256,l.K % 256]
def pasBytes (p : Pas) : List Int:=[p.Op % 256,p.To % 256,p.A % 256,p.B % 256,p.K / 65536 % 256,p.K / 256 % 256,p.K % 256,(p.L.length : Int) % 256] ++ p.L.flatMap lampBytes
def frmBytes (f : Frm) : List Int:=[f.W % 256,f.H % 256,f.S % 256,f.O % 256,(f.P.length : Int) % 256] ++ f.P.flatMap pasBytes
def sgn (n : Int) : Int:=if 8388608 ≤ n then n - 16777216 else n
def rdLamp : List Int → Option (Lamp × List Int)
 | x :: y :: r :: p :: q :: t=>some (⟨x,y,r,p * 256 + q⟩,t)
 | _=>none
def rdLamps : Nat → List Int → Option (List Lamp × List Int)
 | 0,s=>some ([],s)
 | n + 1, s => match rdLamp s with
   | none=>none
   | some (l, t) => match rdLamps n t with
     | none=>none
     | some (ls,u)=>some (l :: ls,u)
def rdPas : List Int → Option (Pas × List Int)
 | op :: to_ :: a :: b :: k :: k2 :: k3 :: c :: t => match rdLamps c.toNat t with
   | none=>none
   | some (ls,u)=>some (⟨op,to_,a,b,sgn ((k * 256 + k2) * 256 + k3),ls⟩,u)
 | _=>none
def rdPs : Nat → List Int → Option (List Pas × List Int)
 | 0,s=>some ([],s)
 | n + 1, s => match rdPas s with
   | none=>none
   | some (p, t) => match rdPs n t with
     | none=>none
     | some (ps,u)=>some (p :: ps,u)
def rdFrm : List Int → Option (Frm × List Int)
 | w :: h :: s :: o :: c :: t => match rdPs c.toNat t with
   | none=>none
   | some (ps,u)=>some (⟨w,h,s,o,ps⟩,u)
 | _=>none
def lxLamp (s : List Int) : Lamp × List Int:=(⟨s.getD 0 0,s.getD 1 0,s.getD 2 0,256 * s.getD 3 0 + s.getD 4 0⟩,s.drop 5)
def lxLamps : Nat → List Int → List Lamp × List Int
 | 0,s=>([],s)
 | n + 1,s=>((lxLamp s).1 :: (lxLamps n (lxLamp s).2).1,(lxLamps n (lxLamp s).2).2)
def lxPas (s : List Int) : Pas × List Int:=(⟨s.getD 0 0,s.getD 1 0,s.getD 2 0,s.getD 3 0,sgn (65536 * s.getD 4 0 + 256 * s.getD 5 0 + s.getD 6 0),(lxLamps (s.getD 7 0).toNat (s.drop 8)).1⟩,(lxLamps (s.getD 7 0).toNat (s.drop 8)).2)
def lxPs : Nat → List Int → List Pas × List Int
 | 0,s=>([],s)
 | n + 1,s=>((lxPas s).1 :: (lxPs n (lxPas s).2).1,(lxPs n (lxPas s).2).2)
def lxFrm (s : List Int) : Frm × List Int:=(⟨s.getD 0 0,s.getD 1 0,s.getD 2 0,s.getD 3 0,(lxPs (s.getD 4 0).toNat (s.drop 5)).1⟩,(lxPs (s.getD 4 0).toNat (s.drop 5)).2)
def Bytes (s : List Int) : Prop:=∀ b ∈ s,0 ≤ b ∧ b ≤ 255
theorem Bytes.tail {b : Int} {s : List Int} (h : Bytes (b :: s)) : Bytes s:=fun x hx=>h x (by simp [hx])
theorem lx_of_lamp {s t : List Int} {l : Lamp} (h : rdLamp s = some (l,t)) : lxLamp s = (l,t):=by
 match s,h with
 | x :: y :: r :: p :: q :: t', h =>
   simp only [rdLamp,Option.some.injEq,Prod.mk.injEq] at h;obtain ⟨rfl,rfl⟩:=h;simp [lxLamp]; omega
theorem lx_of_lamps : ∀ {n : Nat} {s t : List Int} {ls : List Lamp},rdLamps n s = some (ls,t) → lxLamps n s = (ls,t) ∧ ls.length = n:=by
 intro n
 induction n with
 | zero=>intro s t ls h; simp only [rdLamps,Option.some.injEq,Prod.mk.injEq] at h; obtain ⟨rfl,rfl⟩:=h; exact ⟨rfl,rfl⟩
 | succ n ih =>
   intro s t ls h;simp only [rdLamps] at h;split at h
   ·cases h
   ·rename_i l u e
    split at h
    ·cases h
    ·rename_i ls' v e2
     simp only [Option.some.injEq,Prod.mk.injEq] at h;obtain ⟨rfl,rfl⟩:=h;have h1:=lx_of_lamp e;have h2:=ih e2;simp only [lxLamps,h1,h2.1];exact ⟨trivial,by simp [h2.2]⟩
theorem lx_of_pas {s t : List Int} {p : Pas} (h : rdPas s = some (p,t)) : lxPas s = (p,t):=by
 match s,h with
 | op :: to_ :: a :: b :: k :: k2 :: k3 :: c :: t', h =>
   simp only [rdPas] at h;split at h
   ·cases h
   ·rename_i ls u e
    simp only [Option.some.injEq,Prod.mk.injEq] at h;obtain ⟨rfl,rfl⟩:=h;have h1:=(lx_of_lamps e).1;simp only [lxPas,List.getD_cons_zero,List.getD_cons_succ,List.drop_succ_cons,List.drop_zero,h1];rw [show 65536 * k + 256 * k2 + k3 = (k * 256 + k2) * 256 + k3 by omega]
theorem lx_of_ps : ∀ {n : Nat} {s t : List Int} {ps : List Pas},rdPs n s = some (ps,t) → lxPs n s = (ps,t) ∧ ps.length = n:=by
 intro n
 induction n with
 | zero=>intro s t ls h; simp only [rdPs,Option.some.injEq,Prod.mk.injEq] at h; obtain ⟨rfl,rfl⟩:=h; exact ⟨rfl,rfl⟩
 | succ n ih =>
   intro s t ls h;simp only [rdPs] at h;split at h
   ·cases h
   ·rename_i l u e
    split at h
    ·cases h
    ·rename_i ls' v e2
     simp only [Option.some.injEq,Prod.mk.injEq] at h;obtain ⟨rfl,rfl⟩:=h;have h1:=lx_of_pas e;have h2:=ih e2;simp only [lxPs,h1,h2.1];exact ⟨trivial,by simp [h2.2]⟩
theorem lx_of_frm {s t : List Int} {f : Frm} (h : rdFrm s = some (f,t)) : lxFrm s = (f,t):=by
 match s,h with
 | w :: hh :: sl :: o :: c :: t', h =>
   simp only [rdFrm] at h;split at h
   ·cases h
   ·rename_i ps u e
    simp only [Option.some.injEq,Prod.mk.injEq] at h;obtain ⟨rfl,rfl⟩:=h;have h1:=(lx_of_ps e).1;simp only [lxFrm,List.getD_cons_zero,List.getD_cons_succ,List.drop_succ_cons,List.drop_zero,h1]
theorem wr_lamp {s t : List Int} {l : Lamp} (hb : Bytes s) (h : rdLamp s = some (l,t)) : s = lampBytes l ++ t ∧ Bytes t:=by
 match s,h with
 | x :: y :: r :: p :: q :: t', h =>
   simp only [rdLamp,Option.some.injEq,Prod.mk.injEq] at h;obtain ⟨rfl,rfl⟩:=h;have h1:=hb x (by simp);have h2:=hb y (by simp);have h3:=hb r (by simp);have h4:=hb p (by simp);have h5:=hb q (by simp);refine ⟨?_,hb.tail.tail.tail.tail.tail⟩;simp only [lampBytes,List.cons_append,List.nil_append,List.cons.injEq,and_true];omega
theorem wr_lamps : ∀ {n : Nat} {s t : List Int} {ls : List Lamp},Bytes s → rdLamps n s = some (ls,t) → s = ls.flatMap lampBytes ++ t ∧ Bytes t:=by
 intro n
 induction n with
 | zero=>intro s t ls hb h; simp only [rdLamps,Option.some.injEq,Prod.mk.injEq] at h; obtain ⟨rfl,rfl⟩:=h; exact ⟨rfl,hb⟩
 | succ n ih =>
   intro s t ls hb h;simp only [rdLamps] at h;split at h
   ·cases h
   ·rename_i l u e
    split at h
    ·cases h
    ·rename_i ls' v e2
     simp only [Option.some.injEq,Prod.mk.injEq] at h;obtain ⟨rfl,rfl⟩:=h;obtain ⟨h1,h2⟩:=wr_lamp hb e;obtain ⟨h3,h4⟩:=ih h2 e2;exact ⟨by rw [h1,h3]; simp,h4⟩
theorem wr_pas {s t : List Int} {p : Pas} (hb : Bytes s) (h : rdPas s = some (p,t)) : s = pasBytes p ++ t ∧ Bytes t:=by
 match s,h with
 | op :: to_ :: a :: b :: k :: k2 :: k3 :: c :: t', h =>
   simp only [rdPas] at h;split at h
   ·cases h
   ·rename_i ls u e
    simp only [Option.some.injEq,Prod.mk.injEq] at h;obtain ⟨rfl,rfl⟩:=h;have h1:=hb op (by simp);have h2:=hb to_ (by simp);have h3:=hb a (by simp);have h4:=hb b (by simp);have h5:=hb k (by simp);have h6:=hb k2 (by simp);have h7:=hb k3 (by simp);have h8:=hb c (by simp);obtain ⟨h9,h10⟩:=wr_lamps hb.tail.tail.tail.tail.tail.tail.tail.tail e;have hl:=(lx_of_lamps e).2;refine ⟨?_,h10⟩;simp only [pasBytes,List.cons_append,List.nil_append,List.cons.injEq,sgn];refine ⟨by omega,by omega,by omega,by omega,?_,?_,?_,by omega,h9⟩ <;> split <;> omega
theorem wr_ps : ∀ {n : Nat} {s t : List Int} {ps : List Pas},Bytes s → rdPs n s = some (ps,t) → s = ps.flatMap pasBytes ++ t ∧ Bytes t:=by
 intro n
 induction n with
 | zero=>intro s t ls hb h; simp only [rdPs,Option.some.injEq,Prod.mk.injEq] at h; obtain ⟨rfl,rfl⟩:=h; exact ⟨rfl,hb⟩
 | succ n ih =>
   intro s t ls hb h;simp only [rdPs] at h;split at h
   ·cases h
   ·rename_i l u e
    split at h
    ·cases h
    ·rename_i ls' v e2
     simp only [Option.some.injEq,Prod.mk.injEq] at h;obtain ⟨rfl,rfl⟩:=h;obtain ⟨h1,h2⟩:=wr_pas hb e;obtain ⟨h3,h4⟩:=ih h2 e2;exact ⟨by rw [h1,h3]; simp,h4⟩
theorem wr_frm {s t : List Int} {f : Frm} (hb : Bytes s) (h : rdFrm s = some (f,t)) : s = frmBytes f ++ t:=by
 match s,h with
 | w :: hh :: sl :: o :: c :: t', h =>
   simp only [rdFrm] at h;split at h
   ·cases h
   ·rename_i ps u e
    simp only [Option.some.injEq,Prod.mk.injEq] at h;obtain ⟨rfl,rfl⟩:=h;have h1:=hb w (by simp);have h2:=hb hh (by simp);have h3:=hb sl (by simp);have h4:=hb o (by simp);have h5:=hb c (by simp);obtain ⟨h9,-⟩:=wr_ps hb.tail.tail.tail.tail.tail e;have hl:=(lx_of_ps e).2;simp only [frmBytes,List.cons_append,List.nil_append,List.cons.injEq];exact ⟨by omega,by omega,by omega,by omega,by omega,h9⟩
theorem rd_lamp {l : Lamp} (h : l.Fine) (t : List Int) : rdLamp (lampBytes l ++ t) = some (l,t):=by
 obtain ⟨x,y,r,k⟩:=l;unfold Lamp.Fine at h;simp only at h;simp only [lampBytes,List.cons_append,List.nil_append,rdLamp,Option.some.injEq,Prod.mk.injEq,Lamp.mk.injEq,and_true];omega
theorem rd_lamps : ∀ {ls : List Lamp},(∀ l ∈ ls,l.Fine) → ∀ t,rdLamps ls.length (ls.flatMap lampBytes ++ t) = some (ls,t):=by
 intro ls
 induction ls with
 | nil=>intro _ t; rfl
 | cons l ls ih =>
   intro h t;simp only [List.length_cons,List.flatMap_cons,List.append_assoc,rdLamps,rd_lamp (h l (by simp)),ih (fun x hx=>h x (by simp [hx]))]
structure PasFit (p : Pas) : Prop where
 op : 0 ≤ p.Op ∧ p.Op ≤ 255
 slot : 0 ≤ p.To ∧ p.To ≤ 255
 a : 0 ≤ p.A ∧ p.A ≤ 255
 b : 0 ≤ p.B ∧ p.B ≤ 255
 k : -16 ≤ p.K ∧ p.K ≤ 65535
 n : p.L.length ≤ 255
 l : ∀ l ∈ p.L,l.Fine
theorem rd_pas {p : Pas} (h : PasFit p) (t : List Int) : rdPas (pasBytes p ++ t) = some (p,t):=by
 have hn:=h.n;have e : ((p.L.length : Int) % 256).toNat = p.L.length:=by omega
 simp only [pasBytes,List.cons_append,List.nil_append,rdPas,e,rd_lamps h.l,Option.some.injEq,Prod.mk.injEq,and_true];have h1:=h.op;have h2:=h.slot;have h3:=h.a;have h4:=h.b;have h5:=h.k;obtain ⟨op,to_,a,b,k,L⟩:=p;simp only at h1 h2 h3 h4 h5;simp only [Pas.mk.injEq,and_true,sgn];refine ⟨by omega,by omega,by omega,by omega,?_⟩;split <;> omega
theorem rd_ps : ∀ {ps : List Pas},(∀ p ∈ ps,PasFit p) → ∀ t,rdPs ps.length (ps.flatMap pasBytes ++ t) = some (ps,t):=by
 intro ls
 induction ls with
 | nil=>intro _ t; rfl
 | cons l ls ih =>
   intro h t;simp only [List.length_cons,List.flatMap_cons,List.append_assoc,rdPs,rd_pas (h l (by simp)),ih (fun x hx=>h x (by simp [hx]))]
theorem pasFit_of {S : Int} {p : Pas} {st : List Sz} (hS : 1 ≤ S ∧ S ≤ 8) (h : PassOk S p st) : PasFit p:=by
 have hf:=h.form;unfold formBad at hf;simp only [or_false',Bool.and_eq_false_iff] at hf;obtain ⟨⟨⟨⟨⟨f1,f2⟩,f3⟩,f4⟩,_⟩,_⟩:=hf;have hk:=h.k;have hkind:=h.kind;refine ⟨by omega,by have:=h.to; omega,?_,?_,?_,?_,?_⟩
 ·by_cases e : hasA p.Op = true
  ·have:=h.a e; omega
  ·have : p.A = 0:=by
    rcases f1 with f1 | f1
    ·simp at f1; exact absurd f1 e
    ·simpa using f1
   omega
 ·by_cases e : hasB p.Op = true
  ·have:=h.b e; omega
  ·have : p.B = 0:=by
    rcases f2 with f2 | f2
    ·simp at f2; exact absurd f2 e
    ·simpa using f2
   omega
 ·unfold kFineB at hk
  by_cases e : hasK p.Op = true
  ·have e:=of_decide_eq_true e
   by_cases e1 : p.Op = 1 ∨ p.Op = 2 ∨ p.Op = 8
   ·rw [if_pos e1] at hk; have:=inR_iff.1 hk; omega
   ·rw [if_neg e1] at hk
    by_cases e2 : p.Op = 9
    ·rw [if_pos e2] at hk; have:=inR_iff.1 hk; omega
    ·rw [if_neg e2,if_pos (by omega)] at hk; have:=inR_iff.1 hk; omega
  ·have : p.K = 0:=by
    rcases f3 with f3 | f3
    ·simp at f3; exact absurd f3 e
    ·simpa using f3
   omega
 ·by_cases e : hasL p.Op = true
  ·have:=(lampsErr_zero (h.lamps e)).1; omega
  ·rcases f4 with f4 | f4
   ·simp at f4; exact absurd f4 e
   ·have:=of_decide_eq_false f4; omega
 ·by_cases e : hasL p.Op = true
  ·exact (lampsErr_zero (h.lamps e)).2
  ·rcases f4 with f4 | f4
   ·simp at f4; exact absurd f4 e
   ·have:=of_decide_eq_false f4
    intro l hl;have:=List.length_pos_of_mem hl;omega
theorem rd_frm {f : Frm} (h : FrmOk f) (t : List Int) : rdFrm (frmBytes f ++ t) = some (f,t):=by
 have hb:=h.bounds;unfold Frm.Bounds at hb;have hn:=h.many;have e : ((f.P.length : Int) % 256).toNat = f.P.length:=by omega
 have hp : ∀ p ∈ f.P,PasFit p:=by
  intro p hp;obtain ⟨i,hi,e⟩:=List.getElem_of_mem hp;have:=h.pass hi;have e2 : f.pas i = p:=by unfold Frm.pas; rw [List.getD_eq_getElem?_getD,List.getElem?_eq_getElem hi,e]; rfl
  rw [e2] at this;exact pasFit_of hb.2.2.1 this
 simp only [frmBytes,List.cons_append,List.nil_append,rdFrm,e,rd_ps hp,Option.some.injEq,Prod.mk.injEq,and_true];obtain ⟨W,H,S,O,P⟩:=f;simp only at hb;simp only [Frm.mk.injEq,and_true];omega
def readFrm (s : List Int) : Option Frm:=match rdFrm s with
 | some (f,[])=>if frErr f = 0 then some f else none
 | _=>none
def fromFrm (s : List Int) : Option Frm:=if frErr (lxFrm s).1 = 0 ∧ frmBytes (lxFrm s).1 = s then some (lxFrm s).1 else none
theorem read_from {s : List Int} (hb : Bytes s) : readFrm s = fromFrm s:=by
 unfold readFrm fromFrm;by_cases h : frErr (lxFrm s).1 = 0 ∧ frmBytes (lxFrm s).1 = s
 ·rw [if_pos h]
  have hr:=rd_frm (frErr_zero.1 h.1) [];rw [List.append_nil,h.2] at hr;rw [hr];simp only [h.1,if_true]
 ·rw [if_neg h]
  split
  ·rename_i f e
   have h1:=lx_of_frm e;have h2:=wr_frm hb e;rw [List.append_nil] at h2;by_cases e2 : frErr f = 0
   ·exact absurd (show frErr (lxFrm s).1 = 0 ∧ frmBytes (lxFrm s).1 = s from by rw [h1]; exact ⟨e2,h2.symm⟩) h
   ·rw [if_neg e2]
  ·rfl
theorem read_written {f : Frm} (h : FrmOk f) : readFrm (frmBytes f) = some f:=by
 have hr:=rd_frm h [];rw [List.append_nil] at hr;unfold readFrm;rw [hr];simp only [frErr_zero.2 h,if_true]
theorem read_some {s : List Int} {f : Frm} (hb : Bytes s) (h : readFrm s = some f) : frErr f = 0 ∧ frmBytes f = s:=by
 rw [read_from hb] at h;unfold fromFrm at h;by_cases e : frErr (lxFrm s).1 = 0 ∧ frmBytes (lxFrm s).1 = s
 ·rw [if_pos e] at h
  injection h with h;subst h;exact e
 ·rw [if_neg e] at h; cases h
end Go.Proofs.Ytibpmogmeoappaa
namespace Go.Proofs.Ytibpmogmeoappaa
def strL (s : ByteArray) : List Int:=s.data.toList.map fun b=>(b.toNat : Int)
def mkS (l : List Int) : ByteArray:=⟨(l.map fun n=>UInt8.ofNat n.toNat).toArray⟩
theorem strL_len (s : ByteArray) : (strL s).length = s.size:=by
 obtain ⟨d⟩:=s;simp [strL,ByteArray.size]
theorem strL_bytes (s : ByteArray) : Bytes (strL s):=by
 intro b hb;simp only [strL,List.mem_map] at hb;obtain ⟨x,_,rfl⟩:=hb;have:=x.toNat_lt;omega
theorem strL_inj {a b : ByteArray} (h : strL a = strL b) : a = b:=by
 obtain ⟨⟨x⟩⟩:=a;obtain ⟨⟨y⟩⟩:=b
 have e : x = y:=by
  have h : x.map (fun b=>(b.toNat : Int)) = y.map (fun b=>(b.toNat : Int)):=h;exact (List.map_inj_right fun p q e=>UInt8.toNat_inj.1 (Int.ofNat.inj e)).1 h
 rw [e]
theorem strL_mk {l : List Int} (h : Bytes l) : strL (mkS l) = l:=by
 simp only [strL,mkS,List.map_map]
 conv=>rhs; rw [← List.map_id l]
 refine List.map_congr_left fun n hn=>?_;have:=h n hn;simp only [Function.comp,id,UInt8.toNat_ofNat'];omega
theorem strL_eq {s : ByteArray} {l : List Int} (h : strL s = l) : s = mkS l:=by
 refine strL_inj ?_;rw [strL_mk (h ▸ strL_bytes s),h]
theorem strL_beq (a b : ByteArray) : (a.toList == b.toList) = decide (strL a = strL b):=by
 rw [ByteArray.toList_eq,ByteArray.toList_eq];by_cases e : a = b
 ·subst e; simp
 ·rw [decide_eq_false (fun h=>e (strL_inj h))]
  obtain ⟨⟨x⟩⟩:=a;obtain ⟨⟨y⟩⟩:=b;simp only [beq_eq_false_iff_ne];intro h;exact e (by rw [show x = y from h])
theorem strL_get (s : ByteArray) (i : Nat) (h : i < s.size) : (s[i].toNat : Int) = (strL s).getD i 0:=by
 obtain ⟨⟨d⟩⟩:=s;have h2 : i < d.length:=by simpa [ByteArray.size] using h
 simp only [strL,List.getD_eq_getElem?_getD,List.getElem?_map,List.getElem?_eq_getElem h2];rfl
theorem strL_drop (s : ByteArray) (i : Nat) : strL (s.extract i s.size) = (strL s).drop i:=by
 obtain ⟨⟨d⟩⟩:=s;simp only [strL,ByteArray.data_extract,ByteArray.size,Array.toList_extract];simp [List.extract_eq_take_drop]
 rw [List.take_of_length_le (by simp)]
end Go.Proofs.Ytibpmogmeoappaa
