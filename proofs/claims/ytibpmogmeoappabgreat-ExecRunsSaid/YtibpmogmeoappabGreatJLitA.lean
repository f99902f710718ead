/- Walks over lights: CheckLights and light.Check. -/
import Derived.Test.YtibpmogmeoappabGreatProg
import Derived.Test.YtibpmogmeoappabGreatJMem
import Derived.Test.YtibpmogmeoappabGreatJPlain
set_option maxRecDepth 100000
set_option maxHeartbeats 2000000
namespace Go.Proofs.YtibpmogmeoappabGreat
open Go.RowKit
def lampCells (l : Lamp) : List Value:=[.int .i64 l.X,.int .i64 l.Y,.int .i64 l.R,.int .i64 l.K]
def Lamps (w : World) (A : Option Addr) (ls : List Lamp) : Prop :=
 ∀ i,i < ls.length → ∃ b o,A = some ⟨b,o,none⟩ ∧ b < w.heap.size ∧ ∀ j,j < 4 → w.cell? ⟨b,o + i * 4 + j,none⟩ = some ((lampCells (ls.getD i ⟨0,0,0,0⟩)).getD j undef)
theorem Lamps.keep {w w' : World} {A : Option Addr} {ls : List Lamp} (h : Lamps w A ls) (hb : Below w.heap.size w w') : Lamps w' A ls:=by
 intro i hi;obtain ⟨b,o,hA,hlt,hc⟩:=h i hi;exact ⟨b,o,hA,Nat.lt_of_lt_of_le hlt hb.size,fun j hj=>by rw [(bcell hb).1 b _ hlt]; exact hc j hj⟩
theorem Lamps.at_ {w : World} {A : Option Addr} {ls : List Lamp} (h : Lamps w A ls) (i : Nat) (hi : i < ls.length) :
 ∃ b o l,A = some ⟨b,o,none⟩ ∧ b < w.heap.size ∧ ls[i]? = some l ∧ w.cell? ⟨b,o + i * 4,none⟩ = some (.int .i64 l.X) ∧ w.cell? ⟨b,o + i * 4 + 1,none⟩ = some (.int .i64 l.Y) ∧ w.cell? ⟨b,o + i * 4 + 2,none⟩ = some (.int .i64 l.R) ∧ w.cell? ⟨b,o + i * 4 + 3,none⟩ = some (.int .i64 l.K):=by
 obtain ⟨b,o,hA,hlt,hc⟩:=h i hi;have e : ls.getD i ⟨0,0,0,0⟩ = ls[i]:=by rw [List.getD_eq_getElem?_getD,List.getElem?_eq_getElem hi]; rfl
 rw [e] at hc;exact ⟨b,o,ls[i],hA,hlt,List.getElem?_eq_getElem hi,hc 0 (by omega),hc 1 (by omega),hc 2 (by omega),hc 3 (by omega)⟩
def FineUpTo (ls : List Lamp) (k : Nat) : Prop:=∀ i,i < k → ∀ l,ls[i]? = some l → l.Fine
theorem fineUpTo_succ {ls : List Lamp} {k : Nat} {l : Lamp} (h : FineUpTo ls k) (hl : ls[k]? = some l) (hf : l.Fine) : FineUpTo ls (k + 1):=by
 intro i hi y hy;by_cases e : i = k
 ·subst e; rw [hl] at hy; injection hy with hy; subst hy; exact hf
 ·exact h i (by omega) y hy
theorem fineUpTo_all {ls : List Lamp} {n : Nat} (h : FineUpTo ls n) (hn : ls.length = n) (h8 : n ≤ 8) : lampsErr ls = 0:=by
 unfold lampsErr;rw [if_neg (by omega),if_pos];intro l hl;obtain ⟨i,hi,rfl⟩:=List.getElem_of_mem hl;exact h i (by omega) _ (List.getElem?_eq_getElem hi)
theorem not_fine_lamp {ls : List Lamp} {n k : Nat} {l : Lamp} (hl : ls[k]? = some l) (hn : ls.length = n) (h8 : n ≤ 8) (h : ¬ l.Fine) : lampsErr ls = 3 :=
 lampsErr_three (by omega) (List.mem_of_getElem? hl) h
theorem checkLights_ref (A : Option Addr) (n c : Nat) (ls : List Lamp) (w : World) (hn : ls.length = n) (hL : Lamps w A ls) (hl : n ≤ 9223372036854775807) :
 Calls Tryz.prog 63 #[.slice A n c] w fun e w'=>e = .returned (.int .i64 (lampsErr ls)) ∧ w = w':=by
 have HN:=hide hn;clear hn;by_cases h8 : 8 < n
 ·have he : lampsErr ls = 2:=if_pos (by rw [HN.out]; exact h8)
  rw [he];clear he;have h8' : (8 : Int) < (n : Int):=by omega
  go_enter Tryz.func63,Tryz.ntmps63
  go_wp2
  go_ret;exact ⟨rfl,rfl⟩
 ·have h8' : ¬ (8 : Int) < (n : Int):=by omega
  go_enter Tryz.func63,Tryz.ntmps63
  go_wp2
  go_loop [3] (fun i=>∃ k : Nat,k ≤ n ∧ i = .int .i64 k ∧ FineUpTo ls k) (fun i=>n - (intOf i).toNat)
  case atStart=>exact ⟨0,Nat.zero_le _,rfl,by intro i hi; omega⟩
  case round =>
   obtain ⟨k,hk,rfl,hF⟩:=hrel;have HF:=hide hF;clear hF;by_cases hlt : k < n
   ·obtain ⟨b,o,l,rfl,hb,hx,c0,c1,c2,c3⟩:=hL.at_ k (by have:=HN.out; omega)
    have HX:=hide hx;clear hx;by_cases hf : l.Fine
    ·obtain ⟨⟨f1,f2⟩,⟨f3,f4⟩,⟨f5,f6⟩,⟨f7,f8⟩⟩:=id hf
     have HFi:=hide hf;clear hf;go_wp2
     go_round
     case rel=>exact ⟨k + 1,by omega,by go_num,fineUpTo_succ HF.out HX.out HFi.out⟩
     case measure=>simp [intOf]; omega
    ·have HNF:=hide hf
     have HE:=hide (not_fine_lamp HX.out HN.out (by omega) hf);clear hf;go_wp2
     all_goals (try simp only [Bool.not_eq_true',Bool.not_eq_false',decide_eq_true_eq,decide_eq_false_iff_not] at *)
     all_goals first | (exfalso; exact HNF.out ⟨⟨by omega,by omega⟩,⟨by omega,by omega⟩,⟨by omega,by omega⟩,⟨by omega,by omega⟩⟩) | (go_ret; exact ⟨ret_int HE.out.symm,rfl⟩)
   ·go_wp2
    go_ret;obtain rfl : k = n:=by omega
    exact ⟨ret_int (fineUpTo_all HF.out HN.out (by omega)).symm,rfl⟩
theorem checkLights_any (A : Option Addr) (n c : Nat) (ls : List Lamp) (w : World) (hn : ls.length = n) (hL : Lamps w A ls) (hl : n ≤ 9223372036854775807) :
 Calls Tryz.prog 76 #[.slice A n c] w fun e w'=>e = .returned (.int .i64 (lampsErr ls)) ∧ Below w.heap.size w w':=by
 have HN:=hide hn;clear hn;by_cases h8 : 8 < n
 ·have he : lampsErr ls = 2:=if_pos (by rw [HN.out]; exact h8)
  rw [he];clear he;have h8' : (8 : Int) < (n : Int):=by omega
  go_enter Tryz.func76,Tryz.ntmps76
  go_wp2
  go_ret;exact ⟨rfl,Below.refl _ _⟩
 ·have h8' : ¬ (8 : Int) < (n : Int):=by omega
  go_enter Tryz.func76,Tryz.ntmps76
  go_wp2
  go_loopw [4,10] (fun _ i wr=>∃ k : Nat,k ≤ n ∧ i = .int .i64 k ∧ FineUpTo ls k ∧ Below w.heap.size w wr) (fun _ i _=>n - (intOf i).toNat)
  case atStart=>exact ⟨0,Nat.zero_le _,rfl,(by intro i hi; omega),Below.refl _ _⟩
  case round =>
   obtain ⟨k,hk,rfl,hF,hB⟩:=hrel;have HF:=hide hF;have HB:=hide hB;clear hF hB;by_cases hlt : k < n
   ·have hk0 : (k : Int) < (n : Int):=by omega
    obtain ⟨b,o,l,rfl,hb,hx,c0,c1,c2,c3⟩:=(hL.keep HB.out).at_ k (by have:=HN.out; omega);have HX:=hide hx;clear hx;by_cases hf : l.Fine
    ·obtain ⟨⟨f1,f2⟩,⟨f3,f4⟩,⟨f5,f6⟩,⟨f7,f8⟩⟩:=id hf
     have HFi:=hide hf;clear hf;go_wp2
     go_roundw
     case rel=>exact ⟨k + 1,by omega,by go_num,fineUpTo_succ HF.out HX.out HFi.out,HB.out.alloc HB.out.size _⟩
     case measure=>simp [intOf]; omega
    ·have HNF:=hide hf
     have HE:=hide (not_fine_lamp HX.out HN.out (by omega) hf);clear hf;go_wp2
     all_goals (try simp only [Bool.not_eq_true',Bool.not_eq_false',decide_eq_true_eq,decide_eq_false_iff_not] at *)
     all_goals first | (exfalso; exact HNF.out ⟨⟨by omega,by omega⟩,⟨by omega,by omega⟩,⟨by omega,by omega⟩,⟨by omega,by omega⟩⟩) | (go_ret; exact ⟨ret_int HE.out.symm,HB.out.alloc HB.out.size _⟩)
   ·go_wp2
    go_ret;obtain rfl : k = n:=by omega
    exact ⟨ret_int (fineUpTo_all HF.out HN.out (by omega)).symm,HB.out⟩
end Go.Proofs.YtibpmogmeoappabGreat
namespace Go.Proofs.YtibpmogmeoappabGreat
open Go.RowKit
theorem flatMap_get {α β : Type} (f : α → List β) (k : Nat) (hf : ∀ x,(f x).length = k) : ∀ (ls : List α) (i j : Nat) (hi : i < ls.length),j < k → (ls.flatMap f)[i * k + j]? = (f ls[i])[j]?
 | [],i,j,hi,_=>by simp at hi
 | x :: ls, 0, j, hi, hj => by
   rw [List.flatMap_cons,Nat.zero_mul,Nat.zero_add,List.getElem?_append_left (by rw [hf]; exact hj)];rfl
 | x :: ls, i + 1, j, hi, hj => by
   have hi' : i < ls.length:=by simpa using hi
   rw [List.flatMap_cons,List.getElem?_append_right (by rw [hf,Nat.succ_mul]; omega),hf,show (i + 1) * k + j - k = i * k + j by rw [Nat.succ_mul]; omega,flatMap_get f k hf ls i j hi' hj];rfl
theorem flatMap_len {α β : Type} (f : α → List β) (k : Nat) (hf : ∀ x,(f x).length = k) (ls : List α) : (ls.flatMap f).length = ls.length * k:=by
 induction ls with
 | nil=>simp
 | cons x ls ih=>rw [List.flatMap_cons,List.length_append,ih,hf,List.length_cons,Nat.succ_mul]; omega
theorem cells_flat {w : World} {A : Option Addr} {α : Type} {f : α → List Value} {k : Nat} {ls : List α} (hf : ∀ x,(f x).length = k) (h : Cells w A (ls.flatMap f)) {i : Nat} (hi : i < ls.length) (h0 : 0 < k) :
 ∃ b o,A = some ⟨b,o,none⟩ ∧ b < w.heap.size ∧ ∀ j,j < k → w.cell? ⟨b,o + i * k + j,none⟩ = some ((f ls[i]).getD j undef):=by
 have hlen:=flatMap_len f k hf ls;have hik : i * k + k ≤ ls.length * k:=by rw [← Nat.succ_mul]; exact Nat.mul_le_mul_right k hi
 obtain ⟨b,o,hA,hlt,_⟩:=h (i * k) (by omega);refine ⟨b,o,hA,hlt,fun j hj=>?_⟩;obtain ⟨b',o',hA',_,hc⟩:=h (i * k + j) (by omega);rw [hA] at hA';injection hA' with hA';injection hA' with e1 e2;subst e1 e2;rw [Nat.add_assoc,hc,List.getD_eq_getElem?_getD,List.getD_eq_getElem?_getD,flatMap_get f k hf ls i j hi hj]
end Go.Proofs.YtibpmogmeoappabGreat
