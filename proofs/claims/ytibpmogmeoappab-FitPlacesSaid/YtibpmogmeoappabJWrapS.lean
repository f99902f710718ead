/- Spans that came in: a slice of structs reads as cells. -/
import Derived.Test.YtibpmogmeoappabJWrap
import Derived.Test.YtibpmogmeoappabJPlnE
set_option maxRecDepth 100000
namespace Go.Proofs.Ytibpmogmeoappab
open Go.ChangeShapes Go.WideShapes Go.ChangeAt Go.RowKit Go.Deep
theorem flat2_get : ∀ (l : List Spn) (i j : Nat) (hi : i < l.length),j < 2 → (l.flatMap spnCells)[i * 2 + j]? = (spnCells l[i])[j]?
 | [],i,j,hi,_=>by simp at hi
 | x :: l, 0, j, _, hj => by
   rw [List.flatMap_cons,Nat.zero_mul,Nat.zero_add,List.getElem?_append_left (by simp [spnCells]; omega)];rfl
 | x :: l, i + 1, j, hi, hj => by
   rw [List.flatMap_cons,List.getElem?_append_right (by simp [spnCells]; omega),show (i + 1) * 2 + j - (spnCells x).length = i * 2 + j by simp [spnCells]; omega];exact flat2_get l i j (by simpa using hi) hj
theorem spns_of {W : World} {A : Option Addr} {l : List Spn} (h : ∀ i (hi : i < l.length),∃ b o,A = some ⟨b,o,none⟩ ∧ b < W.heap.size ∧ ∀ j,j < 2 → W.cell? ⟨b,o + i * 2 + j,none⟩ = some ((spnCells l[i]).getD j undef)) : Spns W A l:=by
 intro t ht;have hl : (l.flatMap spnCells).length = l.length * 2:=flatMap_len spnCells 2 (fun _=>rfl) l;rw [hl] at ht;have hi : t / 2 < l.length:=by omega
 obtain ⟨b,o,e,hb,hc⟩:=h (t / 2) hi;refine ⟨b,o,e,hb,?_⟩;have h1:=hc (t % 2) (by omega);have h2:=flat2_get l (t / 2) (t % 2) hi (by omega);have e2 : t / 2 * 2 + t % 2 = t:=by omega
 rw [e2] at h2;rw [show o + t / 2 * 2 + t % 2 = o + t by omega] at h1;rw [h1,List.getD_eq_getElem?_getD,List.getD_eq_getElem?_getD,h2]
theorem spans_in {H : Type} {enc : TypeId × Value → H} {W : World} {base : Nat} {n : Nat} {v : Value} {y : DataW H × List MemPlace}
 (h : DataW.trod enc Try.prog W base (fun _=>true) true n 32 [v] = some y) : ∃ (A : Option Addr) (len cap : Nat) (ls : List Spn),v = .slice A len cap ∧ ls.length = len ∧ Spns W A ls ∧ len ≤ 9223372036854775807:=by
 rcases open_slice Try.underlying32 h with ⟨hcs,_⟩ | ⟨a,len,cap,m,n',D,Pl,hcs,_,hl,hm,hmm,_,hi⟩
 ·injection hcs with hv
  exact ⟨none,0,0,[],hv,rfl,Cells.nil _ _,by omega⟩
 ·injection hcs with hv
  have hC : Try.prog.cellsOf 41 = 2:=by kernel_rfl
  have hlm : len ≤ m:=by rw [hmm]; simp only [if_true]; exact hl
  have hone : oneCellFields Try.prog (match Try.prog.underlying 41 with | some (.struct fs)=>fs | _=>#[]) = true:=by kernel_rfl
  have hsp : 0 < len → a = ⟨a.block,a.off,none⟩:=by
   intro h0;obtain ⟨cs',h1,h2⟩:=hi 0 (by omega);obtain ⟨m',hf⟩:=struct_at Try.underlying41 hone h1 h2;obtain ⟨v0,y0,c0,_⟩:=hf 0 _ rfl (by rw [hC]; omega);rw [add_add,Nat.zero_mul] at c0;exact spine_none (a:=a) (by simpa [Addr.add] using c0)
  have key : ∀ i,i < len → ∃ l : Spn,a = ⟨a.block,a.off,none⟩ ∧ a.block < W.heap.size ∧ ∀ j,j < 2 → W.cell? ⟨a.block,a.off + i * 2 + j,none⟩ = some ((spnCells l).getD j undef):=by
   intro i hil;obtain ⟨cs',h1,h2⟩:=hi i (by omega);obtain ⟨m',hf⟩:=struct_at Try.underlying41 hone h1 h2;rw [hC] at hf;obtain ⟨v0,y0,c0,t0⟩:=hf 0 _ rfl (by omega);obtain ⟨v1,y1,c1,t1⟩:=hf 1 _ rfl (by omega);obtain ⟨x0,e0,_,_⟩:=DataW.trod_int Try.underlying3 t0;obtain ⟨x1,e1,_,_⟩:=DataW.trod_int Try.underlying3 t1;injection e0 with e0;injection e1 with e1;subst e0 e1;rw [add_add] at c0 c1;have hsp:=hsp (by omega);rw [hsp,Addr.add_lit] at c0 c1;refine ⟨⟨x0,x1⟩,hsp,World.block_lt_of_cell? W ⟨a.block,_,none⟩ c0,fun j hj=>?_⟩;rw [Nat.add_assoc];rcases j with _ | _ | j
   ·exact c0
   ·exact c1
   ·omega
  obtain ⟨f,hf⟩:=@choose_lt Spn ⟨⟨0,0⟩⟩ len _ key;refine ⟨some a,len,cap,(List.range len).map f,hv,by simp,?_,?_⟩
  ·refine spns_of fun i hil=>?_
   have hil' : i < len:=by simpa using hil
   obtain ⟨h1,h2,h3⟩:=hf i hil';refine ⟨a.block,a.off,by rw [← h1],h2,fun j hj=>?_⟩;rw [h3 j hj];simp
  ·have : len ≤ maxLen:=Nat.le_trans hl hm
   unfold maxLen at this;exact this
theorem spans_param {H : Type} {enc : TypeId × Value → H} {W : World} {r : Reach} {b0 : Nat} {v : Value} {d : DataW H} {p : List MemPlace}
 (hv : Value.okWide Try.prog W r b0 32 v) (h : DataW.Trod enc Try.prog W 0 (fun _=>true) true 32 v d p) :
 ∃ (A : Option Addr) (len cap : Nat) (ls : List Spn),v = .slice A len cap ∧ ls.length = len ∧ Spns W A ls ∧ len ≤ 9223372036854775807:=by
 obtain ⟨A,n,c,rfl⟩:=okWide_slice Try.underlying32 hv;obtain ⟨k,hk⟩:=h;exact spans_in hk
end Go.Proofs.Ytibpmogmeoappab
