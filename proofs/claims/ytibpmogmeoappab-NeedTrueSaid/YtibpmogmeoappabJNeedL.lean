/- What NeedTrue's calls answer, of a right frame. -/
import Derived.Test.YtibpmogmeoappabJNeed3
import Derived.Test.YtibpmogmeoappabJNeed2
import Derived.Test.YtibpmogmeoappabJLawI
namespace Go.Proofs.Ytibpmogmeoappab
open Go.RowKit
def RetImIf (w : World) (an : Img) (e : Ending) (w' : World) : Prop :=
 ∃ (W H : Int) (P : List Int) (A : Option Addr) (n c : Nat) (x : Int),(x = 0 → Img.mk W H P = an) ∧ P.length ≤ 65536 ∧ P.length = n ∧ e = .returned (.tuple #[.agg #[.int .i64 W,.int .i64 H,.slice A n c],.int .i64 x]) ∧ Ints w' A P ∧ Below w.heap.size w w'
theorem frmOk_few {W H S O : Int} {ps : List Pas} (h : FrmOk ⟨W,H,S,O,ps⟩) : ∀ p ∈ ps,p.L.length ≤ 8:=by
 intro p hp;obtain ⟨i,hi,rfl⟩:=List.getElem_of_mem hp;have h1:=(h.pass (k:=i) hi).few
 have e : Frm.pas ⟨W,H,S,O,ps⟩ i = ps[i]:=by
  unfold Frm.pas;rw [List.getD_eq_getElem?_getD,List.getElem?_eq_getElem hi];rfl
 rw [e] at h1;exact h1
structure NeedT (W H S O : Int) (PA : Option Addr) (n c : Nat) (ps : List Pas) (kk : Int) (cl : List Pas) (an : Img) (kl : List Bool) : Prop where
 rend : ∀ W0 : World,Passes W0 PA ps → Calls Try.prog 31 #[.agg #[.int .i64 W,.int .i64 H,.int .i64 S,.int .i64 O,.slice PA n c]] W0 (RetIm W0 an 0)
 cull : ∀ W0 : World,Passes W0 PA ps → Calls Try.prog 37 #[.agg #[.int .i64 W,.int .i64 H,.int .i64 S,.int .i64 O,.slice PA n c]] W0 (RetFrm W0 ⟨W,H,S,O,cl⟩ 0)
 rendC : ∀ (A : Option Addr) (m d : Nat) (W0 : World),cl.length = m → Passes W0 A cl → Calls Try.prog 31 #[.agg #[.int .i64 W,.int .i64 H,.int .i64 S,.int .i64 O,.slice A m d]] W0 (RetIm W0 an 0)
 cullC : ∀ (A : Option Addr) (m d : Nat) (W0 : World),cl.length = m → Passes W0 A cl → Calls Try.prog 37 #[.agg #[.int .i64 W,.int .i64 H,.int .i64 S,.int .i64 O,.slice A m d]] W0 (RetFrm W0 ⟨W,H,S,O,cl⟩ 0)
 kept : ∀ W0 : World,Passes W0 PA ps → Calls Try.prog 38 #[.agg #[.int .i64 W,.int .i64 H,.int .i64 S,.int .i64 O,.slice PA n c]] W0 (RetBools W0 kl 0)
 own : ∀ W0 : World,Passes W0 PA ps → Calls Try.prog 41 #[.agg #[.int .i64 W,.int .i64 H,.int .i64 S,.int .i64 O,.slice PA n c]] W0 (RetOwnF W0 ⟨W,H,S,O,ps⟩)
 rendK : ∀ x : Nat,x < n → kl.getD x false = false → ∀ (A : Option Addr) (m d : Nat) (W0 : World),ps.length = m → Passes W0 A (ps.set x (withK (ps.getD x noPas) kk)) → Calls Try.prog 31 #[.agg #[.int .i64 W,.int .i64 H,.int .i64 S,.int .i64 O,.slice A m d]] W0 (RetImIf W0 an)
 klen : kl.length = n
 alen : an.P.length ≤ 65536
 many : 1 ≤ n ∧ n ≤ 12
 clen : cl.length ≤ 9223372036854775807
theorem needT (W H S O : Int) (PA : Option Addr) (n c : Nat) (ps : List Pas) (kk : Int) (hn : ps.length = n) (he : frErr ⟨W,H,S,O,ps⟩ = 0) :
 ∃ (cl : List Pas) (an : Img) (kl : List Bool),NeedT W H S O PA n c ps kk cl an kl:=by
 have hok:=frErr_zero.1 he;have hcok:=cull_ok_ hok;have hec:=frErr_zero.2 hcok;have e1 : cullAns ⟨W,H,S,O,ps⟩ = frCull ⟨W,H,S,O,ps⟩:=if_pos he;have e2 : cullAns (frCull ⟨W,H,S,O,ps⟩) = frCull ⟨W,H,S,O,ps⟩:=(if_pos hec).trans (cull_twice hok)
 have e3 : frAns (frCull ⟨W,H,S,O,ps⟩) = frAns ⟨W,H,S,O,ps⟩:=by
  unfold frAns;rw [if_pos he,if_pos hec];exact cull_shown hok
 have e4 : keptAns ⟨W,H,S,O,ps⟩ = keptL ⟨W,H,S,O,ps⟩:=if_pos he;have hm:=hok.many;have hlen:=frAns_len ⟨W,H,S,O,ps⟩;refine ⟨cullTo ⟨W,H,S,O,ps⟩ ps.length,frAns ⟨W,H,S,O,ps⟩,keptL ⟨W,H,S,O,ps⟩,?_,?_,?_,?_,?_,?_,?_,?_,hlen,?_,?_⟩
 ·intro W0 h1
  have:=render_any W H S O PA n c ps W0 hn h1
  rwa [he] at this
 ·intro W0 h1
  have:=cull_any W H S O PA n c ps W0 hn h1
  rwa [he,e1] at this
 ·intro A m d W0 h0 h1
  have:=render_any W H S O A m d _ W0 h0 h1;rw [show (⟨W,H,S,O,cullTo ⟨W,H,S,O,ps⟩ ps.length⟩ : Frm) = frCull ⟨W,H,S,O,ps⟩ from rfl,hec,e3] at this;exact this
 ·intro A m d W0 h0 h1
  have:=cull_any W H S O A m d _ W0 h0 h1;rw [show (⟨W,H,S,O,cullTo ⟨W,H,S,O,ps⟩ ps.length⟩ : Frm) = frCull ⟨W,H,S,O,ps⟩ from rfl,hec,e2] at this;exact this
 ·intro W0 h1
  have:=kept_any W H S O PA n c ps W0 hn h1
  rwa [he,e4] at this
 ·intro W0 h1
  exact ownFrame_any W H S O PA n c ps W0 hn h1 (by have:=hm.2; simp only at this; omega) (frmOk_few hok)
 ·intro x hx hk A m d W0 h0 h1
  have h:=render_any W H S O A m d _ W0 (by rw [List.length_set]; exact h0) h1;refine h.mono ?_;rintro e w' ⟨W1,H1,P1,A1,n1,c1,hr,hn1,rfl,hI,hE⟩;have hl1:=frAns_len ⟨W,H,S,O,ps.set x (withK (ps.getD x noPas) kk)⟩;rw [← hr] at hl1;refine ⟨W1,H1,P1,A1,n1,c1,_,fun hz=>?_,hl1,hn1,rfl,hI,hE⟩;rw [hr];have:=setK_shown hok (x:=x) (k:=kk) (by simp only [hn]; exact hx) hk;unfold frAns;rw [if_pos hz,if_pos he];exact this
 ·rw [keptL_len]; exact hn
 ·simp only [hn] at hm; exact hm
 ·have:=cullTo_le ⟨W,H,S,O,ps⟩ ps.length
  have:=hm.2;simp only at this;omega
end Go.Proofs.Ytibpmogmeoappab
