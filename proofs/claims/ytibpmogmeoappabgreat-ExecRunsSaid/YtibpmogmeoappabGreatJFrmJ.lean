/- Walks: step (all classes). -/
import Derived.Test.YtibpmogmeoappabGreatJFrmI1
import Derived.Test.YtibpmogmeoappabGreatJMem
import Derived.Test.YtibpmogmeoappabGreatJPure
set_option maxRecDepth 100000
set_option maxHeartbeats 2000000
namespace Go.Proofs.YtibpmogmeoappabGreat
open Go.RowKit
def stepSz (W H S : Int) (p : Pas) (st : List Sz) : Sz:=if passErr S p st = 0 then passSize W H p st else ⟨0,0⟩
theorem step_any (g : Nat) (W H S O : Int) (PA : Option Addr) (n c : Nat) (SA : Option Addr) (N cN : Nat) (MA : Option Addr) (M cM : Nat) (st : List Sz) (mk : List Int) (p : Pas) (LA : Option Addr) (m d : Nat) (w : World)
 (hS : 1 ≤ S ∧ S ≤ 8) (hG : WalkBox w g W H S O PA n c SA N cN MA M cM) (hs : Sizes w SA st) (hM : Ints w MA mk) (hN : (N : Int) = S) (hst : st.length = N) (hMS : (M : Int) = S) (hmk : mk.length = M)
 (hfi : ∀ i : Int,0 ≤ i → SzFine (szAt st i)) (hmz : ∀ i : Int,slotIn S i = true → (mk.getD i.toNat 0 = 0 ↔ (szAt st i).W = 0)) (hm : p.L.length = m) (hL : Lamps w LA p.L) (hl : m ≤ 9223372036854775807) :
 Calls Tryz.prog 70 #[.pointer (some ⟨g,0,none⟩),.agg #[.int .i64 p.Op,.int .i64 p.To,.int .i64 p.A,.int .i64 p.B,.int .i64 p.K,.slice LA m d]] w (RetStep w (stepSz W H S p st) (passErr S p st)):=by
 by_cases hf : fieldsErr S p = 0
 ·obtain ⟨h0,_,_,_⟩:=fields_ok hf
  unfold stepSz;rcases op_class h0 with ⟨a,b,k,l,e1,e2,_⟩ | ⟨a,b,k,l,e,_⟩ | ⟨a,b,k,l,e1,e2,_⟩ | ⟨a,b,k,l,e1,e2,_⟩ | ⟨a,b,k,l,e1,e2,_⟩
  ·exact step_fill g W H S O PA n c SA N cN MA M cM st mk p LA m d w hS hG hs hM hN hst hMS hmk hfi hmz hm hL hl hf a b e1 e2
  ·rcases e with e | e | ⟨e1,e2⟩
   ·exact step_big g W H S O PA n c SA N cN MA M cM st mk p LA m d w hS hG hs hM hN hst hMS hmk hfi hmz hm hL hl hf a b e
   ·exact step_small g W H S O PA n c SA N cN MA M cM st mk p LA m d w hS hG hs hM hN hst hMS hmk hfi hmz hm hL hl hf a b e
   ·exact step_one g W H S O PA n c SA N cN MA M cM st mk p LA m d w hS hG hs hM hN hst hMS hmk hfi hmz hm hL hl hf a b e1 e2
  ·exact step_one g W H S O PA n c SA N cN MA M cM st mk p LA m d w hS hG hs hM hN hst hMS hmk hfi hmz hm hL hl hf a b e1 e2
  ·exact step_two g W H S O PA n c SA N cN MA M cM st mk p LA m d w hS hG hs hM hN hst hMS hmk hfi hmz hm hL hl hf a b e1 e2
  ·exact step_one g W H S O PA n c SA N cN MA M cM st mk p LA m d w hS hG hs hM hN hst hMS hmk hfi hmz hm hL hl hf a b e1 e2
 ·have hne : passErr S p st ≠ 0:=by rw [pe_of rfl hf]; exact hf
  unfold stepSz;rw [if_neg hne];exact step_bad g W H S O PA n c SA N cN MA M cM st mk p LA m d w hS hG hs hM hm hL hl hf
structure TBase (w : World) (f : Frm) (PA : Option Addr) (n c gs gm j : Nat) (A : Option Addr) (ka d : Nat) (B : Option Addr) (kb d' : Nat) (wr : World) : Prop where
 frm : FrmBox wr w.heap.size f.W f.H f.S f.O PA n c
 res : Blk wr (w.heap.size + 1) 90 [.slice none 0 0,.slice none 0 0]
 sizes : Blk wr gs 53 ((frSt f j).flatMap szCells)
 made : Blk wr gm 3 ((frMk f j).map (.int .i64))
 walk : WalkBox wr (w.heap.size + 4) f.W f.H f.S f.O PA n c (some ⟨gs,0,none⟩) f.S.toNat f.S.toNat (some ⟨gm,0,none⟩) f.S.toNat f.S.toNat
 tale : Blk wr (w.heap.size + 5) 90 [.slice A ka d,.slice B kb d']
 size : w.heap.size + 6 ≤ wr.heap.size
 below : Below w.heap.size w wr
section
variable {w : World} {f : Frm} {PA : Option Addr} {n c gs gm j ka d kb d' : Nat} {A B : Option Addr} {wr w1 : World}
theorem TBase.keep (h : TBase w f PA n c gs gm j A ka d B kb d' wr) (hb : Below wr.heap.size wr w1) : TBase w f PA n c gs gm j A ka d B kb d' w1 :=
 ⟨Blk.keep h.frm hb,h.res.keep hb,h.sizes.keep hb,h.made.keep hb,Blk.keep h.walk hb,h.tale.keep hb,Nat.le_trans h.size hb.size,h.below.trans (hb.mono h.below.size)⟩
theorem blkGrown {g : Nat} {t : TypeId} {bs : List Value} {own : Option Nat} (h : Blk wr g t bs) (hg : wr.grownBy w1 own) (hn : own ≠ some g) : Blk w1 g t bs:=(hg.block g h.lt (fun e=>hn e.symm)).trans h
theorem TBase.grown {own : Option Nat} (h : TBase w f PA n c gs gm j A ka d B kb d' wr) (hgs : gs < w.heap.size + 4) (hgm : gm < w.heap.size + 4) (hg : wr.grownBy w1 own) (hown : ∀ b,own = some b → w.heap.size + 6 ≤ b) : TBase w f PA n c gs gm j A ka d B kb d' w1:=by
 have hne : ∀ g,g < w.heap.size + 6 → own ≠ some g:=fun g hlt e=>by have:=hown g e; omega
 refine ⟨blkGrown h.frm hg (hne _ (by omega)),blkGrown h.res hg (hne _ (by omega)),blkGrown h.sizes hg (hne _ (by omega)),blkGrown h.made hg (hne _ (by omega)),blkGrown h.walk hg (hne _ (by omega)),blkGrown h.tale hg (hne _ (by omega)),Nat.le_trans h.size hg.size,?_⟩;exact h.below.grown hg h.below.size (fun b hb=>by have:=hown b hb; omega)
theorem TBase.store (h : TBase w f PA n c gs gm j A ka d B kb d' wr) (hgs : gs = w.heap.size + 2 ∧ gm = w.heap.size + 3 ∨ gs = w.heap.size + 3 ∧ gm = w.heap.size + 2) (hto : (f.pas j).To.toNat < f.S.toNat) :
 TBase w f PA n c gs gm (j + 1) A ka d B kb d' (((wr.setCell ⟨gs,(f.pas j).To.toNat * 2,none⟩ (.int .i64 (frSize f j).W)).setCell ⟨gs,(f.pas j).To.toNat * 2 + 1,none⟩ (.int .i64 (frSize f j).H)).setCell ⟨gm,(f.pas j).To.toNat,none⟩ (.int .i64 ((j : Int) + 1))):=by
 have h1:=(h.sizes.set_ ((f.pas j).To.toNat * 2) (.int .i64 (frSize f j).W)).set_ ((f.pas j).To.toNat * 2 + 1) (.int .i64 (frSize f j).H);rw [← flat_set _ _ _ (by rw [frSt_len]; exact hto)] at h1;have h2:=h.made.far (p:=⟨gs,(f.pas j).To.toNat * 2,none⟩) (by simp only; omega) (.int .i64 (frSize f j).W);have h3:=h2.far (p:=⟨gs,(f.pas j).To.toNat * 2 + 1,none⟩) (by simp only; omega) (.int .i64 (frSize f j).H);have h4:=h3.set_ ((f.pas j).To.toNat) (.int .i64 ((j : Int) + 1));have e4 : ((frMk f j).map (Value.int .i64)).set (f.pas j).To.toNat (.int .i64 ((j : Int) + 1)) = (frMk f (j + 1)).map (.int .i64):=by simp [frMk,List.map_set]
 rw [e4] at h4
 have far3 : ∀ {g : Nat} {t : TypeId} {bs : List Value},Blk wr g t bs → g ≠ gs → g ≠ gm → Blk (((wr.setCell ⟨gs,(f.pas j).To.toNat * 2,none⟩ (.int .i64 (frSize f j).W)).setCell ⟨gs,(f.pas j).To.toNat * 2 + 1,none⟩ (.int .i64 (frSize f j).H)).setCell ⟨gm,(f.pas j).To.toNat,none⟩ (.int .i64 ((j : Int) + 1))) g t bs :=
  fun hb e1 e2=>((hb.far (p:=⟨gs,_,none⟩) e1 _).far (p:=⟨gs,_,none⟩) e1 _).far (p:=⟨gm,_,none⟩) e2 _
 refine ⟨far3 h.frm (by omega) (by omega),far3 h.res (by omega) (by omega),h1.far (p:=⟨gm,_,none⟩) (by simp only; omega) _,h4,far3 h.walk (by omega) (by omega),far3 h.tale (by omega) (by omega),?_,?_⟩
 ·have:=h.size; simp only [World.setCell,Array.size_modify]; exact this
 ·exact ((h.below.setCell (p:=⟨gs,_,none⟩) (by simp only; omega) _).setCell (p:=⟨gs,_,none⟩) (by simp only; omega) _).setCell (p:=⟨gm,_,none⟩) (by simp only; omega) _
theorem TBase.tell {A1 B1 : Option Addr} {ka1 d1 kb1 d2 : Nat} (h : TBase w f PA n c gs gm j A ka d B kb d' wr) (hgs : gs < w.heap.size + 4) (hgm : gm < w.heap.size + 4) :
 TBase w f PA n c gs gm j A1 ka1 d1 B1 kb1 d2 ((wr.setCell ⟨w.heap.size + 5,0,none⟩ (.slice A1 ka1 d1)).setCell ⟨w.heap.size + 5,1,none⟩ (.slice B1 kb1 d2)):=by
 have far2 : ∀ {g : Nat} {t : TypeId} {bs : List Value},Blk wr g t bs → g ≠ w.heap.size + 5 → Blk ((wr.setCell ⟨w.heap.size + 5,0,none⟩ (.slice A1 ka1 d1)).setCell ⟨w.heap.size + 5,1,none⟩ (.slice B1 kb1 d2)) g t bs :=
  fun hb e1=>(hb.far (p:=⟨w.heap.size + 5,_,none⟩) e1 _).far (p:=⟨w.heap.size + 5,_,none⟩) e1 _
 refine ⟨far2 h.frm (by omega),far2 h.res (by omega),far2 h.sizes (by omega),far2 h.made (by omega),far2 h.walk (by omega),(h.tale.set_ 0 (.slice A1 ka1 d1)).set_ 1 (.slice B1 kb1 d2),?_,?_⟩
 ·have:=h.size; simp only [World.setCell,Array.size_modify]; exact this
 ·exact (h.below.setCell (p:=⟨w.heap.size + 5,_,none⟩) (by simp only; omega) _).setCell (p:=⟨w.heap.size + 5,_,none⟩) (by simp only; omega) _
theorem TBase.taleCells (h : TBase w f PA n c gs gm j A ka d B kb d' wr) :
 wr.cell? ⟨w.heap.size + 5,0,none⟩ = some (.slice A ka d) ∧ wr.cell? ⟨w.heap.size + 5,1,none⟩ = some (.slice B kb d') ∧ wr.frozen? ⟨w.heap.size + 5,0,none⟩ = false ∧ wr.frozen? ⟨w.heap.size + 5,1,none⟩ = false ∧ w.heap.size + 5 < wr.heap.size :=
 ⟨(h.tale.cell 0).trans rfl,(h.tale.cell 1).trans rfl,h.tale.frozen 0,h.tale.frozen 1,h.tale.lt⟩
theorem TBase.resCells (h : TBase w f PA n c gs gm j A ka d B kb d' wr) :
 wr.cell? ⟨w.heap.size + 1,0,none⟩ = some (.slice none 0 0) ∧ wr.cell? ⟨w.heap.size + 1,1,none⟩ = some (.slice none 0 0) ∧ wr.frozen? ⟨w.heap.size + 1,0,none⟩ = false ∧ wr.frozen? ⟨w.heap.size + 1,1,none⟩ = false ∧ w.heap.size + 1 < wr.heap.size :=
 ⟨(h.res.cell 0).trans rfl,(h.res.cell 1).trans rfl,h.res.frozen 0,h.res.frozen 1,h.res.lt⟩
end
abbrev ToldRows (w wr : World) (f : Frm) (k : Nat) (A : Option Addr) (d : Nat) (B : Option Addr) (d' : Nat) (es : List (List Value × Option Addr × List Value)) : Prop :=
 Two IntK 2 1 53 25 wr (w.heap.size + 6) A k d ((frAll f k).flatMap szCells) B k d' (srcsTo f k) es
def RetTale (w : World) (L : List Sz) (M : List (List Int)) (z : Int) (e : Ending) (w' : World) : Prop :=
 ∃ (A : Option Addr) (n c : Nat) (B : Option Addr) (m d : Nat),e = .returned (.tuple #[.agg #[.slice A n c,.slice B m d],.int .i64 z]) ∧ L.length = n ∧ M.length = m ∧ Sizes w' A L ∧ NewFrom w.heap.size A ∧ IntRowsN w' B M w.heap.size ∧ Below w.heap.size w w'
theorem retTale_none {w w' : World} {z : Int} (hb : Below w.heap.size w w') : RetTale w [] [] z (.returned (.tuple #[.agg #[.slice none 0 0,.slice none 0 0],.int .i64 z])) w' :=
 ⟨none,0,0,none,0,0,rfl,rfl,rfl,Cells.nil _ _,NewFrom.none_ _,IntRowsN.nil _ _ _,hb⟩
theorem frSources_no {f : Frm} (h : frErr f ≠ 0) : frSources f = []:=if_neg h
theorem tellOne {w : World} {f : Frm} {PA : Option Addr} {n c gs gm j k d d' LL m1 d1 R : Nat} {A B A1 : Option Addr} {es : List Sp} {wc X w9 : World} {A9 : Option Addr} {c9 : Nat} {L : List Value}
 (hgs : gs < w.heap.size + 4) (hgm : gm < w.heap.size + 4) (hT : TBase w f PA n c gs gm j A k d B k d' wc) (hR : ToldRows w wc f k A d B d' es) (hO : Own wc LL 3 1 A1 m1 d1 L)
 (hR1 : ∀ b,(Value.slice A k d).ownBlock = some b → b < R) (hR2 : ∀ b,(Value.slice B k d').ownBlock = some b → b < R) (hRL : R ≤ LL) (hb : Below wc.heap.size wc X)
 (ho : Own w9 (w.heap.size + 6) 53 2 A9 (k + 1) c9 ((frAll f k).flatMap szCells ++ szCells (frSize f k))) (hg : X.grownBy w9 (Value.slice A k d).ownBlock)
 (hat : (Value.slice A9 (k + 1) c9).ownBlock = (Value.slice A k d).ownBlock ∨ (Value.slice A9 (k + 1) c9).ownBlock = some X.heap.size) :
 TBase w f PA n c gs gm j A k d B k d' w9 ∧ Two IntK 2 1 53 25 w9 (w.heap.size + 6) A9 (k + 1) c9 ((frAll f k).flatMap szCells ++ szCells (frSize f k)) B k d' (srcsTo f k) es ∧ Own w9 LL 3 1 A1 m1 d1 L ∧
  (∀ a,A1 = some a → (Value.slice A9 (k + 1) c9).ownBlock ≠ some a.block) ∧ (∀ a,A1 = some a → (Value.slice B k d').ownBlock ≠ some a.block) ∧ (∀ x ty cs,R ≤ x → Blk X x ty cs → Blk w9 x ty cs) ∧ X.heap.size ≤ w9.heap.size:=by
 have hTX:=hT.keep hb;have hRX:=hR.keep hb;have hOX:=hO.keep hb;have hl : ∀ a,A1 = some a → LL ≤ a.block ∧ a.block < wc.heap.size:=fun a ha=>by subst ha; exact hO.lt rfl
 have hne : ∀ x,R ≤ x → (Value.slice A k d).ownBlock ≠ some x:=fun x hx e=>by have:=hR1 x e; omega
 refine ⟨hTX.grown hgs hgm hg (fun b hb=>(hRX.one.lt hb).1),hRX.app1 ho hg hat,hOX.grownFar hg (fun b hb e=>?_),fun a ha e=>?_,fun a ha e=>?_,fun x ty cs hx hB=>blkGrown hB hg (hne x hx),hg.size⟩
 ·have:=hO.lt hb; exact hne b (by omega) e
 ·have h1:=hl a ha
  rcases hat with e1 | e1
  ·rw [e1] at e; exact hne _ (by omega) e
  ·rw [e1] at e; injection e with e
   have:=hb.size;omega
 ·have h1:=hl a ha
  have:=hR2 _ e;omega
theorem tellTwo {w : World} {f : Frm} {PA : Option Addr} {n c gs gm j k d d' LL m1 d1 : Nat} {A B A1 : Option Addr} {es : List Sp} {w9 X w10 : World} {A9 B9 : Option Addr} {c9 d9 : Nat}
 (hgs : gs < w.heap.size + 4) (hgm : gm < w.heap.size + 4) (hT : TBase w f PA n c gs gm j A k d B k d' w9) (hR : Two IntK 2 1 53 25 w9 (w.heap.size + 6) A9 (k + 1) c9 ((frAll f k).flatMap szCells ++ szCells (frSize f k)) B k d' (srcsTo f k) es)
 (hO : Own w9 LL 3 1 A1 m1 d1 ((srcs f k).map (.int .i64))) (hm : (srcs f k).length = m1) (hL : w.heap.size + 6 ≤ LL) (h1 : ∀ a,A1 = some a → (Value.slice A9 (k + 1) c9).ownBlock ≠ some a.block) (h2 : ∀ a,A1 = some a → (Value.slice B k d').ownBlock ≠ some a.block)
 (hb : Below w9.heap.size w9 X) (ho : Own w10 (w.heap.size + 6) 25 1 B9 (k + 1) d9 (es.flatMap (·.1) ++ [.slice A1 m1 d1])) (hg : X.grownBy w10 (Value.slice B k d').ownBlock)
 (hat : (Value.slice B9 (k + 1) d9).ownBlock = (Value.slice B k d').ownBlock ∨ (Value.slice B9 (k + 1) d9).ownBlock = some X.heap.size) :
 TBase w f PA n c gs gm j A k d B k d' w10 ∧ ToldRows w w10 f (k + 1) A9 c9 B9 d9 (es ++ [([.slice A1 m1 d1],A1,(srcs f k).map (.int .i64))]):=by
 have hTX:=hT.keep hb;have hRX:=hR.keep hb;have hOX:=hO.keep hb;refine ⟨hTX.grown hgs hgm hg (fun b hb=>(hRX.two.own.lt hb).1),?_⟩;have h:=hRX.app2 (x:=srcs f k) (news:=[.slice A1 m1 d1]) (D:=A1) (ds:=(srcs f k).map (.int .i64)) ⟨m1,d1,rfl,hm,rfl⟩ hOX.cells (fun _=>h1) (fun _=>h2) (fun _=>(hO.new).mono hL) ho hg hat;unfold ToldRows;rw [frAll_succ,srcsTo_succ,List.flatMap_append]
 simpa using h
end Go.Proofs.YtibpmogmeoappabGreat
namespace Go.Proofs.YtibpmogmeoappabGreat
open Go.RowKit
theorem told_b1 (W H S O : Int) (PA : Option Addr) (n c : Nat) (w : World) (_h1 : W < 1) :
 Calls Tryz.prog 44 #[.agg #[.int .i64 W,.int .i64 H,.int .i64 S,.int .i64 O,.slice PA n c]] w (RetTale w [] [] 3):=by
 have HB:=hide (((Below.refl w.heap.size w).alloc (Nat.le_refl _) (.cells (frmCells W H S O PA n c).toArray 24)).alloc (by simp) (.cells #[.slice none 0 0,.slice none 0 0] 90));go_enter Tryz.func44,Tryz.ntmps44
 go_wp2_with fail;all_goals try (exfalso; omega)
 refine bodyPost_ret (v:=.tuple #[.agg #[.slice none 0 0,.slice none 0 0],.int .i64 3]) ?_ rfl ?_
 ·simp [results,Tryz.results44,go_sem]
 ·exact retTale_none HB.out
theorem told_b2 (W H S O : Int) (PA : Option Addr) (n c : Nat) (w : World) (_h1 : 1 ≤ W) (h2 : 16 < W) :
 Calls Tryz.prog 44 #[.agg #[.int .i64 W,.int .i64 H,.int .i64 S,.int .i64 O,.slice PA n c]] w (RetTale w [] [] 3):=by
 have HB:=hide (((Below.refl w.heap.size w).alloc (Nat.le_refl _) (.cells (frmCells W H S O PA n c).toArray 24)).alloc (by simp) (.cells #[.slice none 0 0,.slice none 0 0] 90));go_enter Tryz.func44,Tryz.ntmps44
 go_wp2_with fail;all_goals try (exfalso; omega)
 refine bodyPost_ret (v:=.tuple #[.agg #[.slice none 0 0,.slice none 0 0],.int .i64 3]) ?_ rfl ?_
 ·simp [results,Tryz.results44,go_sem]
 ·exact retTale_none HB.out
theorem told_b3 (W H S O : Int) (PA : Option Addr) (n c : Nat) (w : World) (h1 : 1 ≤ W) (h2 : W ≤ 16) (h3 : H < 1) :
 Calls Tryz.prog 44 #[.agg #[.int .i64 W,.int .i64 H,.int .i64 S,.int .i64 O,.slice PA n c]] w (RetTale w [] [] 3):=by
 have HB:=hide (((Below.refl w.heap.size w).alloc (Nat.le_refl _) (.cells (frmCells W H S O PA n c).toArray 24)).alloc (by simp) (.cells #[.slice none 0 0,.slice none 0 0] 90));go_enter Tryz.func44,Tryz.ntmps44
 go_wp2_with fail;all_goals try (exfalso; omega)
 refine bodyPost_ret (v:=.tuple #[.agg #[.slice none 0 0,.slice none 0 0],.int .i64 3]) ?_ rfl ?_
 ·simp [results,Tryz.results44,go_sem]
 ·exact retTale_none HB.out
theorem told_b4 (W H S O : Int) (PA : Option Addr) (n c : Nat) (w : World) (h1 : 1 ≤ W) (h2 : W ≤ 16) (_h3 : 1 ≤ H) (h4 : 16 < H) :
 Calls Tryz.prog 44 #[.agg #[.int .i64 W,.int .i64 H,.int .i64 S,.int .i64 O,.slice PA n c]] w (RetTale w [] [] 3):=by
 have HB:=hide (((Below.refl w.heap.size w).alloc (Nat.le_refl _) (.cells (frmCells W H S O PA n c).toArray 24)).alloc (by simp) (.cells #[.slice none 0 0,.slice none 0 0] 90));go_enter Tryz.func44,Tryz.ntmps44
 go_wp2_with fail;all_goals try (exfalso; omega)
 refine bodyPost_ret (v:=.tuple #[.agg #[.slice none 0 0,.slice none 0 0],.int .i64 3]) ?_ rfl ?_
 ·simp [results,Tryz.results44,go_sem]
 ·exact retTale_none HB.out
theorem told_b5 (W H S O : Int) (PA : Option Addr) (n c : Nat) (w : World) (h1 : 1 ≤ W) (h2 : W ≤ 16) (h3 : 1 ≤ H) (h4 : H ≤ 16) (h5 : S < 1) :
 Calls Tryz.prog 44 #[.agg #[.int .i64 W,.int .i64 H,.int .i64 S,.int .i64 O,.slice PA n c]] w (RetTale w [] [] 3):=by
 have HB:=hide (((Below.refl w.heap.size w).alloc (Nat.le_refl _) (.cells (frmCells W H S O PA n c).toArray 24)).alloc (by simp) (.cells #[.slice none 0 0,.slice none 0 0] 90));go_enter Tryz.func44,Tryz.ntmps44
 go_wp2_with fail;all_goals try (exfalso; omega)
 refine bodyPost_ret (v:=.tuple #[.agg #[.slice none 0 0,.slice none 0 0],.int .i64 3]) ?_ rfl ?_
 ·simp [results,Tryz.results44,go_sem]
 ·exact retTale_none HB.out
theorem told_b6 (W H S O : Int) (PA : Option Addr) (n c : Nat) (w : World) (h1 : 1 ≤ W) (h2 : W ≤ 16) (h3 : 1 ≤ H) (h4 : H ≤ 16) (_h5 : 1 ≤ S) (h6 : 8 < S) :
 Calls Tryz.prog 44 #[.agg #[.int .i64 W,.int .i64 H,.int .i64 S,.int .i64 O,.slice PA n c]] w (RetTale w [] [] 3):=by
 have HB:=hide (((Below.refl w.heap.size w).alloc (Nat.le_refl _) (.cells (frmCells W H S O PA n c).toArray 24)).alloc (by simp) (.cells #[.slice none 0 0,.slice none 0 0] 90));go_enter Tryz.func44,Tryz.ntmps44
 go_wp2_with fail;all_goals try (exfalso; omega)
 refine bodyPost_ret (v:=.tuple #[.agg #[.slice none 0 0,.slice none 0 0],.int .i64 3]) ?_ rfl ?_
 ·simp [results,Tryz.results44,go_sem]
 ·exact retTale_none HB.out
theorem told_b7 (W H S O : Int) (PA : Option Addr) (n c : Nat) (w : World) (h1 : 1 ≤ W) (h2 : W ≤ 16) (h3 : 1 ≤ H) (h4 : H ≤ 16) (h5 : 1 ≤ S) (h6 : S ≤ 8) (h7 : O < 0) :
 Calls Tryz.prog 44 #[.agg #[.int .i64 W,.int .i64 H,.int .i64 S,.int .i64 O,.slice PA n c]] w (RetTale w [] [] 3):=by
 have HB:=hide (((Below.refl w.heap.size w).alloc (Nat.le_refl _) (.cells (frmCells W H S O PA n c).toArray 24)).alloc (by simp) (.cells #[.slice none 0 0,.slice none 0 0] 90));go_enter Tryz.func44,Tryz.ntmps44
 go_wp2_with fail;all_goals try (exfalso; omega)
 refine bodyPost_ret (v:=.tuple #[.agg #[.slice none 0 0,.slice none 0 0],.int .i64 3]) ?_ rfl ?_
 ·simp [results,Tryz.results44,go_sem]
 ·exact retTale_none HB.out
theorem told_b8 (W H S O : Int) (PA : Option Addr) (n c : Nat) (w : World) (h1 : 1 ≤ W) (h2 : W ≤ 16) (h3 : 1 ≤ H) (h4 : H ≤ 16) (h5 : 1 ≤ S) (h6 : S ≤ 8) (h7 : 0 ≤ O) (h8 : S ≤ O) :
 Calls Tryz.prog 44 #[.agg #[.int .i64 W,.int .i64 H,.int .i64 S,.int .i64 O,.slice PA n c]] w (RetTale w [] [] 3):=by
 have HB:=hide (((Below.refl w.heap.size w).alloc (Nat.le_refl _) (.cells (frmCells W H S O PA n c).toArray 24)).alloc (by simp) (.cells #[.slice none 0 0,.slice none 0 0] 90));go_enter Tryz.func44,Tryz.ntmps44
 go_wp2_with fail;all_goals try (exfalso; omega)
 refine bodyPost_ret (v:=.tuple #[.agg #[.slice none 0 0,.slice none 0 0],.int .i64 3]) ?_ rfl ?_
 ·simp [results,Tryz.results44,go_sem]
 ·exact retTale_none HB.out
theorem told_m1 (W H S O : Int) (PA : Option Addr) (n c : Nat) (w : World) (h1 : 1 ≤ W) (h2 : W ≤ 16) (h3 : 1 ≤ H) (h4 : H ≤ 16) (h5 : 1 ≤ S) (h6 : S ≤ 8) (h7 : 0 ≤ O) (h8 : O < S) (h9 : (n : Int) < 1) :
 Calls Tryz.prog 44 #[.agg #[.int .i64 W,.int .i64 H,.int .i64 S,.int .i64 O,.slice PA n c]] w (RetTale w [] [] 2):=by
 have HB:=hide (((Below.refl w.heap.size w).alloc (Nat.le_refl _) (.cells (frmCells W H S O PA n c).toArray 24)).alloc (by simp) (.cells #[.slice none 0 0,.slice none 0 0] 90));go_enter Tryz.func44,Tryz.ntmps44
 go_wp2_with fail;all_goals try (exfalso; omega)
 refine bodyPost_ret (v:=.tuple #[.agg #[.slice none 0 0,.slice none 0 0],.int .i64 2]) ?_ rfl ?_
 ·simp [results,Tryz.results44,go_sem]
 ·exact retTale_none HB.out
theorem told_m2 (W H S O : Int) (PA : Option Addr) (n c : Nat) (w : World) (h1 : 1 ≤ W) (h2 : W ≤ 16) (h3 : 1 ≤ H) (h4 : H ≤ 16) (h5 : 1 ≤ S) (h6 : S ≤ 8) (h7 : 0 ≤ O) (h8 : O < S) (_h9 : 1 ≤ (n : Int)) (h10 : 12 < (n : Int)) :
 Calls Tryz.prog 44 #[.agg #[.int .i64 W,.int .i64 H,.int .i64 S,.int .i64 O,.slice PA n c]] w (RetTale w [] [] 2):=by
 have HB:=hide (((Below.refl w.heap.size w).alloc (Nat.le_refl _) (.cells (frmCells W H S O PA n c).toArray 24)).alloc (by simp) (.cells #[.slice none 0 0,.slice none 0 0] 90));go_enter Tryz.func44,Tryz.ntmps44
 go_wp2_with fail;all_goals try (exfalso; omega)
 refine bodyPost_ret (v:=.tuple #[.agg #[.slice none 0 0,.slice none 0 0],.int .i64 2]) ?_ rfl ?_
 ·simp [results,Tryz.results44,go_sem]
 ·exact retTale_none HB.out
theorem told_bad (W H S O : Int) (PA : Option Addr) (n c : Nat) (ps : List Pas) (w : World) (hn : ps.length = n) (h : ¬ (Frm.Bounds ⟨W,H,S,O,ps⟩ ∧ 1 ≤ n ∧ n ≤ 12)) :
 Calls Tryz.prog 44 #[.agg #[.int .i64 W,.int .i64 H,.int .i64 S,.int .i64 O,.slice PA n c]] w (RetTale w (frSizes ⟨W,H,S,O,ps⟩) (frSources ⟨W,H,S,O,ps⟩) (frErr ⟨W,H,S,O,ps⟩)):=by
 by_cases hBd : Frm.Bounds ⟨W,H,S,O,ps⟩
 ·have hlen : ¬ (1 ≤ n ∧ n ≤ 12):=fun e=>h ⟨hBd,e⟩
  have hfe : frErr ⟨W,H,S,O,ps⟩ = 2:=frErr_many hBd (by simp only; rw [hn]; exact hlen);rw [hfe,frSizes_no (by rw [hfe]; omega),frSources_no (by rw [hfe]; omega)];obtain ⟨⟨b1,b2⟩,⟨b3,b4⟩,⟨b5,b6⟩,⟨b7,b8⟩⟩:=hBd;simp only at b1 b2 b3 b4 b5 b6 b7 b8;by_cases hlt : (n : Int) < 1
  ·exact told_m1 W H S O PA n c w b1 b2 b3 b4 b5 b6 b7 (by omega) hlt
  ·exact told_m2 W H S O PA n c w b1 b2 b3 b4 b5 b6 b7 (by omega) (by omega) (by omega)
 ·have hfe : frErr ⟨W,H,S,O,ps⟩ = 3:=frErr_range hBd
  rw [hfe,frSizes_no (by rw [hfe]; omega),frSources_no (by rw [hfe]; omega)];have hnb : ¬ ((1 ≤ W ∧ W ≤ 16) ∧ (1 ≤ H ∧ H ≤ 16) ∧ (1 ≤ S ∧ S ≤ 8) ∧ (0 ≤ O ∧ O ≤ S - 1)):=hBd;by_cases h1 : W < 1
  ·exact told_b1 W H S O PA n c w h1
  by_cases h2 : 16 < W
  ·exact told_b2 W H S O PA n c w (by omega) h2
  by_cases h3 : H < 1
  ·exact told_b3 W H S O PA n c w (by omega) (by omega) h3
  by_cases h4 : 16 < H
  ·exact told_b4 W H S O PA n c w (by omega) (by omega) (by omega) h4
  by_cases h5 : S < 1
  ·exact told_b5 W H S O PA n c w (by omega) (by omega) (by omega) (by omega) h5
  by_cases h6 : 8 < S
  ·exact told_b6 W H S O PA n c w (by omega) (by omega) (by omega) (by omega) (by omega) h6
  by_cases h7 : O < 0
  ·exact told_b7 W H S O PA n c w (by omega) (by omega) (by omega) (by omega) (by omega) (by omega) h7
  ·exact told_b8 W H S O PA n c w (by omega) (by omega) (by omega) (by omega) (by omega) (by omega) (by omega) (by omega)
end Go.Proofs.YtibpmogmeoappabGreat
