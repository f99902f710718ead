/- From a walk to the given statement: what is read before the call reads so behind it. -/
import Derived.Test.YtibpmogmeoappabGreatRows
import Derived.Test.YtibpmogmeoappabGreatJMem
import Derived.ProofKit
import Derived.OpenShut
import Derived.Lib.SmallJoins
import Derived.Deep.Slices
import Derived.Deep.Fields
import Derived.Test.YtibpmogmeoappabGreatJLitA
import Derived.Test.YtibpmogmeoappabGreatJFrmA
set_option maxRecDepth 100000
namespace Go.Proofs.YtibpmogmeoappabGreat
open Go.ChangeShapes Go.WideShapes Go.ChangeAt Go.RowKit
theorem own_knob : ownKnob Tryz.prog.godebug = none:=by kernel_rfl
theorem laid_out : laidOutB Tryz.prog = true:=by kernel_rfl
section
variable {H : Type} {enc : TypeId × Value → H} {P : Program}
theorem trodAll_below (hl : laidOutB P = true) {W W' : World} (hb : Below W.heap.size W W') {sp : Nat → Bool} :
 ∀ {ts : List TypeId} {vs : List Value} {ds : List (DataW H)} {ps : List MemPlace}, (∀ t ∈ ts, P.readableRec t = true ∧ t < P.types.size) →
   DataW.TrodAll enc P W 0 (fun _=>true) true ts vs ds ps → (∀ p ∈ ps,p.block < W.heap.size) → (∀ p ∈ ps,sp p.block = true) → DataW.TrodAll enc P W' 0 sp true ts vs ds ps
 | [], vs, ds, ps, _, h, _, _ => by
   obtain ⟨rfl,rfl,rfl⟩:=trodAll_nil h;exact trodAll_mk0
 | t :: ts, vs, ds, ps, hr, h, hlt, hs => by
   obtain ⟨v,vs',d,ds',p,q,rfl,rfl,rfl,h1,h2⟩:=trodAll_cons h;have hr1:=hr t (by simp);refine trodAll_cons_mk (WideElems.Trod_stays hl hr1.1 hr1.2 h1 (fun x hx=>hb.same (hlt x (by simp [hx]))) (fun x hx=>hs x (by simp [hx]))) ?_;exact trodAll_below hl hb (fun t ht=>hr t (by simp [ht])) h2 (fun x hx=>hlt x (by simp [hx])) (fun x hx=>hs x (by simp [hx]))
theorem law_post {f : Func} {s : ChangeSpec} {W W' : World} {args : Array Value} {ds gs : List (DataW H)} {before : List MemPlace} {tb : TypeId}
 (hl : laidOutB P = true) (hp : ∀ t ∈ f.params.toList,P.readableRec t = true ∧ t < P.types.size) (hbool : P.underlying tb = some .bool) (hrt : f.resultTypes = #[tb])
 (hW : DataW.Whole enc P f.params.toList s.vars false W args.toList ds gs before) (hvars : s.vars = []) (hb : Below W.heap.size W W')
 (hres : (s.fn H (ds ++ gs)).results = [.lit (.bool true)]) (hargs : (s.fn H (ds ++ gs)).args = ds) (hv : (s.fn H (ds ++ gs)).vars = []) :
 s.post enc P f false true false false W args (.bool true) W':=by
 have hW0:=hW;obtain ⟨p,q,hA,hV,rfl,hz,hn⟩:=hW;rw [hvars] at hV;obtain ⟨rfl,rfl⟩:=trodVars_none hV;have hlt:=hW0.lt;simp only [List.append_nil] at hlt;refine ⟨ds,[],p ++ [],[],p,[],hW0,?_,?_,?_,hb.frame _,fun h=>by cases h⟩
 ·rw [hres,hrt]
  exact trodAll_mk1 (shut_bool hbool true)
 ·rw [hargs]
  exact trodAll_below hl hb hp hA hlt (fun x hx=>by simpa using hlt x hx)
 ·rw [hv,hvars]
  rfl
end
theorem ints_in {H : Type} {enc : TypeId × Value → H} {W : World} {base : Nat} {n : Nat} {v : Value} {y : DataW H × List MemPlace}
 (h : DataW.trod enc Tryz.prog W base (fun _=>true) true n 25 [v] = some y) : ∃ (A : Option Addr) (len cap : Nat) (xs : List Int),v = .slice A len cap ∧ xs.length = len ∧ Ints W A xs ∧ len ≤ 9223372036854775807:=by
 rcases open_ints (k:=.i64) Tryz.underlying25 Tryz.underlying3 (by kernel_rfl) h with ⟨hcs,_⟩ | ⟨a,len,cap,zs,hcs,_,hl,hm,hz,_,hc,_⟩
 ·injection hcs with hv
  exact ⟨none,0,0,[],hv,rfl,Ints.nil _ _,by omega⟩
 ·injection hcs with hv
  refine ⟨some a,len,cap,zs.take len,hv,?_,?_,?_⟩
  ·simp only [if_true] at hz
   rw [List.length_take]; omega
  ·intro i hi
   simp only [List.length_map,List.length_take] at hi;have hi2 : i < zs.length:=by omega
   have hcell:=hc i hi2;have hb:=World.block_lt_of_cell? W _ hcell;obtain ⟨ab,ao,asp⟩:=a
   have hsp : asp = none:=by
    cases asp with
    | none=>rfl
    | some x =>
      exfalso;have hcell0:=hc 0 (by omega);simp only [Addr.add] at hcell0;unfold World.cell? at hcell0;split at hcell0
      ·simp at hcell0
      ·cases hcell0
   subst hsp;rw [Addr.add_lit] at hcell hb;refine ⟨ab,ao,rfl,hb,?_⟩;rw [hcell];simp only [List.getD_eq_getElem?_getD];rw [List.getElem?_map,List.getElem?_take,if_pos (by omega),List.getElem?_eq_getElem hi2];simp
  ·have : len ≤ maxLen:=Nat.le_trans hl hm
   unfold maxLen at this;exact this
end Go.Proofs.YtibpmogmeoappabGreat
namespace Go.Proofs.YtibpmogmeoappabGreat
open Go.ChangeShapes Go.WideShapes Go.ChangeAt Go.RowKit Go.Deep
section
variable {H : Type} {enc : TypeId × Value → H} {P : Program} {w : World} {base : Nat} {spare : Nat → Bool} {held : Bool}
theorem struct_at {e : TypeId} {fs : Array Field} (he : P.underlying e = some (.struct fs)) (hone : oneCellFields P fs = true) {a : Addr} {n : Nat} {cs : List Value} {x : DataW H × List MemPlace}
 (hc : w.cells? base a (P.cellsOf e) = some cs) (ht : DataW.trod enc P w base spare held n e cs = some x) :
 ∃ m,∀ (j : Nat) (f : Field),fs[j]? = some f → j < P.cellsOf e → ∃ v y,w.cell? (a.add j) = some v ∧ DataW.trod enc P w base spare held m f.type [v] = some y:=by
 obtain ⟨ys,m,_,_,hlen,hyl,hf⟩:=DataW.trod_struct he ht;obtain ⟨_,hcl,hat⟩:=World.cells?_some hc;refine ⟨m,fun j f hj hjC=>?_⟩;obtain ⟨ho,hk⟩:=hone_of hone j f hj;have hjl : j < fs.size:=(Array.getElem?_eq_some_iff.1 hj).1;have hjc : j < cs.length:=by omega
 have h1:=hf j f hj;rw [ho,hk] at h1;have e1 : (cs.drop j).take 1 = [cs[j]]:=by rw [List.drop_eq_getElem_cons hjc]; rfl
 rw [e1,List.getElem?_eq_getElem (by omega)] at h1;exact ⟨cs[j],_,by rw [hat j hjC,List.getElem?_eq_getElem hjc],h1⟩
end
theorem spine_none {w : World} {a : Addr} {v : Value} (h : w.cell? a = some v) : a = ⟨a.block,a.off,none⟩:=by
 obtain ⟨b,o,s⟩:=a
 cases s with
 | none=>rfl
 | some x =>
   exfalso;unfold World.cell? at h;split at h
   ·simp at h
   ·cases h
theorem lamps_in {H : Type} {enc : TypeId × Value → H} {W : World} {base : Nat} {n : Nat} {v : Value} {y : DataW H × List MemPlace}
 (h : DataW.trod enc Tryz.prog W base (fun _=>true) true n 70 [v] = some y) : ∃ (A : Option Addr) (len cap : Nat) (ls : List Lamp),v = .slice A len cap ∧ ls.length = len ∧ Lamps W A ls ∧ len ≤ 9223372036854775807:=by
 rcases open_slice Tryz.underlying70 h with ⟨hcs,_⟩ | ⟨a,len,cap,m,n',D,Pl,hcs,_,hl,hm,hmm,_,hi⟩
 ·injection hcs with hv
  exact ⟨none,0,0,[],hv,rfl,(by intro i hi; simp at hi),by omega⟩
 ·injection hcs with hv
  have hC : Tryz.prog.cellsOf 143 = 4:=by kernel_rfl
  have hlm : len ≤ m:=by rw [hmm]; simp only [if_true]; exact hl
  have hone : oneCellFields Tryz.prog (match Tryz.prog.underlying 143 with | some (.struct fs)=>fs | _=>#[]) = true:=by kernel_rfl
  have hsp : 0 < len → a = ⟨a.block,a.off,none⟩:=by
   intro h0;obtain ⟨cs',h1,h2⟩:=hi 0 (by omega);obtain ⟨m',hf⟩:=struct_at Tryz.underlying143 hone h1 h2;obtain ⟨v0,y0,c0,_⟩:=hf 0 _ rfl (by rw [hC]; omega);rw [add_add,Nat.zero_mul] at c0;exact spine_none (a:=a) (by simpa [Addr.add] using c0)
  have key : ∀ i,i < len → ∃ l : Lamp,a = ⟨a.block,a.off,none⟩ ∧ a.block < W.heap.size ∧ ∀ j,j < 4 → W.cell? ⟨a.block,a.off + i * 4 + j,none⟩ = some ((lampCells l).getD j undef):=by
   intro i hil;obtain ⟨cs',h1,h2⟩:=hi i (by omega);obtain ⟨m',hf⟩:=struct_at Tryz.underlying143 hone h1 h2;rw [hC] at hf;obtain ⟨v0,y0,c0,t0⟩:=hf 0 _ rfl (by omega);obtain ⟨v1,y1,c1,t1⟩:=hf 1 _ rfl (by omega);obtain ⟨v2,y2,c2,t2⟩:=hf 2 _ rfl (by omega);obtain ⟨v3,y3,c3,t3⟩:=hf 3 _ rfl (by omega);obtain ⟨x0,e0,_,_⟩:=DataW.trod_int Tryz.underlying3 t0;obtain ⟨x1,e1,_,_⟩:=DataW.trod_int Tryz.underlying3 t1;obtain ⟨x2,e2,_,_⟩:=DataW.trod_int Tryz.underlying3 t2;obtain ⟨x3,e3,_,_⟩:=DataW.trod_int Tryz.underlying3 t3;injection e0 with e0;injection e1 with e1;injection e2 with e2;injection e3 with e3;subst e0 e1 e2 e3;rw [add_add] at c0 c1 c2 c3;have hsp:=hsp (by omega);rw [hsp,Addr.add_lit] at c0 c1 c2 c3;refine ⟨⟨x0,x1,x2,x3⟩,hsp,World.block_lt_of_cell? W ⟨a.block,_,none⟩ c0,fun j hj=>?_⟩;rw [Nat.add_assoc];rcases j with _ | _ | _ | _ | j
   ·exact c0
   ·exact c1
   ·exact c2
   ·exact c3
   ·omega
  obtain ⟨f,hf⟩:=@choose_lt Lamp ⟨⟨0,0,0,0⟩⟩ len _ key;refine ⟨some a,len,cap,(List.range len).map f,hv,by simp,?_,?_⟩
  ·intro i hil
   have hil' : i < len:=by simpa using hil
   obtain ⟨h1,h2,h3⟩:=hf i hil';refine ⟨a.block,a.off,by rw [← h1],h2,fun j hj=>?_⟩;rw [h3 j hj];simp [List.getD,hil']
  ·have : len ≤ maxLen:=Nat.le_trans hl hm
   unfold maxLen at this;exact this
end Go.Proofs.YtibpmogmeoappabGreat
namespace Go.Proofs.YtibpmogmeoappabGreat
open Go.ChangeShapes Go.WideShapes Go.ChangeAt Go.RowKit Go.Deep
section
variable {H : Type} {enc : TypeId × Value → H} {P : Program} {w : World} {base : Nat} {spare : Nat → Bool} {held : Bool}
theorem agg_fields {r : Reach} {b0 : Nat} {e : TypeId} {fs : Array Field} (he : P.underlying e = some (.struct fs)) (hone : oneCellFields P fs = true) {v : Value} {d : DataW H} {p : List MemPlace}
 (hv : Value.okWide P w r b0 e v) (h : DataW.Trod enc P w base spare held e v d p) :
 ∃ (cs : Array Value) (m : Nat),v = .agg cs ∧ cs.size = P.cellsOf e ∧ ∀ (j : Nat) (f : Field),fs[j]? = some f → ∀ hj : j < cs.size,∃ y,DataW.trod enc P w base spare held m f.type [cs[j]] = some y:=by
 obtain ⟨cs,rfl,hsz⟩:=okWide_struct he hv;obtain ⟨fuel,hf⟩:=h;obtain ⟨ys,m,_,_,hlen,hyl,hff⟩:=DataW.trod_struct he hf;refine ⟨cs,m,rfl,hsz,fun j f hj hjc=>?_⟩;obtain ⟨ho,hk⟩:=hone_of hone j f hj;have hjl : j < fs.size:=(Array.getElem?_eq_some_iff.1 hj).1;have h1:=hff j f hj;rw [ho,hk] at h1;have hl : ((Value.agg cs).cells.toList).length = cs.size:=by simp [Value.cells]
 have e1 : (((Value.agg cs).cells.toList).drop j).take 1 = [cs[j]]:=by
  rw [List.drop_eq_getElem_cons (by rw [hl]; exact hjc)];simp [Value.cells]
 rw [e1,List.getElem?_eq_getElem (by omega)] at h1;exact ⟨_,h1⟩
end
theorem passes_in {H : Type} {enc : TypeId × Value → H} {W : World} {base : Nat} {n : Nat} {v : Value} {y : DataW H × List MemPlace}
 (h : DataW.trod enc Tryz.prog W base (fun _=>true) true n 22 [v] = some y) : ∃ (A : Option Addr) (len cap : Nat) (ps : List Pas),v = .slice A len cap ∧ ps.length = len ∧ Passes W A ps ∧ len ≤ 9223372036854775807:=by
 rcases open_slice Tryz.underlying22 h with ⟨hcs,_⟩ | ⟨a,len,cap,m,n',D,Pl,hcs,_,hl,hm,hmm,_,hi⟩
 ·injection hcs with hv
  exact ⟨none,0,0,[],hv,rfl,(by intro i hi; simp at hi),by omega⟩
 ·injection hcs with hv
  have hC : Tryz.prog.cellsOf 72 = 6:=by kernel_rfl
  have hlm : len ≤ m:=by rw [hmm]; simp only [if_true]; exact hl
  have hone : oneCellFields Tryz.prog (match Tryz.prog.underlying 72 with | some (.struct fs)=>fs | _=>#[]) = true:=by kernel_rfl
  have hsp : 0 < len → a = ⟨a.block,a.off,none⟩:=by
   intro h0;obtain ⟨cs',h1,h2⟩:=hi 0 (by omega);obtain ⟨m',hf⟩:=struct_at Tryz.underlying72 hone h1 h2;obtain ⟨v0,y0,c0,_⟩:=hf 0 _ rfl (by rw [hC]; omega);rw [add_add,Nat.zero_mul] at c0;exact spine_none (a:=a) (by simpa [Addr.add] using c0)
  have key : ∀ i,i < len → ∃ p : Pas,a = ⟨a.block,a.off,none⟩ ∧ a.block < W.heap.size ∧ ∃ (LA : Option Addr) (lm ld : Nat),(∀ j,j < 6 → W.cell? ⟨a.block,a.off + i * 6 + j,none⟩ = some ((passCells p LA lm ld).getD j undef)) ∧ p.L.length = lm ∧ Lamps W LA p.L ∧ lm ≤ 9223372036854775807:=by
   intro i hil;obtain ⟨cs',h1,h2⟩:=hi i (by omega);obtain ⟨m',hf⟩:=struct_at Tryz.underlying72 hone h1 h2;rw [hC] at hf;obtain ⟨v0,y0,c0,t0⟩:=hf 0 _ rfl (by omega);obtain ⟨v1,y1,c1,t1⟩:=hf 1 _ rfl (by omega);obtain ⟨v2,y2,c2,t2⟩:=hf 2 _ rfl (by omega);obtain ⟨v3,y3,c3,t3⟩:=hf 3 _ rfl (by omega);obtain ⟨v4,y4,c4,t4⟩:=hf 4 _ rfl (by omega);obtain ⟨v5,y5,c5,t5⟩:=hf 5 _ rfl (by omega);obtain ⟨x0,e0,_,_⟩:=DataW.trod_int Tryz.underlying3 t0;obtain ⟨x1,e1,_,_⟩:=DataW.trod_int Tryz.underlying3 t1;obtain ⟨x2,e2,_,_⟩:=DataW.trod_int Tryz.underlying3 t2;obtain ⟨x3,e3,_,_⟩:=DataW.trod_int Tryz.underlying3 t3;obtain ⟨x4,e4,_,_⟩:=DataW.trod_int Tryz.underlying3 t4;obtain ⟨LA,lm,ld,ls,e5,g1,g2,g3⟩:=lamps_in t5;injection e0 with e0;injection e1 with e1;injection e2 with e2;injection e3 with e3;injection e4 with e4;subst e0 e1 e2 e3 e4 e5;rw [add_add] at c0 c1 c2 c3 c4 c5;have hsp:=hsp (by omega);rw [hsp,Addr.add_lit] at c0 c1 c2 c3 c4 c5;refine ⟨⟨x0,x1,x2,x3,x4,ls⟩,hsp,World.block_lt_of_cell? W ⟨a.block,_,none⟩ c0,LA,lm,ld,fun j hj=>?_,g1,g2,g3⟩;rw [Nat.add_assoc];rcases j with _ | _ | _ | _ | _ | _ | j
   ·exact c0
   ·exact c1
   ·exact c2
   ·exact c3
   ·exact c4
   ·exact c5
   ·omega
  obtain ⟨f,hf⟩:=@choose_lt Pas ⟨noPas⟩ len _ key;refine ⟨some a,len,cap,(List.range len).map f,hv,by simp,?_,?_⟩
  ·intro i hil
   have hil' : i < len:=by simpa using hil
   obtain ⟨h1,h2,LA,lm,ld,h3,h4,h5,h6⟩:=hf i hil';have e : ((List.range len).map f).getD i noPas = f i:=by simp [List.getD,hil']
   rw [e];exact ⟨a.block,a.off,LA,lm,ld,by rw [← h1],h2,h3,h4,h5,h6⟩
  ·have : len ≤ maxLen:=Nat.le_trans hl hm
   unfold maxLen at this;exact this
theorem frame_in {H : Type} {enc : TypeId × Value → H} {W : World} {r : Reach} {b0 : Nat} {v : Value} {d : DataW H} {p : List MemPlace}
 (hv : Value.okWide Tryz.prog W r b0 24 v) (h : DataW.Trod enc Tryz.prog W 0 (fun _=>true) true 24 v d p) :
 ∃ (W0 H0 S0 O0 : Int) (A : Option Addr) (n c : Nat) (ps : List Pas),v = .agg #[.int .i64 W0,.int .i64 H0,.int .i64 S0,.int .i64 O0,.slice A n c] ∧ ps.length = n ∧ Passes W A ps ∧ n ≤ 9223372036854775807:=by
 have hone : oneCellFields Tryz.prog (match Tryz.prog.underlying 24 with | some (.struct fs)=>fs | _=>#[]) = true:=by kernel_rfl
 have hC : Tryz.prog.cellsOf 24 = 5:=by kernel_rfl
 obtain ⟨cs,m,rfl,hsz,hf⟩:=agg_fields Tryz.underlying24 hone hv h;rw [hC] at hsz;obtain ⟨y0,t0⟩:=hf 0 _ rfl (by omega);obtain ⟨y1,t1⟩:=hf 1 _ rfl (by omega);obtain ⟨y2,t2⟩:=hf 2 _ rfl (by omega);obtain ⟨y3,t3⟩:=hf 3 _ rfl (by omega);obtain ⟨y4,t4⟩:=hf 4 _ rfl (by omega);obtain ⟨x0,e0,_,_⟩:=DataW.trod_int Tryz.underlying3 t0;obtain ⟨x1,e1,_,_⟩:=DataW.trod_int Tryz.underlying3 t1;obtain ⟨x2,e2,_,_⟩:=DataW.trod_int Tryz.underlying3 t2;obtain ⟨x3,e3,_,_⟩:=DataW.trod_int Tryz.underlying3 t3;obtain ⟨A,n,c,ps,e4,g1,g2,g3⟩:=passes_in t4;injection e0 with e0;injection e1 with e1;injection e2 with e2;injection e3 with e3;refine ⟨x0,x1,x2,x3,A,n,c,ps,?_,g1,g2,g3⟩
 congr 1
 apply Array.ext
 ·rw [hsz]; rfl
 ·intro i h1 h2
  rw [hsz] at h1;have hi : i = 0 ∨ i = 1 ∨ i = 2 ∨ i = 3 ∨ i = 4:=by omega
  rcases hi with rfl | rfl | rfl | rfl | rfl
  ·exact e0
  ·exact e1
  ·exact e2
  ·exact e3
  ·exact e4
end Go.Proofs.YtibpmogmeoappabGreat
namespace Go.Proofs.YtibpmogmeoappabGreat
open Go.ChangeShapes Go.WideShapes Go.ChangeAt Go.RowKit
theorem ints_room {H : Type} {enc : TypeId × Value → H} {W : World} {base : Nat} {n : Nat} {v : Value} {y : DataW H × List MemPlace}
 (h : DataW.trod enc Tryz.prog W base (fun _=>true) true n 25 [v] = some y) : ∃ (A : Option Addr) (len cap : Nat) (xs : List Int),v = .slice A len cap ∧ xs.length = len ∧ Ints W A xs ∧ len ≤ 9223372036854775807 ∧ len ≤ cap:=by
 obtain ⟨A,len,cap,xs,hv,h1,h2,h3⟩:=ints_in h;refine ⟨A,len,cap,xs,hv,h1,h2,h3,?_⟩;rcases open_ints (k:=.i64) Tryz.underlying25 Tryz.underlying3 (by kernel_rfl) h with ⟨hcs,_⟩ | ⟨a,len',cap',zs,hcs,_,hl,_,_,_,_,_⟩
 ·injection hcs with hv'
  rw [hv] at hv';cases hv';exact Nat.le_refl _
 ·injection hcs with hv'
  rw [hv] at hv';cases hv';exact hl
theorem plan_in {H : Type} {enc : TypeId × Value → H} {W : World} {r : Reach} {b0 : Nat} {v : Value} {d : DataW H} {p : List MemPlace}
 (hv : Value.okWide Tryz.prog W r b0 27 v) (h : DataW.Trod enc Tryz.prog W 0 (fun _=>true) true 27 v d p) :
 ∃ (A : Option Addr) (n c : Nat) (P : List Int) (B : Option Addr) (m e : Nat) (Q : List Int),v = .agg #[.slice A n c,.slice B m e] ∧ P.length = n ∧ Ints W A P ∧ n ≤ 9223372036854775807 ∧ n ≤ c ∧ Q.length = m ∧ Ints W B Q ∧ m ≤ 9223372036854775807:=by
 obtain ⟨v0,v1,y0,y1,n,rfl,_,_,t0,t1⟩:=Joins.open_agg2 Tryz.underlying27 (by kernel_rfl) (by kernel_rfl) hv h;obtain ⟨A,len,cap,xs,rfl,hx,hI,hl,hc⟩:=ints_room t0;obtain ⟨B,len',cap',ys,rfl,hy,hJ,hl'⟩:=ints_in t1;exact ⟨A,len,cap,xs,B,len',cap',ys,rfl,hx,hI,hl,hc,hy,hJ,hl'⟩
end Go.Proofs.YtibpmogmeoappabGreat
