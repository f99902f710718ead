/- Walks: number and into: bytes are read, or a panic says that they are lacking. -/
import Derived.Test.YtibpmogmeoappaaJWirA
import Derived.Recover
import Derived.Test.YtibpmogmeoappaaJExcM
import Derived.Test.YtibpmogmeoappaaJFrmA
import Derived.Test.YtibpmogmeoappaaJNeedE
set_option maxRecDepth 100000
set_option maxHeartbeats 4000000
namespace Go.Proofs.Ytibpmogmeoappaa
open Go.RowKit
theorem grown_rflW (a : World) (m : Option Nat) : a.grownBy a m:=⟨rfl,rfl,rfl,Nat.le_refl _,fun _ _ _=>rfl⟩
theorem grown_putW (w : World) (a : Addr) (u : Value) : w.grownBy (w.setCell a u) (some a.block):=⟨rfl,rfl,rfl,by simp [World.setCell],fun k _ hk=>Below.heap_setCell w a u k (fun e=>hk (by rw [e]))⟩
theorem or_low (m b : Int) (hm0 : 0 ≤ m) (hm : m < 65536) (hb0 : 0 ≤ b) (hb : b < 256) : bits BinOp.or IntKind.i64 (wrap64 (m * 256)) (wrap64 b) = m * 256 + b:=by
 rw [wrap64_of (by omega) (by omega),wrap64_of (by omega) (by omega)];obtain ⟨x,rfl⟩ : ∃ x : Nat,m = x:=⟨m.toNat,by omega⟩;obtain ⟨y,rfl⟩ : ∃ y : Nat,b = y:=⟨b.toNat,by omega⟩;have e1 : ((x : Int) * 256) = ((x * 256 : Nat) : Int):=by omega
 have h64 : IntKind.bits .i64 = 64:=rfl;unfold bits;simp only;rw [e1,BitVec.toNat_or,BitVec.toNat_ofInt,BitVec.toNat_ofInt];have e2 : (((x * 256 : Nat) : Int) % ((2 ^ IntKind.i64.bits : Nat) : Int)).toNat = x * 256:=by rw [h64]; omega
 have e3 : ((y : Int) % ((2 ^ IntKind.i64.bits : Nat) : Int)).toNat = y:=by rw [h64]; omega
 rw [e2,e3];have h:=Nat.two_pow_add_eq_or_of_lt (i:=8) (b:=y) (by omega) x
 have e4 : x * 256 ||| y = x * 256 + y:=by
  rw [Nat.mul_comm x 256];exact h.symm
 rw [e4,IntWalk.i64_in _ (by omega)];omega
def numB (l : List Int) : Int:=l.foldl (fun n b=>n * 256 + b) 0
theorem numB_snoc (l : List Int) (b : Int) : numB (l ++ [b]) = numB l * 256 + b:=by unfold numB; rw [List.foldl_append]; rfl
theorem numB_bd {l : List Int} (h : Bytes l) : l.length ≤ 2 → 0 ≤ numB l ∧ numB l < 65536:=by
 intro hl
 match l,h,hl with
 | [],_,_=>simp [numB]
 | [x],h,_=>have h1:=h x (by simp); simp [numB]; omega
 | [x,y],h,_=>have h1:=h x (by simp); have h2:=h y (by simp); simp [numB]; omega
def GlassAt (w : World) (gb : Nat) (s : List Int) : Prop:=∃ z : ByteArray,strL z = s ∧ Blk w gb 117 [.string z]
theorem GlassAt.keep {w w' : World} {gb : Nat} {s : List Int} (h : GlassAt w gb s) (hb : Below w.heap.size w w') : GlassAt w' gb s:=by
 obtain ⟨z,h1,h2⟩:=h;exact ⟨z,h1,h2.keep hb⟩
abbrev brokenP : List PanicEntry:=[{ v:=.iface 121 (.agg #[]),recovered:=false }]
def RetNum (w : World) (gb : Nat) (s : List Int) (k : Nat) (e : Ending) (w' : World) : Prop :=
 (k ≤ s.length ∧ e = .returned (.int .i64 (numB (s.take k))) ∧ GlassAt w' gb (s.drop k) ∧ w.grownBy w' (some gb)) ∨ (s.length < k ∧ e = .panicked brokenP ∧ w.grownBy w' (some gb))
theorem number_any (gb k : Nat) (s : List Int) (w : World) (hG : GlassAt w gb s) (hk : k ≤ 3) :
 Calls Try.prog 82 #[.pointer (some ⟨gb,0,none⟩),.int .i64 (k : Int)] w (RetNum w gb s k):=by
 obtain ⟨z,hz,hB⟩:=hG;have hlen:=strL_len z;rw [hz] at hlen;have c0 : w.cell? ⟨gb,0,none⟩ = some (.string z):=(hB.cell 0).trans rfl;have f0:=hB.frozen 0;by_cases hlt : s.length < k
 ·have h1 : (z.size : Int) < (k : Int):=by omega
  go_enter Try.func82,Try.ntmps82
  go_wp2_with fail;exact ⟨rfl,.inr ⟨hlt,rfl,grown_rflW _ _⟩⟩
 ·have h1 : ¬ (z.size : Int) < (k : Int):=by omega
  have HZ:=hide hz;have HL:=hide hlen;have HB:=hide hB;have HLT:=hide hlt;clear hz hlen hB hlt;go_enter Try.func82,Try.ntmps82
  go_wp2_with fail;go_loopw [5,6,17] (fun s5 _ s17 wr=>∃ j : Nat,j ≤ k ∧ s17 = .int .i64 (j : Int) ∧ s5 = .int .i64 (numB (s.take j)) ∧ w = wr) (fun _ _ s17 _=>k - (intOf s17).toNat)
  case atStart=>exact ⟨0,Nat.zero_le _,rfl,by simp [numB],rfl⟩
  case round =>
   obtain ⟨j,hj,rfl,rfl,rfl⟩:=hrel;by_cases hjk : j < k
   ·have hj0 : (0 : Int) ≤ (j : Int):=by omega
    have hj1 : (j : Int) < (k : Int):=by omega
    have hjz : (j : Int) < (z.size : Int):=by omega
    have hby:=strL_bytes z;rw [HZ.out] at hby;have hsl : j < s.length:=by rw [HL.out]; omega
    have hbd:=numB_bd (l:=s.take j) (fun b hb=>hby b (List.mem_of_mem_take hb)) (by rw [List.length_take]; omega);have hzn : j < z.size:=by omega
    have hgt:=strL_get z j hzn;rw [HZ.out] at hgt;have hb1:=hby (s.getD j 0) (by rw [List.getD_eq_getElem?_getD,List.getElem?_eq_getElem hsl]; exact List.getElem_mem hsl)
    have hnx : numB (s.take (j + 1)) = numB (s.take j) * 256 + s.getD j 0:=by
     rw [List.take_add_one,List.getElem?_eq_getElem hsl,List.getD_eq_getElem?_getD,List.getElem?_eq_getElem hsl];exact numB_snoc _ _
    have HNX:=hide (show bits BinOp.or IntKind.i64 (wrap64 (numB (s.take j) * 256)) (wrap64 ((z[j].toNat : Nat) : Int)) = numB (s.take (j + 1)) from by rw [hgt,hnx]; exact or_low _ _ hbd.1 hbd.2 hb1.1 (by omega));clear hby hsl hbd hgt hb1 hnx;generalize numB (s.take j) = m at *;go_wp2_with fail;go_roundw
    case rel=>exact ⟨j + 1,by omega,by go_num,by rw [← HNX.out],trivial⟩
    case measure=>simp [intOf]; omega
   ·obtain rfl : j = k:=by omega
    have hbx:=HB.out.set_ 0 (.string (z.extract j z.size));have hdr:=strL_drop z j;rw [HZ.out] at hdr;have HBX:=hide hbx;have HDR:=hide hdr;clear hbx hdr;go_wp2_with fail;go_ret;exact .inl ⟨by have:=HLT.out; omega,rfl,⟨_,HDR.out,HBX.out⟩,grown_putW w ⟨gb,0,none⟩ _⟩
structure But2 (a b : Nat) (w w' : World) : Prop where
 os : w'.os = w.os
 tape : w'.tape = w.tape
 output : w'.output = w.output
 size : w.heap.size ≤ w'.heap.size
 block : ∀ k,k < w.heap.size → k ≠ a → k ≠ b → w'.heap[k]? = w.heap[k]?
section
variable {a b : Nat} {w w1 w' : World}
theorem But2.refl (a b : Nat) (w : World) : But2 a b w w:=⟨rfl,rfl,rfl,Nat.le_refl _,fun _ _ _ _=>rfl⟩
theorem But2.trans (h : But2 a b w w1) (k : But2 a b w1 w') : But2 a b w w':=⟨k.os.trans h.os,k.tape.trans h.tape,k.output.trans h.output,Nat.le_trans h.size k.size,fun i hi h1 h2=>(k.block i (Nat.lt_of_lt_of_le hi h.size) h1 h2).trans (h.block i hi h1 h2)⟩
theorem But2.left (h : w.grownBy w' (some a)) : But2 a b w w':=⟨h.os,h.tape,h.output,h.size,fun k hk h1 _=>h.block k hk (fun e=>h1 (by injection e))⟩
theorem But2.right (h : w.grownBy w' (some b)) : But2 a b w w':=⟨h.os,h.tape,h.output,h.size,fun k hk _ h1=>h.block k hk (fun e=>h1 (by injection e))⟩
theorem But2.of (h : Below w.heap.size w w') : But2 a b w w':=⟨h.os,h.tape,h.output,h.size,fun k hk _ _=>h.block k hk⟩
theorem But2.blk (h : But2 a b w w') {g : Nat} {t : TypeId} {cs : List Value} (hg : Blk w g t cs) (h1 : g ≠ a) (h2 : g ≠ b) : Blk w' g t cs:=(h.block g hg.lt h1 h2).trans hg
theorem But2.below (h : But2 a b w w') {B : Nat} (h0 : B ≤ w.heap.size) (h1 : B ≤ a) (h2 : B ≤ b) : Below B w w':=⟨h.os,h.tape,h.output,h.size,fun k hk=>h.block k (by omega) (by omega) (by omega)⟩
theorem Blk.other {g x : Nat} {t : TypeId} {cs : List Value} (h : Blk w g t cs) (hg : w.grownBy w' (some x)) (hx : g ≠ x) : Blk w' g t cs:=(hg.block g h.lt (fun e=>hx (by injection e))).trans h
end
def ptrsTo (fb k : Nat) : List Value:=(List.range k).map fun i=>.pointer (some ⟨fb,i,none⟩)
theorem ptrs_at {fb k j : Nat} (h : j < k) : (ptrsTo fb k)[j]? = some (.pointer (some ⟨fb,j,none⟩)):=by unfold ptrsTo; rw [List.getElem?_map,List.getElem?_range h]; rfl
def RetInto (w : World) (gb fb : Nat) (T : TypeId) (s : List Int) (k : Nat) (cs : List Value) (e : Ending) (w' : World) : Prop :=
 (k ≤ s.length ∧ e = .returned (.tuple #[]) ∧ GlassAt w' gb (s.drop k) ∧ Blk w' fb T ((s.take k).map (.int .i64) ++ cs.drop k) ∧ But2 gb fb w w') ∨
 (s.length < k ∧ e = .panicked brokenP ∧ (∃ cs' : List Value,cs'.length = cs.length ∧ Blk w' fb T cs') ∧ But2 gb fb w w')
theorem into_any (gb sb fb k d : Nat) (T : TypeId) (cs : List Value) (s : List Int) (w : World) (hG : GlassAt w gb s) (hS : Blk w sb 101 (ptrsTo fb k)) (hF : Blk w fb T cs) (hk : k ≤ cs.length) (h9 : k ≤ 9) (n1 : gb ≠ fb) (n2 : sb ≠ fb) (n3 : sb ≠ gb) :
 Calls Try.prog 81 #[.pointer (some ⟨gb,0,none⟩),.slice (some ⟨sb,0,none⟩) k d] w (RetInto w gb fb T s k cs):=by
 have HG:=hide hG;have HS:=hide hS;have HF:=hide hF;clear hG hS hF;go_enter Try.func81,Try.ntmps81
 go_wp2_with fail;go_loopw [5,8] (fun _ s8 wr=>∃ j : Nat,j ≤ k ∧ j ≤ s.length ∧ s8 = .int .i64 (j : Int) ∧ Hid (GlassAt wr gb (s.drop j)) ∧ Hid (Blk wr fb T ((s.take j).map (.int .i64) ++ cs.drop j)) ∧ Hid (But2 gb fb w wr)) (fun _ s8 _=>k - (intOf s8).toNat)
 case atStart=>exact ⟨0,Nat.zero_le _,Nat.zero_le _,rfl,HG,by simpa using HF,hide (But2.refl _ _ _)⟩
 case round =>
  obtain ⟨j,hj,hjs,rfl,HGW,HFW,HBW⟩:=hrel;by_cases hlt : j < k
  ·have hj0 : (0 : Int) ≤ (j : Int):=by omega
   have hj1 : (j : Int) < (k : Int):=by omega
   have hcp : wr.cell? ⟨sb,j,none⟩ = some (.pointer (some ⟨fb,j,none⟩)):=by rw [(HBW.out.blk HS.out n3 n2).cell]; exact ptrs_at hlt
   have HNM:=hide (number_any gb 1 (s.drop j) wr HGW.out (by omega));go_wp2_with fail;refine (unhide HNM).mono ?_;rintro e w1 (⟨hl,rfl,hg1,hgr⟩ | ⟨hl,rfl,hgr⟩)
   ·have hf1 : Blk w1 fb T ((s.take j).map (.int .i64) ++ cs.drop j):=HFW.out.other hgr (fun e=>n1 e.symm)
    have hsl : j < s.length:=by rw [List.length_drop] at hl; omega
    have hnm : numB ((s.drop j).take 1) = s.getD j 0:=by
     rw [List.drop_eq_getElem_cons hsl,List.getD_eq_getElem?_getD,List.getElem?_eq_getElem hsl,List.take_succ_cons,List.take_zero];simp only [numB,List.foldl_cons,List.foldl_nil,Option.getD_some];omega
    rw [hnm];have hjc : j < ((s.take j).map (Value.int .i64) ++ cs.drop j).length:=by simp only [List.length_append,List.length_map,List.length_take,List.length_drop]; omega
    have hcf : w1.cell? ⟨fb,j,none⟩ = some (((s.take j).map (Value.int .i64) ++ cs.drop j)[j]):=by rw [hf1.cell,List.getElem?_eq_getElem hjc]
    have hff:=hf1.frozen j;have hst:=hf1.set_ j (.int .i64 (s.getD j 0))
    have hse : (((s.take j).map (Value.int .i64) ++ cs.drop j).set j (.int .i64 (s.getD j 0))) = (s.take (j + 1)).map (.int .i64) ++ cs.drop (j + 1):=by
     rw [List.set_append_right _ _ (by simp only [List.length_map,List.length_take]; omega)];have e1 : j - ((s.take j).map (Value.int .i64)).length = 0:=by simp only [List.length_map,List.length_take]; omega
     rw [e1,List.drop_eq_getElem_cons (by omega : j < cs.length),List.set_cons_zero,List.take_add_one,List.getElem?_eq_getElem hsl,List.getD_eq_getElem?_getD,List.getElem?_eq_getElem hsl,List.map_append,List.append_assoc];rfl
    rw [hse] at hst;obtain ⟨v,hv⟩ : ∃ v,s.getD j 0 = v:=⟨_,rfl⟩;rw [hv] at hst ⊢;have HST:=hide hst;obtain ⟨z1,hz1,hb1⟩:=hg1;have hgl : GlassAt (w1.setCell ⟨fb,j,none⟩ (.int .i64 v)) gb (s.drop (j + 1)):=⟨z1,by rw [hz1,List.drop_drop],hb1.far n1 _⟩;have HG1:=hide hgl;have HGR:=hide hgr;generalize ((s.take j).map (Value.int .i64) ++ cs.drop j)[j] = u0 at hcf;clear hf1 hnm hjc hst hse hgr hv hb1 hz1 hgl;go_wp2_with fail;go_roundw
    case rel=>exact ⟨j + 1,by omega,by omega,by go_num,HG1,HST,hide ((HBW.out.trans (But2.left HGR.out)).trans (But2.right (grown_putW w1 ⟨fb,j,none⟩ _)))⟩
    case measure=>simp [intOf]; omega
   ·have HGR:=hide hgr
    have HF1:=hide (HFW.out.other hgr (fun e=>n1 e.symm));clear hgr;go_wp2_with fail;exact ⟨rfl,.inr ⟨by rw [List.length_drop] at hl; omega,rfl,⟨_,by simp only [List.length_append,List.length_map,List.length_take,List.length_drop]; omega,HF1.out⟩,HBW.out.trans (But2.left HGR.out)⟩⟩
  ·obtain rfl : j = k:=by omega
   go_wp2_with fail;go_end0
   exact .inl ⟨hjs,rfl,HGW.out,HFW.out,HBW.out⟩
end Go.Proofs.Ytibpmogmeoappaa
namespace Go.Proofs.Ytibpmogmeoappaa
open Go.RowKit
def caught (w : World) (fb eb : Nat) : World :=
 (((((w.setCell ⟨fb,0,none⟩ (.int .i64 0)).setCell ⟨fb,1,none⟩ (.int .i64 0)).setCell ⟨fb,2,none⟩ (.int .i64 0)).setCell ⟨fb,3,none⟩ (.int .i64 0)).setCell ⟨fb,4,none⟩ (.slice none 0 0)).setCell ⟨eb,0,none⟩ (.int .i64 1)
theorem catch_panicking (fb eb : Nat) (T U : TypeId) (a b c d e v : Value) (w : World) (hF : Blk w fb T [a,b,c,d,e]) (hE : Blk w eb U [v]) (hne : fb ≠ eb) :
 CallsD Try.prog 80 #[.pointer (some ⟨fb,0,none⟩),.pointer (some ⟨eb,0,none⟩)] (.panicking brokenP) w fun r u' w' =>
  r = .returned (.tuple #[]) ∧ u' = .panicking [{ v:=.iface 121 (.agg #[]),recovered:=true }] ∧ w' = caught w fb eb:=by
 have c0 : w.cell? ⟨fb,0,none⟩ = some a:=(hF.cell 0).trans rfl;have c1 : w.cell? ⟨fb,1,none⟩ = some b:=(hF.cell 1).trans rfl;have c2 : w.cell? ⟨fb,2,none⟩ = some c:=(hF.cell 2).trans rfl;have c3 : w.cell? ⟨fb,3,none⟩ = some d:=(hF.cell 3).trans rfl;have c4 : w.cell? ⟨fb,4,none⟩ = some e:=(hF.cell 4).trans rfl;have f0:=hF.frozen 0;have f1:=hF.frozen 1;have f2:=hF.frozen 2;have f3:=hF.frozen 3;have f4:=hF.frozen 4;have e0 : w.cell? ⟨eb,0,none⟩ = some v:=(hE.cell 0).trans rfl;have g0:=hE.frozen 0;refine callsD_of_wpS Try.func80 rfl fun c₀ cs hu=>?_
 apply wpS_seq
 apply wpS_region
 simp [wpOpsS,go_sem,recoverD,hu,Try.ntmps80,Exit.thenS]
 refine wpS_cond (t:=true) (by simp [Act.eval,Array.replicate]) ?_;simp only [if_true]
 apply wpS_region
 simp [wpOpsS,go_sem,c0,c1,c2,c3,c4,e0,f0,f1,f2,f3,f4,g0,bodyPostS,results,Try.results80]
 rfl
theorem catch_idle (p q : Value) (w : World) :
 CallsD Try.prog 80 #[p,q] .returning w fun e u' w'=>e = .returned (.tuple #[]) ∧ u' = .returning ∧ w' = w:=by
 refine callsD_of_wpS Try.func80 rfl fun c₀ cs hu=>?_
 apply wpS_seq
 apply wpS_region
 simp [wpOpsS,go_sem,recoverD,hu,Try.ntmps80,Exit.thenS]
 refine wpS_cond (t:=false) (by simp [Act.eval,Array.replicate]) ?_;simp only [Bool.false_eq_true,if_false];refine wpS_of_wp (wp_skip ?_)
 cases c₀
 simp_all [bodyPostS,results,Try.results80]
end Go.Proofs.Ytibpmogmeoappaa
namespace Go.Proofs.Ytibpmogmeoappaa
open Go.RowKit
def PasW : Kind Pas:=fun p cs B ds=>∃ m d,cs = passCells p B m d ∧ p.L.length = m ∧ ds = p.L.flatMap lampCells ∧ m ≤ 65536
theorem GRow.passesW {w : World} {base : Nat} {A : Option Addr} {n c : Nat} {xs : List Pas} {es : List (List Value × Option Addr × List Value)} (h : GRow PasW 6 110 w base A n c xs es) : Passes w A xs:=by
 intro i hi;obtain ⟨b,o,cs,B,ds,hA,hlt,⟨m,d,rfl,hm,rfl,h8⟩,hcl,hcs⟩:=h.at_ (fun x cs B ds hE=>by obtain ⟨m,d,rfl,-⟩:=hE; rfl) (List.getElem?_eq_getElem hi) (by omega);have e : xs.getD i noPas = xs[i]:=by rw [List.getD_eq_getElem?_getD,List.getElem?_eq_getElem hi]; rfl
 rw [e];exact ⟨b,o,B,m,d,hA,hlt,fun j hj=>hcs j hj,hm,cells_lamps hcl,by omega⟩
theorem Own.but {w w' : World} {base x : Nat} {e : TypeId} {size : Nat} {A : Option Addr} {n c : Nat} {cs : List Value} (h : Own w base e size A n c cs) (hg : w.grownBy w' (some x)) (hx : x < base) : Own w' base e size A n c cs:=by
 refine World.ownsRow.kept h (row:=some x) hg ?_
 cases hy : (Value.slice A n c).ownBlock with
 | none=>exact .inl rfl
 | some k=>exact .inr (fun e=>by have:=(World.ownsRow.lt h k hy).1; injection e with e; omega)
structure RdW (w : World) (B : Nat) (W H S O : Int) (ps : List Pas) (es : List (List Value × Option Addr × List Value)) (A : Option Addr) (n c : Nat) (t : List Int) (wr : World) : Prop where
 out : Blk wr B 63 (frmCells W H S O A n c)
 err : Blk wr (B + 1) 25 [.int .i64 0]
 glass : GlassAt wr (B + 2) t
 row : GRow PasW 6 110 wr (B + 3) A n c ps es
 new : ∀ e ∈ es,e.2.2 ≠ [] → NewFrom (B + 3) e.2.1
 below : Below B w wr
 len : ps.length = n
structure LdW (wo : World) (pb gb : Nat) (op to_ a b k : Int) (ls : List Lamp) (LB : Option Addr) (m d : Nat) (t : List Int) (wx : World) : Prop where
 pas : Blk wx pb 110 (passCells ⟨op,to_,a,b,k,ls⟩ LB m d)
 row : Own wx (pb + 1) 59 4 LB m d (ls.flatMap lampCells)
 glass : GlassAt wx gb t
 grown : wo.grownBy wx (some gb)
 new : wo.heap.size ≤ pb
 old : gb < wo.heap.size
 len : ls.length = m
section
variable {w wr w' : World} {B : Nat} {W H S O : Int} {ps : List Pas} {es : List (List Value × Option Addr × List Value)} {A : Option Addr} {n c : Nat} {t t' : List Int}
theorem Spelt.butW {w w' : World} {own : Option Nat} {xs : List Pas} {x : Nat} (h : Spelt PasW w own xs es) (hn : ∀ e ∈ es,e.2.2 ≠ [] → NewFrom B e.2.1) (hg : w.grownBy w' (some x)) (hx : x < B) : Spelt PasW w' own xs es:=by
 refine ⟨h.1,fun i y e h1 h2=>⟨(h.2 i y e h1 h2).1,?_⟩⟩;have hs:=(h.2 i y e h1 h2).2;have he:=List.mem_of_getElem? h2;refine ⟨fun j hj=>?_,hs.2⟩;obtain ⟨b,o,e1,hlt,hc⟩:=hs.1 j hj;have hne : e.2.2 ≠ []:=fun e0=>by rw [e0] at hj; simp at hj
 have hB:=hn e he hne _ e1;simp only at hB;exact ⟨b,o,e1,Nat.lt_of_lt_of_le hlt hg.size,(World.cell?_of_block (hg.block b hlt (fun e2=>by injection e2 with e2; omega))).trans hc⟩
theorem RdW.grow (h : RdW w B W H S O ps es A n c t wr) (hg : wr.grownBy w' (some (B + 2))) (ht : GlassAt w' (B + 2) t') : RdW w B W H S O ps es A n c t' w' :=
 ⟨h.out.other hg (by omega),h.err.other hg (by omega),ht,⟨h.row.own.but hg (by omega),h.row.spelt.butW h.new hg (by omega)⟩,h.new,h.below.trans ⟨hg.os,hg.tape,hg.output,hg.size,fun k hk=>hg.block k (by have:=h.below.size; have:=h.out.lt; omega) (fun e=>by injection e with e; omega)⟩,h.len⟩
end
section
variable {wo wx w' : World} {pb gb : Nat} {op to_ a b k : Int} {ls : List Lamp} {LB : Option Addr} {m d : Nat} {t t' : List Int}
theorem LdW.grow (h : LdW wo pb gb op to_ a b k ls LB m d t wx) (hg : wx.grownBy w' (some gb)) (ht : GlassAt w' gb t') : LdW wo pb gb op to_ a b k ls LB m d t' w' :=
 ⟨h.pas.other hg (by have:=h.new; have:=h.old; omega),h.row.but hg (by have:=h.new; have:=h.old; omega),ht,grown_trB h.grown hg,h.new,h.old,h.len⟩
end
theorem But2.grown {a b : Nat} {w0 w w' : World} (h : But2 a b w w') (h0 : w0.grownBy w (some a)) (hb : w0.heap.size ≤ b) : w0.grownBy w' (some a) :=
 ⟨h.os.trans h0.os,h.tape.trans h0.tape,h.output.trans h0.output,Nat.le_trans h0.size h.size,fun k hk hn=>(h.block k (Nat.lt_of_lt_of_le hk h0.size) (fun e=>hn (by rw [e])) (by omega)).trans (h0.block k hk hn)⟩
theorem grown_setW {w0 w : World} {a : Nat} (h : w0.grownBy w (some a)) {p : Addr} (hp : w0.heap.size ≤ p.block) (u : Value) : w0.grownBy (w.setCell p u) (some a) :=
 ⟨h.os,h.tape,h.output,by have:=h.size; simp only [World.setCell,Array.size_modify]; exact this,fun k hk hn=>(Below.heap_setCell w p u k (by omega)).trans (h.block k hk hn)⟩
theorem RdW.thrown {w wr w' : World} {B : Nat} {W H S O : Int} {ps : List Pas} {es : List (List Value × Option Addr × List Value)} {A : Option Addr} {n c : Nat} {t : List Int} (h : RdW w B W H S O ps es A n c t wr) (hg : wr.grownBy w' (some (B + 2))) :
 Blk w' B 63 (frmCells W H S O A n c) ∧ Blk w' (B + 1) 25 [.int .i64 0] ∧ Below B w w' :=
 ⟨h.out.other hg (by omega),h.err.other hg (by omega),h.below.trans ⟨hg.os,hg.tape,hg.output,hg.size,fun k hk=>hg.block k (by have:=h.below.size; have:=h.out.lt; omega) (fun e=>by injection e with e; omega)⟩⟩
theorem LdW.app {wo wx w9 : World} {pb gb : Nat} {op to_ a b k : Int} {ls : List Lamp} {LB LC : Option Addr} {m d d' : Nat} {t : List Int} {l : Lamp} (h : LdW wo pb gb op to_ a b k ls LB m d t wx)
 (ho : Own w9 (pb + 1) 59 4 LC (m + 1) d' (ls.flatMap lampCells ++ lampCells l)) (hg : (wx.alloc (.cells (lampCells l).toArray 59)).grownBy w9 (Value.slice LB m d).ownBlock) :
 LdW wo pb gb op to_ a b k (ls ++ [l]) LC (m + 1) d' t (w9.setCell ⟨pb,5,none⟩ (.slice LC (m + 1) d')):=by
 have hn:=h.new;have ho2:=h.old;obtain ⟨z,hz,hzb⟩:=h.glass;have hs:=h.grown.size;refine ⟨?_,?_,⟨z,hz,?_⟩,?_,hn,ho2,by rw [List.length_append,h.len]; rfl⟩
 ·exact (Blk.grown (h.pas.alloc _) (h.row.alloc _) hg (Nat.lt_succ_self _)).set_ 5 _
 ·rw [List.flatMap_append]
  have e : ls.flatMap lampCells ++ [l].flatMap lampCells = ls.flatMap lampCells ++ lampCells l:=by simp
  rw [e];exact ho.far (p:=⟨pb,5,none⟩) (Nat.lt_succ_self _) _
 ·exact (Blk.grown (hzb.alloc _) (h.row.alloc _) hg (by omega)).far (p:=⟨pb,5,none⟩) (by simp only; omega) _
 ·have h1 : wo.grownBy w9 (some gb):=by
   have hal:=grown_trB h.grown (grown_ofB ((Below.refl wx.heap.size wx).alloc (Nat.le_refl _) (.cells (lampCells l).toArray 59)) (some gb));refine ⟨hg.os.trans hal.os,hg.tape.trans hal.tape,hg.output.trans hal.output,Nat.le_trans hal.size hg.size,fun q hq hne=>(hg.block q (Nat.lt_of_lt_of_le hq hal.size) (fun e=>?_)).trans (hal.block q hq hne)⟩;have:=(World.ownsRow.lt h.row q e.symm).1;omega
  exact grown_setW h1 hn _
theorem RdW.app {w wr wx w9 : World} {B : Nat} {W H S O : Int} {ps : List Pas} {es : List (List Value × Option Addr × List Value)} {A A' LB : Option Addr} {n c c' m d pb : Nat} {t u : List Int} {op to_ a b k : Int} {ls : List Lamp} (h : RdW w B W H S O ps es A n c t wr)
 (hl : LdW wr pb (B + 2) op to_ a b k ls LB m d u wx) (hm : m ≤ 65536)
 (ho : Own w9 (B + 3) 110 6 A' (n + 1) c' (es.flatMap (·.1) ++ passCells ⟨op,to_,a,b,k,ls⟩ LB m d)) (hg : (wx.alloc (.cells (passCells ⟨op,to_,a,b,k,ls⟩ LB m d).toArray 110)).grownBy w9 (Value.slice A n c).ownBlock)
 (hat : (Value.slice A' (n + 1) c').ownBlock = (Value.slice A n c).ownBlock ∨ (Value.slice A' (n + 1) c').ownBlock = some (wx.alloc (.cells (passCells ⟨op,to_,a,b,k,ls⟩ LB m d).toArray 110)).heap.size) :
 RdW w B W H S O (ps ++ [⟨op,to_,a,b,k,ls⟩]) (es ++ [(passCells ⟨op,to_,a,b,k,ls⟩ LB m d,LB,ls.flatMap lampCells)]) A' (n + 1) c' u (w9.setCell ⟨B,4,none⟩ (.slice A' (n + 1) c')):=by
 have h':=h.grow hl.grown hl.glass;have hn:=hl.new;have ho2:=hl.old;have hlr:=hl.row.len;have hne : ls.flatMap lampCells ≠ [] → NewFrom (pb + 1) LB:=fun _=>hl.row.new
 have hnb : ls.flatMap lampCells ≠ [] → ∀ x,LB = some x → (Value.slice A n c).ownBlock ≠ some x.block:=fun hd x hx hc=>by
  have h1:=hl.row.new _ hx;have h2:=(World.ownsRow.lt h.row.own _ hc).2;omega
 have hr:=h'.row.app (x:=⟨op,to_,a,b,k,ls⟩) ⟨m,d,rfl,hl.len,rfl,hm⟩ hl.row.cells hnb ho hg hat
 have hnew : ∀ e ∈ es ++ [(passCells ⟨op,to_,a,b,k,ls⟩ LB m d,LB,ls.flatMap lampCells)],e.2.2 ≠ [] → NewFrom (B + 3) e.2.1:=by
  intro e he;rcases List.mem_append.1 he with he | he
  ·exact h.new e he
  ·simp only [List.mem_singleton] at he; subst he; exact fun hd=>(hne hd).mono (by omega)
 have hob:=Blk.grown (h'.out.alloc (.cells (passCells ⟨op,to_,a,b,k,ls⟩ LB m d).toArray 110)) (h'.row.own.alloc _) hg (by omega);have hoe:=Blk.grown (h'.err.alloc (.cells (passCells ⟨op,to_,a,b,k,ls⟩ LB m d).toArray 110)) (h'.row.own.alloc _) hg (by omega);obtain ⟨z,hz,hzb⟩:=h'.glass;have hog:=Blk.grown (hzb.alloc (.cells (passCells ⟨op,to_,a,b,k,ls⟩ LB m d).toArray 110)) (h'.row.own.alloc _) hg (by omega);have hlt:=h'.out.lt;refine ⟨hob.set_ 4 _,hoe.far (p:=⟨B,4,none⟩) (by simp) _,⟨z,hz,hog.far (p:=⟨B,4,none⟩) (by simp) _⟩,⟨hr.own.far (p:=⟨B,4,none⟩) (by simp only; omega) _,?_⟩,hnew,?_,by rw [List.length_append,h.len]; rfl⟩
 ·exact hr.spelt.farB hnew (p:=⟨B,4,none⟩) (by simp only; omega) _
 ·have hba:=h'.below.alloc (by omega) (.cells (passCells ⟨op,to_,a,b,k,ls⟩ LB m d).toArray 110)
  exact (Below.grownOwn hba (h'.row.own.alloc _) hg (by simp only [World.size_alloc]; omega) (by omega)).setCell (p:=⟨B,4,none⟩) (Nat.le_refl _) _
theorem sgn_shift {kv : Int} (h0 : 0 ≤ kv) (h1 : kv < 16777216) : wrap64 (kv * 1099511627776) / 1099511627776 = sgn kv:=by
 unfold sgn;by_cases h : 8388608 ≤ kv
 ·rw [if_pos h]
  have e : wrap64 (kv * 1099511627776) = kv * 1099511627776 - 18446744073709551616:=by simp only [wrap64]; omega
  rw [e]; omega
 ·rw [if_neg h,wrap64_of (by omega) (by omega)]; omega
theorem pas_short {u : List Int} (h : u.length < 8) : rdPas u = none:=by
 match u,h with
 | [],_=>rfl
 | [_],_=>rfl
 | [_,_],_=>rfl
 | [_,_,_],_=>rfl
 | [_,_,_,_],_=>rfl
 | [_,_,_,_,_],_=>rfl
 | [_,_,_,_,_,_],_=>rfl
 | [_,_,_,_,_,_,_],_=>rfl
theorem lamp_short {u : List Int} (h : u.length < 5) : rdLamp u = none:=by
 match u,h with
 | [],_=>rfl
 | [_],_=>rfl
 | [_,_],_=>rfl
 | [_,_,_],_=>rfl
 | [_,_,_,_],_=>rfl
theorem rdFrm_map (W H S O : Int) (N : Nat) (t : List Int) : rdFrm (W :: H :: S :: O :: (N : Int) :: t) = (rdPs N t).map fun x=>(⟨W,H,S,O,x.1⟩,x.2):=by
 simp only [rdFrm,Int.toNat_natCast];cases rdPs N t <;> rfl
theorem rdPas_map (op to_ a b k1 k2 k3 : Int) (M : Nat) (t : List Int) : rdPas (op :: to_ :: a :: b :: k1 :: k2 :: k3 :: (M : Int) :: t) = (rdLamps M t).map fun x=>(⟨op,to_,a,b,sgn ((k1 * 256 + k2) * 256 + k3),x.1⟩,x.2):=by
 simp only [rdPas,Int.toNat_natCast];cases rdLamps M t <;> rfl
theorem rdPs_step {m : Nat} {u v : List Int} {p : Pas} (h : rdPas u = some (p,v)) : rdPs (m + 1) u = (rdPs m v).map fun x=>(p :: x.1,x.2):=by
 simp only [rdPs,h];cases rdPs m v <;> rfl
theorem rdPs_stop {m : Nat} {u : List Int} (h : rdPas u = none) : rdPs (m + 1) u = none:=by simp only [rdPs,h]
theorem rdLamps_step {m : Nat} {u v : List Int} {l : Lamp} (h : rdLamp u = some (l,v)) : rdLamps (m + 1) u = (rdLamps m v).map fun x=>(l :: x.1,x.2):=by
 simp only [rdLamps,h];cases rdLamps m v <;> rfl
theorem rdLamps_stop {m : Nat} {u : List Int} (h : rdLamp u = none) : rdLamps (m + 1) u = none:=by simp only [rdLamps,h]
def readZ (s : List Int) : Int:=if 2048 < s.length then 2 else match readFrm s with
 | some _=>0
 | none=>1
def readF (s : List Int) : Frm:=if 2048 < s.length then noFrm else match readFrm s with
 | some f=>f
 | none=>noFrm
theorem read_results (tmps : Array Value) (fb eb : Nat) (h2 : tmps.getD 2 undef = .pointer (some ⟨fb,0,none⟩)) (h3 : tmps.getD 3 undef = .pointer (some ⟨eb,0,none⟩)) (W H S O z : Int) (A : Option Addr) (n c : Nat) (w : World) (hF : Blk w fb 63 (frmCells W H S O A n c)) (hE : Blk w eb 25 [.int .i64 z]) :
 (results Try.f40 tmps).run Try.prog w = .ok (.tuple #[.agg #[.int .i64 W,.int .i64 H,.int .i64 S,.int .i64 O,.slice A n c],.int .i64 z]) w:=by
 obtain ⟨x,q0,q1,q2,q3,q4⟩:=FrmBox.cells (show FrmBox _ _ W H S O A n c from hF);have e0 : w.cell? ⟨eb,0,none⟩ = some (.int .i64 z):=(hE.cell 0).trans rfl;have k2 : tmps[2]?.getD undef = .pointer (some ⟨fb,0,none⟩):=by rw [← h2]; simp
 have k3 : tmps[3]?.getD undef = .pointer (some ⟨eb,0,none⟩):=by rw [← h3]; simp
 simp [results,Try.results40,k2,k3,go_sem,q0,q1,q2,q3,q4,e0]
theorem read_many (z : ByteArray) (w : World) (h : 2048 < (strL z).length) : Calls Try.prog 40 #[.string z] w (RetFrm w (readF (strL z)) (readZ (strL z))):=by
 have h1 : (2048 : Int) < (z.size : Int):=by rw [strL_len] at h; omega
 have hz : readZ (strL z) = 2:=by unfold readZ; rw [if_pos h]
 have hf : readF (strL z) = noFrm:=by unfold readF; rw [if_pos h]
 rw [hz,hf];clear hz hf h;have hmf : ∀ (fn : Fn) (first cap : Array Value) (w : World),(Instr.makeFunc fn first cap).run Try.prog w = .ok (.func fn first cap) w:=fun _ _ _ _=>rfl
 go_enter_defers Try.func40,Try.ntmps40
 go_wp2_with fail;refine ⟨_,read_results _ w.heap.size (w.heap.size + 1) rfl rfl 0 0 0 0 2 none 0 0 _ ?_ ?_,none,0,0,rfl,rfl,?_,?_⟩
 ·exact (Blk.new w 63 (frmCells 0 0 0 0 none 0 0)).alloc _
 ·exact Blk.newE (cs:=[.int .i64 2]) (by simp)
 ·intro i hi
  simp [noFrm] at hi
 ·exact ((Below.refl _ _).alloc (Nat.le_refl _) _).alloc (by simp) _
end Go.Proofs.Ytibpmogmeoappaa
