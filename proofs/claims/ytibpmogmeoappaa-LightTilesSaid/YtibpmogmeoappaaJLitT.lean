/- Plain laws for LightTiles. -/
import Derived.Test.YtibpmogmeoappaaJLitA
import Derived.Test.YtibpmogmeoappaaJLitM
namespace Go.Proofs.Ytibpmogmeoappaa
open Go.RowKit
def pickL (ls : List Lamp) (L : List Int) : List Lamp:=L.map fun i=>ls.getD i.toNat ⟨0,0,0,0⟩
theorem pick_at (ls : List Lamp) (L : List Int) (u v : Int) : lightAt (pickL ls L) u v = nearSum ls L u v:=by
 unfold lightAt pickL nearSum; rw [List.map_map]; rfl
theorem pick_fine {ls : List Lamp} {L : List Int} (hz : lampsErr ls = 0) (h8 : L.length ≤ 8) (hL : ∀ i ∈ L,∃ k : Nat,i = (k : Int) ∧ k < ls.length) : lampsErr (pickL ls L) = 0:=by
 unfold lampsErr;have h1 : (pickL ls L).length = L.length:=by simp [pickL]
 rw [if_neg (by omega),if_pos];intro l hl;unfold pickL at hl;obtain ⟨i,hi,rfl⟩:=List.mem_map.1 hl;obtain ⟨k,rfl,hk⟩:=hL i hi;rw [Int.toNat_natCast,List.getD_eq_getElem?_getD,List.getElem?_eq_getElem hk];exact (lampsErr_zero hz).2 _ (List.getElem_mem hk)
theorem pick_take {ls : List Lamp} {L : List Int} {k i : Nat} {l : Lamp} (hi : L[k]? = some (i : Int)) (hl : ls[i]? = some l) : pickL ls (L.take (k + 1)) = pickL ls (L.take k) ++ [l]:=by
 rw [List.take_add_one,hi,Option.toList_some];unfold pickL;rw [List.map_append,List.map_singleton,Int.toNat_natCast,List.getD_eq_getElem?_getD,hl];rfl
theorem lit_ge {a : Img} {ls : List Lamp} (hF : a.Fine) (hz : lampsErr ls = 0) {i : Nat} {x y : Int} (hx : (litImg a ls).P[i]? = some x) (hy : a.P[i]? = some y) : y ≤ x:=by
 have hP:=congrArg Img.P hF.eq_drawn;simp only [drawn] at hP;have hw : 0 < a.W.toNat:=by have:=hF.1; omega
 rw [hP,grid_eq _ _ hw] at hy;simp only [litImg,drawn] at hx;rw [grid_eq _ _ hw] at hx;rw [List.getElem?_map] at hx hy
 by_cases hi : i < a.W.toNat * a.H.toNat
 ·rw [List.getElem?_range hi] at hx hy
  simp only [Option.map_some,Option.some.injEq] at hx hy;have q1:=Nat.mod_lt i hw;have q2:=Nat.div_lt_of_lt_mul hi;generalize i % a.W.toNat = q at *;generalize i / a.W.toNat = r at *;have hb:=hF.at_bd (x:=(q : Int)) (y:=(r : Int)) (by omega) (by omega) (by omega) (by omega);have hs:=lightAt_bd (lampsErr_zero hz).2 (q : Int) (r : Int);unfold litPix at hx;omega
 ·rw [List.getElem?_eq_none (by simpa using hi)] at hx
  cases hx
theorem litErr_zero {a : Img} {ls : List Lamp} {tile : Int} (h : litErr a ls tile = 0) : a.Fine ∧ lampsErr ls = 0 ∧ litAns a ls tile = litImg a ls:=by
 refine ⟨?_,?_,if_pos h⟩
 ·unfold litErr at h; split at h
  ·assumption
  ·omega
 ·unfold litErr at h; split at h
  ·split at h
   ·assumption
   ·omega
  ·omega
theorem litImg_len {a : Img} {ls : List Lamp} (hF : a.Fine) : (litImg a ls).P.length = a.P.length:=by
 have h1:=hF.2.2.1;obtain ⟨h2,h3,_⟩:=hF;simp only [litImg,drawn,grid_length];have : ((a.W.toNat * a.H.toNat : Nat) : Int) = a.W * a.H:=by rw [Int.natCast_mul,Int.toNat_of_nonneg (by omega),Int.toNat_of_nonneg (by omega)]
 omega
theorem near_in {ls : List Lamp} {x y cw ch : Int} (h : lampNearErr ls x y cw ch = 0) : lampsErr ls = 0 ∧ NearIn x y cw ch:=by
 unfold lampNearErr at h;split at h
 ·rename_i h0
  split at h
  ·rename_i h1; exact ⟨h0,h1⟩
  ·omega
 ·rename_i h0; exact absurd h h0
theorem at_in {ls : List Lamp} {u v : Int} (hz : lampsErr ls = 0) (hi : Inside u v) : lampAtErr ls u v = 0 ∧ lampAtAns ls u v = lightAt ls u v:=by
 have h : lampAtErr ls u v = 0:=by unfold lampAtErr; rw [if_pos hz,if_pos hi]
 exact ⟨h,if_pos h⟩
end Go.Proofs.Ytibpmogmeoappaa
