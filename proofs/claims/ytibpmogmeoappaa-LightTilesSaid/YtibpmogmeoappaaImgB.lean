/- Walks: draw, and what the closures of One and Two hand back. -/
import Derived.Test.YtibpmogmeoappaaImgA
namespace Go.Proofs.Ytibpmogmeoappaa
open Go.RowKit

/-- the first k places are filled -/
def fillTo (F : Nat → Int) (N k : Nat) : List Int := (List.range N).map fun i => if i < k then F i else 0
theorem fillTo_length (F : Nat → Int) (N k : Nat) : (fillTo F N k).length = N := by simp [fillTo]
theorem fillTo_zero (F : Nat → Int) (N : Nat) : fillTo F N 0 = List.replicate N 0 := by
  simp [fillTo, List.map_const']
theorem fillTo_succ (F : Nat → Int) (N k : Nat) : fillTo F N (k + 1) = (fillTo F N k).set k (F k) := by
  apply List.ext_getElem
  · simp [fillTo]
  · intro i h1 h2
    simp only [fillTo, List.getElem_map, List.getElem_range, List.getElem_set]
    by_cases e : k = i
    · subst e; simp
    · simp only [e, if_false]
      by_cases h : i < k
      · simp [h, show i < k + 1 by omega]
      · simp [h, show ¬ i < k + 1 by omega]
theorem fillTo_full (F : Nat → Int) (N : Nat) : fillTo F N N = (List.range N).map F := by
  apply List.map_congr_left
  intro i hi
  simp at hi; simp [hi]

def DrawF (cw : Int) (f : Int → Int → Int) (i : Nat) : Int := f ((i : Int) % cw) ((i : Int) / cw)
structure DrawRel (w : World) (cw ch : Int) (f : Int → Int → Int) (N k : Nat) (wr : World) : Prop where
  row : Blk wr (w.heap.size + 1) 3 ((fillTo (DrawF cw f) N k).map (.int .i64))
  out : Blk wr (w.heap.size + 1 + 1) 24 [.int .i64 cw, .int .i64 ch, .slice (some ⟨w.heap.size + 1, 0, none⟩) N N]
  res : Blk wr w.heap.size 24 [.int .i64 0, .int .i64 0, .slice none 0 0]
  below : Below w.heap.size w wr
theorem DrawRel.slice {w : World} {cw ch : Int} {f : Int → Int → Int} {N k : Nat} {wr : World} (h : DrawRel w cw ch f N k wr) :
    wr.cell? ⟨w.heap.size + 1 + 1, 2, none⟩ = some (.slice (some ⟨w.heap.size + 1, 0, none⟩) N N) := by rw [h.out.cell]; rfl
theorem DrawRel.lt {w : World} {cw ch : Int} {f : Int → Int → Int} {N k : Nat} {wr : World} (h : DrawRel w cw ch f N k wr) : w.heap.size + 1 + 1 < wr.heap.size := h.out.lt
theorem DrawRel.later {w : World} {cw ch : Int} {f : Int → Int → Int} {N k : Nat} {wr w1 : World} (h : DrawRel w cw ch f N k wr) (hE : Below wr.heap.size wr w1) : DrawRel w cw ch f N k w1 :=
  ⟨h.row.keep hE, h.out.keep hE, h.res.keep hE, h.below.trans (hE.mono h.below.size)⟩
theorem DrawRel.drew {w : World} {cw ch : Int} {f : Int → Int → Int} {N k : Nat} {wr : World} (h : DrawRel w cw ch f N k wr) : DrawRel w cw ch f N k wr.drew :=
  ⟨h.row, h.out, h.res, h.below.drew⟩
theorem DrawRel.at_ {w : World} {cw ch : Int} {f : Int → Int → Int} {N k : Nat} {wr : World} (h : DrawRel w cw ch f N k wr) (hk : k < N) : wr.cell? ⟨w.heap.size + 1, k, none⟩ = some (.int .i64 0) := by
  rw [h.row.cell]; simp [fillTo, hk]
theorem DrawRel.free {w : World} {cw ch : Int} {f : Int → Int → Int} {N k : Nat} {wr : World} (h : DrawRel w cw ch f N k wr) (i : Nat) : wr.frozen? ⟨w.heap.size + 1, i, none⟩ = false := h.row.frozen i
theorem DrawRel.store {w : World} {cw ch : Int} {f : Int → Int → Int} {N k : Nat} {wr : World} (h : DrawRel w cw ch f N k wr) :
    DrawRel w cw ch f N (k + 1) (wr.setCell ⟨w.heap.size + 1, k, none⟩ (.int .i64 (f ((k : Int) % cw) ((k : Int) / cw)))) := by
  refine ⟨?_, h.out.far (by simp) _, h.res.far (by simp) _, h.below.setCell (by simp) _⟩
  have := h.row.set_ k (.int .i64 (f ((k : Int) % cw) ((k : Int) / cw)))
  rw [fillTo_succ, List.map_set]
  exact this
theorem DrawRel.stores {w : World} {cw ch : Int} {f : Int → Int → Int} {N k : Nat} {wr : World} (h : DrawRel w cw ch f N k wr) {u v x : Value} :
    Below w.heap.size w (((wr.setCell ⟨w.heap.size, 0, none⟩ u).setCell ⟨w.heap.size, 1, none⟩ v).setCell ⟨w.heap.size, 2, none⟩ x) :=
  ((h.below.setCell (by simp) _).setCell (by simp) _).setCell (by simp) _
theorem drawF_eq {cw ch : Int} {N : Nat} (h1 : 1 ≤ cw) (h2 : 1 ≤ ch) (hN : (N : Int) = cw * ch) (f : Int → Int → Int) : Img.mk cw ch (fillTo (DrawF cw f) N N) = drawn cw ch f := by
  unfold drawn
  have e : N = cw.toNat * ch.toNat := by
    have : ((cw.toNat * ch.toNat : Nat) : Int) = cw * ch := by rw [Int.natCast_mul, Int.toNat_of_nonneg (by omega), Int.toNat_of_nonneg (by omega)]
    omega
  rw [fillTo_full, grid_eq _ _ (by omega), e]
  congr 1
  apply List.map_congr_left
  intro i _
  unfold DrawF
  rw [Int.natCast_emod, Int.natCast_ediv, Int.toNat_of_nonneg (by omega)]
theorem drawRel_start (w : World) (cw ch : Int) (f : Int → Int → Int) (N : Nat) :
    DrawRel w cw ch f N 0 (((w.alloc (.cells #[.int .i64 0, .int .i64 0, .slice none 0 0] 24)).alloc (.cells (Array.replicate N (.int .i64 0)) 3)).alloc
      (.cells #[.int .i64 cw, .int .i64 ch, .slice (some ⟨w.heap.size + 1, 0, none⟩) N N] 24)) := by
  have b0 : Blk (w.alloc (.cells #[.int .i64 0, .int .i64 0, .slice none 0 0] 24)) w.heap.size 24 [.int .i64 0, .int .i64 0, .slice none 0 0] := Blk.new w 24 _
  have b1 := Blk.new (w.alloc (.cells #[.int .i64 0, .int .i64 0, .slice none 0 0] 24)) 3 ((fillTo (DrawF cw f) N 0).map (.int .i64))
  have e1 : ((fillTo (DrawF cw f) N 0).map (Value.int .i64)).toArray = Array.replicate N (.int .i64 0) := by
    rw [fillTo_zero, List.map_replicate]; rfl
  rw [e1] at b1
  have b2 := Blk.new ((w.alloc (.cells #[.int .i64 0, .int .i64 0, .slice none 0 0] 24)).alloc (.cells (Array.replicate N (.int .i64 0)) 3)) 24 [.int .i64 cw, .int .i64 ch, .slice (some ⟨w.heap.size + 1, 0, none⟩) N N]
  simp only [World.size_alloc] at b1 b2
  exact ⟨b1.alloc _, b2, (b0.alloc _).alloc _, (((Below.refl _ _).alloc (Nat.le_refl _) _).alloc (by simp) _).alloc (by simp; omega) _⟩

theorem Try.info3 : (Try.prog.info? 3).map (fun i => (i.zero, i.size, i.bytes)) = some (some (.int .i64 0), 1, 8) := by kernel_rfl

set_option maxRecDepth 100000 in
set_option maxHeartbeats 1000000 in
theorem draw_any (g : FuncId) (lb : Array Value) (cw ch : Int) (hw1 : 1 ≤ cw) (hw2 : cw ≤ 16) (hh1 : 1 ≤ ch) (hh2 : ch ≤ 16) (f : Int → Int → Int) (w : World)
    (eg : ∀ args w, (callFunc g args).run Try.prog w = .ok (.enter g args) w) (hto : Gives2 Try.prog g lb cw ch f w) :
    Calls Try.prog 51 #[.int .i64 cw, .int .i64 ch, .func (.func g) #[] lb] w (RetImg w (drawn cw ch f)) := by
  have hb := mul_bd hw1 hw2 hh1 hh2
  have hp1 : 0 ≤ cw * ch := by omega
  have hp2 : cw * ch ≤ 256 := by omega
  obtain ⟨i0, hi0, hz0, hz1, hz2⟩ := info_parts Try.info3
  obtain ⟨N, HN⟩ : ∃ N : Nat, Hid ((N : Int) = cw * ch) := ⟨(cw * ch).toNat, Int.toNat_of_nonneg hp1⟩
  have hN1 : N ≤ 256 := by have := HN.out; omega
  have hmk := fun wx => run_make_ints (P := Try.prog) 22 3 i0 Try.underlying22 hi0 hz0 hz1 hz2 (cw * ch) N HN.out.symm (by omega) wx
  have HT := hide hto
  clear hto hb
  go_enter Try.func51, Try.ntmps51
  go_wp2_with fail
  go_loopw [19] (fun i wr => ∃ k : Nat, k ≤ N ∧ i = .int .i64 k ∧ DrawRel w cw ch f N k wr) (fun i _ => N - (intOf i).toNat)
  case atStart => exact ⟨0, Nat.zero_le _, rfl, drawRel_start _ _ _ _ _⟩
  case round =>
    obtain ⟨k, hk, rfl, hR⟩ := hrel
    have HR := hide hR
    clear hR
    by_cases hlt : k < N
    · have hk1 : (k : Int) < (N : Int) := by omega
      have hs := HR.out.slice
      have hlr := HR.out.lt
      have hm0 : (0 : Int) ≤ (k : Int) % cw := Int.emod_nonneg _ (by omega)
      have hm1 : (k : Int) % cw < cw := Int.emod_lt_of_pos _ (by omega)
      have hd0 : (0 : Int) ≤ (k : Int) / cw := Int.ediv_nonneg (by omega) (by omega)
      have hd1 : (k : Int) / cw < ch := Int.ediv_lt_of_lt_mul (by omega) (by rw [Int.mul_comm]; have := HN.out; omega)
      have hcz : ¬ cw = 0 := by omega
      have hdk : (k : Int) / cw ≤ 16 := by omega
      have hq : IntKind.i64.wrap ((k : Int) / cw) = (k : Int) / cw := IntWalk.i64_in _ (by omega)
      have hr : (k : Int).tmod cw = (k : Int) % cw := Int.tmod_eq_emod_of_nonneg (by omega)
      have hk0 : (0 : Int) ≤ (k : Int) := by omega
      go_wp2_with fail
      go_region_held3 (fun w' => w'.cell? ⟨w.heap.size + 1 + 1, 2, none⟩ = some (.slice (some ⟨w.heap.size + 1, 0, none⟩) N N))
        (first | go_keep | (rw [(hE.cell (p := ⟨w.heap.size + 1 + 1, 2, none⟩) (by simp; omega))]; assumption))
        (first | (refine ((unhide HT) _ _ _ (Below.drew HR.out.below) hm0 hm1 hd0 hd1).mono ?_; rintro e w1 ⟨rfl, hE⟩; have hR1 := hide (HR.out.drew.later hE); have hc1 := hR1.out.at_ hlt; have hf1 := hR1.out.free k; have hl1 := hR1.out.lt))
      go_wp2
      go_roundw
      case rel => exact ⟨k + 1, by omega, by go_num, hR1.out.store⟩
      case measure => simp [intOf]; omega
    · obtain rfl : k = N := by omega
      have hO := HR.out.out
      have hs0 : wr.cell? ⟨w.heap.size + 1 + 1, 0, none⟩ = some (.int .i64 cw) := by rw [hO.cell]; rfl
      have hs1 : wr.cell? ⟨w.heap.size + 1 + 1, 1, none⟩ = some (.int .i64 ch) := by rw [hO.cell]; rfl
      have hs2 := HR.out.slice
      have hS := HR.out.res
      have hr0 : wr.cell? ⟨w.heap.size, 0, none⟩ = some (.int .i64 0) := by rw [hS.cell]; rfl
      have hr1 : wr.cell? ⟨w.heap.size, 1, none⟩ = some (.int .i64 0) := by rw [hS.cell]; rfl
      have hr2 : wr.cell? ⟨w.heap.size, 2, none⟩ = some (.slice none 0 0) := by rw [hS.cell]; rfl
      have hz0 := hS.frozen 0
      have hz1 := hS.frozen 1
      have hz2 := hS.frozen 2
      have hl := HR.out.lt
      clear hO hS
      go_wp2
      refine bodyPost_ret (v := .agg #[.int .i64 cw, .int .i64 ch, .slice (some ⟨w.heap.size + 1, 0, none⟩) k k]) (by simp [results, Try.results51, go_sem, hr0, hr1, hr2]) rfl ?_
      have hN := HN.out
      have hlen : (fillTo (DrawF cw f) k k).length = k := fillTo_length _ _ _
      refine ⟨cw, ch, fillTo (DrawF cw f) k k, _, k, k, drawF_eq hw1 hh1 hN f, hlen, rfl, ?_, Mine.some_ (cs := (fillTo (DrawF cw f) k k).map (.int .i64)) (by omega) (((HR.out.row.far (p := ⟨w.heap.size, 0, none⟩) (by simp) _).far (p := ⟨w.heap.size, 1, none⟩) (by simp) _).far (p := ⟨w.heap.size, 2, none⟩) (by simp) _), HR.out.stores⟩
      exact ((((HR.out.row.far (p := ⟨w.heap.size, 0, none⟩) (by simp) _).far (p := ⟨w.heap.size, 1, none⟩) (by simp) _).far (p := ⟨w.heap.size, 2, none⟩) (by simp) _).cells)
end Go.Proofs.Ytibpmogmeoappaa
