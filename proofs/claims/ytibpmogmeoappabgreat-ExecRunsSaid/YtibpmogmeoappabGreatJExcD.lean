/- Walk: a pass that is done in the arena. -/
import Derived.Test.YtibpmogmeoappabGreatJExcB
import Derived.Test.YtibpmogmeoappabGreatJFrmO
namespace Go.Proofs.YtibpmogmeoappabGreat
open Go.RowKit

/-- the rest of a row -/
theorem run_tail (g o m d : Nat) (lo : Int) (hlo : lo = (o : Int)) (h0 : o < m) (hd : m ≤ d) (w : World) :
    (Instr.slice 25 (.slice (some ⟨g, 0, none⟩) m d) (some (.int .i64 lo)) none none).run Tryz.prog w = .ok (.slice (some ⟨g, o, none⟩) (m - o) (d - o)) w := by
  subst hlo
  have hsz : ∀ W : World, (sizeOf (Tryz.prog.elem 25)).run Tryz.prog W = .ok 1 W := fun W => by
    rw [show Tryz.prog.elem 25 = 3 from by kernel_rfl]
    simp [sizeOf]
    rfl
  rw [run_slice_l w _ _ _ _ (by rw [show Tryz.prog.elem 25 = 3 from by kernel_rfl]; exact Tryz.underlying25) .i64 (o : Int) (by omega) (by omega), hsz]
  simp only [Result.andThen, sliced, Int.toNat_natCast]
  rw [if_neg (by omega : ¬ d = o)]
  simp [Addr.add]
  try omega
@[go_sem] theorem run_img_nums (U V : Int) (A : Option Addr) (n c : Nat) (w : World) : (Instr.field 29 (.agg #[.int .i64 U, .int .i64 V, .slice A n c]) 2).run Tryz.prog w = .ok (.slice A n c) w := by kernel_rfl
/-- the images that a pass takes -/
def lain (f : Frm) (p : Pln) (l : List Int) (k : Nat) : List Img := (srcs f k).map (lieOf l f p)
theorem lain_a {f : Frm} {p : Pln} {l : List Int} {k : Nat} (h : hasA (f.pas k).Op = true) : (lain f p l k)[0]? = some (lieOf l f p (writerTo f k (f.pas k).A)) := by
  unfold lain srcs; rw [if_pos h]; rfl
theorem lain_b {f : Frm} {p : Pln} {l : List Int} {k : Nat} (h : hasB (f.pas k).Op = true) (hA : hasA (f.pas k).Op = true) : (lain f p l k)[1]? = some (lieOf l f p (writerTo f k (f.pas k).B)) := by
  unfold lain srcs; rw [if_pos hA, if_pos h]; rfl

set_option maxRecDepth 100000 in
set_option maxHeartbeats 8000000 in
theorem workPass_any {w0 w : World} {b g B0 : Nat} {f : Frm} {p : Pln} {PA : Option Addr} {n c : Nat} {OA : Option Addr} {on oc : Nat} {QA : Option Addr} {qn qc d : Nat} {SA : Option Addr} {sc : Nat} {RA : Option Addr} {rc : Nat} {l : List Int} {ex : List Value}
    (hb0 : Below w0.heap.size w0 w) (hgb : w0.heap.size ≤ g) (hW : WorkAt w b g B0 f PA n c OA on oc QA qn qc d SA sc RA rc l ex) (hok : ArOk f p l) (hn : f.P.length = n) (hP : Passes w0 PA f.P) (hQ : Ints w0 QA p.Places) (hqn : p.Places.length = qn) (k : Nat) (hk : k < n) (hd : 0 ≤ stepOf p.Order k) :
    Calls Tryz.prog 10 #[.pointer (some ⟨b, 0, none⟩), .int .i64 (k : Int)] w fun e w' => e = .returned (.tuple #[]) ∧ w.grownBy w' (some g) ∧ Ar w' g (stepAr f p l k) ex := by
  have hkf : k < f.P.length := by rw [hn]; exact hk
  have hpl := hok.place hkf hd
  have hsz := frSize_bd hok.frm hkf
  have hlen := doImg_len hok hkf hd
  have hroom := hok.room
  have h12 := hok.frm.many
  have hqf : p.Places.length = f.P.length := hok.ord.places
  have hdl := hW.room
  have hMD := doMade hok hkf hd
  obtain ⟨o, ho⟩ : ∃ o : Nat, p.pl k = (o : Int) := ⟨(p.pl k).toNat, by omega⟩
  obtain ⟨pk, hpk⟩ : ∃ pk : Int, pk = (o : Int) := ⟨_, rfl⟩
  have hstep : stepAr f p l k = putAt l o (doImg f p l k).P := by unfold stepAr; rw [ho]; rfl
  rw [ho] at hpl
  have hfit : o + (doImg f p l k).P.length ≤ l.length := by omega
  have hpos : 0 < (doImg f p l k).P.length := by omega
  have hsl := fun W0 : World => run_tail g o l.length d pk hpk (by omega) hdl W0
  -- the pass
  obtain ⟨pb, po, LA, m, dd, ps, rfl, hpb, hps, c0, c1, c2, c3, c4, c5, hm, hL, hml⟩ := hP.at_ k hkf
  have hPK : f.pas k = ps := hps
  have hA0 := lain_a (f := f) (p := p) (l := l) (k := k)
  have hB0 := lain_b (f := f) (p := p) (l := l) (k := k)
  have hdo : doImg f p l k = passImg f.W f.H (f.pas k) (lieOf l f p (writerTo f k (f.pas k).A)) (lieOf l f p (writerTo f k (f.pas k).B)) := rfl
  rw [hPK] at hMD hA0 hB0 hdo
  obtain ⟨di, hdi⟩ : ∃ di, doImg f p l k = di := ⟨_, rfl⟩
  rw [hdi] at hdo hstep hfit hpos
  have HMD := hide (fun (W0 : World) (IA : Option Addr) (N cN : Nat) (h1 : Lamps W0 LA ps.L) (h2 : Imgs W0 IA (lain f p l k)) (h3 : (lain f p l k).length = N) => (show Calls Tryz.prog 29 #[.agg #[.int .i64 f.W, .int .i64 f.H, .int .i64 f.S, .int .i64 f.O, .slice (some ⟨pb, po, none⟩) n c], .agg #[.int .i64 ps.Op, .int .i64 ps.To, .int .i64 ps.A, .int .i64 ps.B, .int .i64 ps.K, .slice LA m dd], .slice IA N cN] W0 (RetImg W0 di) from by
    rw [hdo]; exact made_all f.W f.H f.S f.O (some ⟨pb, po, none⟩) n c ps LA m dd IA N cN (lain f p l k) _ _ W0 h1 hm h2 h3 hMD hA0 (fun h => hB0 h (hasA_of_B h))))
  have HIMC := hide (fun (W0 : World) (h1 : Below w.heap.size w W0) (j : Nat) (hj : j < n) (hdj : 0 ≤ stepOf p.Order j) => workImage_any (hW.keep h1) hok hn (hQ.keep (hb0.trans (h1.mono hb0.size))) hqn j hj hdj)
  obtain ⟨bl, v0, v1, v2, v3, v4, v5, v6, v7, v8, v9⟩ := work_at hW.box
  obtain ⟨qb, qo, rfl, hqb, cq⟩ := hQ k (by rw [List.length_map, hqf]; exact hkf)
  have eq : (p.Places.map (Value.int .i64)).getD k undef = .int .i64 pk := by
    rw [List.getD_eq_getElem?_getD, List.getElem?_map, List.getElem?_eq_getElem (by rw [hqf]; exact hkf)]
    simp only [Option.map_some, Option.getD_some]
    rw [hpk, ← ho]
    congr 1
    unfold Pln.pl
    rw [List.getD_eq_getElem?_getD, List.getElem?_eq_getElem (by rw [hqf]; exact hkf)]
    rfl
  rw [eq] at cq
  have hsr := frSources_at hok.frm (k := k) hkf
  obtain ⟨rb, ro, RB, sm, sd, rfl, hrb0, hrb, cr, hsm, hsI, hsN⟩ := hW.src k _ hsr
  have hs2 : sm ≤ 2 := by rw [← hsm]; exact srcs_le f k
  have HSI := hide (Keeps.ints hsI)
  have HSM := hide hsm
  have hk0 : (0 : Int) ≤ (k : Int) := by omega
  have hk1 : (k : Int) < (n : Int) := by omega
  have hk2 : (k : Int) < (qn : Int) := by omega
  have HSRC := hide (show ∀ v ∈ srcs f k, (0 ≤ v ∧ v < n) ∧ 0 ≤ stepOf p.Order v from fun v hv => ⟨by have := hok.frm.src hkf hv; omega, hok.srcDone hd hv⟩)
  have HLIE := hide (show ∀ v : Nat, lieOf l f p (v : Int) = lieAt l f p v from fun v => by unfold lieOf; rw [if_neg (by omega), Int.toNat_natCast])
  have HWA := hide hW
  have HQ0 := hide (show qb < w0.heap.size ∧ pb < w0.heap.size from ⟨hqb, hpb⟩)
  have HC := hide (show Keeps w0 (fun w' : World => w'.cell? ⟨qb, qo + k, none⟩ = some (.int .i64 pk) ∧ w'.cell? ⟨pb, po + k * 6, none⟩ = some (.int .i64 ps.Op) ∧ w'.cell? ⟨pb, po + k * 6 + 1, none⟩ = some (.int .i64 ps.To) ∧ w'.cell? ⟨pb, po + k * 6 + 2, none⟩ = some (.int .i64 ps.A) ∧ w'.cell? ⟨pb, po + k * 6 + 3, none⟩ = some (.int .i64 ps.B) ∧ w'.cell? ⟨pb, po + k * 6 + 4, none⟩ = some (.int .i64 ps.K) ∧ w'.cell? ⟨pb, po + k * 6 + 5, none⟩ = some (.slice LA m dd)) from ⟨⟨cq, c0, c1, c2, c3, c4, c5⟩, fun _ hb => ⟨keepC hb cq, keepC hb c0, keepC hb c1, keepC hb c2, keepC hb c3, keepC hb c4, keepC hb c5⟩⟩)
  have HLA := hide (hL.keep hb0)
  have HB0 := hide hb0
  have HST := hide (show stepAr f p l k = putAt l o di.P ∧ o + di.P.length ≤ l.length ∧ 0 < di.P.length ∧ g ≠ b ∧ w0.heap.size ≤ g from ⟨hstep, hfit, hpos, fun e => hW.ne e.symm, hgb⟩)
  obtain ⟨i0, hi0, hz0, hz1, hz2⟩ := info_parts Tryz.infoImg
  obtain ⟨j0, hj0, jz0, jz1, jz2⟩ := info_parts Tryz.info3
  have HI0 := hide hi0
  have HZ0 := hide hz0
  have HZ1 := hide hz1
  have HZ2 := hide hz2
  have HJ0 := hide (show (Tryz.prog.info? 3).map (·.size) = some 1 from by rw [hj0]; simp [jz1])
  clear hW hok hn hP hQ hqn hd hkf hpl hsz hlen hroom h12 hqf hdl hMD ho hpk hps hPK hA0 hB0 hdo hdi hstep hfit hpos hpb hqb c0 c1 c2 c3 c4 c5 hm hL hml eq cq hsr hrb0 hsI hsN hsm hi0 hz0 hz1 hz2 hj0 jz0 jz1 jz2 hb0 hgb
  go_enter Tryz.func10, Tryz.ntmps10
  go_wp2_with fail
  go_loopw [4, 6, 15] (fun s _ i wr => ∃ (j : Nat) (A : Option Addr) (dj : Nat) (es : List Sp), j ≤ sm ∧ i = .int .i64 j ∧ s = .slice A j dj ∧ Hid (GRow ImgK 3 29 wr w.heap.size A j dj ((lain f p l k).take j) es) ∧ Hid (Below w.heap.size w wr)) (fun _ _ i _ => sm - (intOf i).toNat)
  case atStart => exact ⟨0, none, 0, [], Nat.zero_le _, rfl, rfl, hide (GRow.nil _ _ _ _ _), hide (Below.refl _ _)⟩
  case round =>
    obtain ⟨j, A, dj, es, hj, rfl, rfl, HR, HB⟩ := hrel
    clear v0 v1 v2 v3 v4 v5 v6 v7 v8 v9
    by_cases hlt : j < sm
    · have hj0 : (0 : Int) ≤ (j : Int) := by omega
      have hj1 : (j : Int) < (sm : Int) := by omega
      obtain ⟨sb, so, v, rfl, hsb, hv, hsc⟩ := (HSI.out.later _ HB.out).at_ j (by have := HSM.out; omega)
      have hmem := List.mem_of_getElem? hv
      obtain ⟨⟨e0, e1⟩, e2⟩ := HSRC.out v hmem
      obtain ⟨x, hx⟩ : ∃ x : Nat, v = (x : Int) := ⟨v.toNat, by omega⟩
      subst hx
      have hTK : (lain f p l k)[j]? = some (lieAt l f p x) := by unfold lain; rw [List.getElem?_map, hv]; simp only [Option.map_some]; rw [HLIE.out]
      have HTK := hide hTK
      have HIM := hide ((unhide HIMC) _ HB.out x (by omega) e2)
      generalize hxi : lieAt l f p x = xi at *
      have HOW := hide (fun bb (h : (Value.slice A j dj).ownBlock = some bb) => (HR.out.own.lt h).2)
      clear hmem e0 e1 e2 hv hTK hxi
      go_wp2_with fail
      refine (unhide HIM).mono ?_
      rintro e w2 ⟨W1, H1, P1, A1, n1, c1, hr, hn1, rfl, hI1, hA1, hE2⟩
      have HR2 := hide (HR.out.keep hE2)
      have hB2 := HB.out.trans (hE2.mono HB.out.size)
      have hs2' := hB2.size
      have HB2 := hide hB2
      have HI1 := hide hI1
      have HA1 := hide hA1
      have HN1 := hide hn1
      have HRX := hide hr
      have hi0 := HI0.out
      have hz0 := HZ0.out
      have hz1 := HZ1.out
      have hz2 := HZ2.out
      clear hB2 hI1 hA1 hE2 hn1 hr
      go_wp2_with (at_builtin; go_loud (refine wpList_app1A w2 w2.heap.size rfl rfl _ _ 68 rfl w.heap.size 29 i0 _ 3 40 Tryz.underlying68 hi0 hz0 hz1 hz2 rfl (by omega) A j dj _ [.int .i64 W1, .int .i64 H1, .slice A1 n1 c1] rfl HR2.out.own rfl rfl (one_img _ _ _ _ _) (by omega) (by omega) hs2' ?_; intro A9 c9 w9 hown9 hg9 hat9))
      go_roundw
      case rel =>
        refine ⟨j + 1, A9, c9, es ++ [([.int .i64 W1, .int .i64 H1, .slice A1 n1 c1], A1, P1.map (.int .i64))], by omega, by go_num, rfl, ?_, ?_⟩
        · rw [List.take_add_one, HTK.out, ← HRX.out]
          refine hide (HR2.out.app (x := ⟨W1, H1, P1⟩) ⟨n1, c1, rfl, HN1.out, rfl⟩ HI1.out (fun hne a ha e => ?_) hown9 hg9 hat9)
          have h1 := HOW.out _ e
          have h2 : wr.heap.size ≤ a.block := HA1.out.new a ha
          omega
        · exact hide (Below.grownOwn (HB2.out.alloc HB2.out.size _) (HR2.out.own.alloc _) hg9 (by simp only [World.size_alloc]; omega) (Nat.le_refl _))
      case measure => simp [intOf]; omega
    · obtain rfl : j = sm := by omega
      have HRI := hide (show Imgs wr A (lain f p l k) from by
        have h := HR.out.imgs
        rw [List.take_of_length_le (by unfold lain; rw [List.length_map, HSM.out]; exact Nat.le_refl _)] at h
        exact h)
      have HLL := hide (show (lain f p l k).length = j from by unfold lain; rw [List.length_map]; exact HSM.out)
      have hb0r := HB0.out.trans (HB.out.mono HB0.out.size)
      have hWr := HWA.out.keep HB.out
      obtain ⟨bl', v0, v1, v2, v3, v4, v5, v6, v7, v8, v9⟩ := work_at hWr.box
      obtain ⟨cq, c0, c1, c2, c3, c4, c5⟩ := HC.out.later _ hb0r
      have HWR := hide hWr
      have HBR := hide hb0r
      have HLR := hide (HLA.out.keep HB.out)
      have HKS := hide (show Keeps wr (fun w' : World => w'.cell? ⟨b, 0, none⟩ = some (.int .i64 f.W) ∧ w'.cell? ⟨b, 1, none⟩ = some (.int .i64 f.H) ∧ w'.cell? ⟨b, 2, none⟩ = some (.int .i64 f.S) ∧ w'.cell? ⟨b, 3, none⟩ = some (.int .i64 f.O) ∧ w'.cell? ⟨b, 4, none⟩ = some (.slice (some ⟨pb, po, none⟩) n c) ∧ w'.cell? ⟨b, 6, none⟩ = some (.slice (some ⟨qb, qo, none⟩) qn qc) ∧ w'.cell? ⟨b, 7, none⟩ = some (.slice (some ⟨g, 0, none⟩) l.length d) ∧ w'.cell? ⟨qb, qo + k, none⟩ = some (.int .i64 pk) ∧ w'.cell? ⟨pb, po + k * 6, none⟩ = some (.int .i64 ps.Op) ∧ w'.cell? ⟨pb, po + k * 6 + 1, none⟩ = some (.int .i64 ps.To) ∧ w'.cell? ⟨pb, po + k * 6 + 2, none⟩ = some (.int .i64 ps.A) ∧ w'.cell? ⟨pb, po + k * 6 + 3, none⟩ = some (.int .i64 ps.B) ∧ w'.cell? ⟨pb, po + k * 6 + 4, none⟩ = some (.int .i64 ps.K) ∧ w'.cell? ⟨pb, po + k * 6 + 5, none⟩ = some (.slice LA m dd)) from ⟨⟨v0, v1, v2, v3, v4, v6, v7, cq, c0, c1, c2, c3, c4, c5⟩, fun _ hb => ⟨keepC hb v0, keepC hb v1, keepC hb v2, keepC hb v3, keepC hb v4, keepC hb v6, keepC hb v7, keepC hb cq, keepC hb c0, keepC hb c1, keepC hb c2, keepC hb c3, keepC hb c4, keepC hb c5⟩⟩)
      have HH := hide (fun (w2 w9 : World) (hB2 : Below wr.heap.size wr w2) (hg9 : w2.grownBy w9 (some g)) => (show (fun w' : World => w'.cell? ⟨b, 0, none⟩ = some (.int .i64 f.W) ∧ w'.cell? ⟨b, 1, none⟩ = some (.int .i64 f.H) ∧ w'.cell? ⟨b, 2, none⟩ = some (.int .i64 f.S) ∧ w'.cell? ⟨b, 3, none⟩ = some (.int .i64 f.O) ∧ w'.cell? ⟨b, 4, none⟩ = some (.slice (some ⟨pb, po, none⟩) n c) ∧ w'.cell? ⟨b, 6, none⟩ = some (.slice (some ⟨qb, qo, none⟩) qn qc) ∧ w'.cell? ⟨b, 7, none⟩ = some (.slice (some ⟨g, 0, none⟩) l.length d) ∧ w'.cell? ⟨qb, qo + k, none⟩ = some (.int .i64 pk) ∧ w'.cell? ⟨pb, po + k * 6, none⟩ = some (.int .i64 ps.Op) ∧ w'.cell? ⟨pb, po + k * 6 + 1, none⟩ = some (.int .i64 ps.To) ∧ w'.cell? ⟨pb, po + k * 6 + 2, none⟩ = some (.int .i64 ps.A) ∧ w'.cell? ⟨pb, po + k * 6 + 3, none⟩ = some (.int .i64 ps.B) ∧ w'.cell? ⟨pb, po + k * 6 + 4, none⟩ = some (.int .i64 ps.K) ∧ w'.cell? ⟨pb, po + k * 6 + 5, none⟩ = some (.slice LA m dd)) w9 from by
        obtain ⟨_, u0, u1, u2, u3, u4, u5, u6, u7, u8, u9⟩ := work_at (Blk.but (HWR.out.keep hB2).box hg9 (fun e => HST.out.2.2.2.1 e.symm))
        have hb9 : Below w0.heap.size w0 w9 := below_of_grown (grown_trB (grown_ofB (HBR.out.trans (hB2.mono HBR.out.size)) _) hg9) (Nat.le_refl _) HST.out.2.2.2.2
        obtain ⟨cq, c0, c1, c2, c3, c4, c5⟩ := HC.out.later _ hb9
        exact ⟨u0, u1, u2, u3, u4, u6, u7, cq, c0, c1, c2, c3, c4, c5⟩))
      clear hWr hb0r v5 v8 v9 HR
      go_wp2_with fail
      go_region_held3 (fun w' : World => w'.cell? ⟨b, 0, none⟩ = some (.int .i64 f.W) ∧ w'.cell? ⟨b, 1, none⟩ = some (.int .i64 f.H) ∧ w'.cell? ⟨b, 2, none⟩ = some (.int .i64 f.S) ∧ w'.cell? ⟨b, 3, none⟩ = some (.int .i64 f.O) ∧ w'.cell? ⟨b, 4, none⟩ = some (.slice (some ⟨pb, po, none⟩) n c) ∧ w'.cell? ⟨b, 6, none⟩ = some (.slice (some ⟨qb, qo, none⟩) qn qc) ∧ w'.cell? ⟨b, 7, none⟩ = some (.slice (some ⟨g, 0, none⟩) l.length d) ∧ w'.cell? ⟨qb, qo + k, none⟩ = some (.int .i64 pk) ∧ w'.cell? ⟨pb, po + k * 6, none⟩ = some (.int .i64 ps.Op) ∧ w'.cell? ⟨pb, po + k * 6 + 1, none⟩ = some (.int .i64 ps.To) ∧ w'.cell? ⟨pb, po + k * 6 + 2, none⟩ = some (.int .i64 ps.A) ∧ w'.cell? ⟨pb, po + k * 6 + 3, none⟩ = some (.int .i64 ps.B) ∧ w'.cell? ⟨pb, po + k * 6 + 4, none⟩ = some (.int .i64 ps.K) ∧ w'.cell? ⟨pb, po + k * 6 + 5, none⟩ = some (.slice LA m dd))
        (first | exact hs9 | exact HKS.out.later _ hB2 | exact HKS.out.later _ (Below.refl _ _).drew)
        (first
          | (go_simp; go_at_call 29; refine ((unhide HMD) _ A j dj (HLR.out.keep (Below.refl _ _).drew) (HRI.out.keep (Below.refl _ _).drew) HLL.out).mono ?_; rintro e w2 ⟨W1, H1, P1, A1, n1, cc1, hr, hn1, rfl, hI1, hA1, hE2⟩; have hB2 : Below wr.heap.size wr w2 := (Below.refl _ _).drew.trans hE2)
          | (refine step_copyB rfl _ _ _ _ rfl 3 Tryz.underlying25 HJ0.out g o (l.length - o) (d - o) n1 cc1 A1 rfl rfl _ 3 (HWR.out.keep hB2).ar (P1.map (Value.int .i64)) (by have h := HST.out.2.1; rw [← hr] at h; simp only at h; rw [List.length_map, hn1]; simp only [Nat.min_def]; split <;> omega) (by have h := HST.out.2.2.1; rw [← hr] at h; simpa using h) hI1 (by have h := HST.out.2.1; rw [← hr] at h; simp only [List.length_append, List.length_map] at h ⊢; omega) (ints_one _) ?_; intro w9 HB9 hg9; have hs9 := (unhide HH) _ _ hB2 hg9))
      go_wp2_with fail
      go_end0
      refine ⟨rfl, grown_trB (grown_ofB (HB.out.trans (hB2.mono HB.out.size)) _) hg9, ?_⟩
      have h1 := splice_put l di.P ex o HST.out.2.1
      rw [HST.out.1]
      show Blk w9 g _ _
      rw [← h1, ← hr]
      exact HB9.out
end Go.Proofs.YtibpmogmeoappabGreat

/- Walks: exec.Step, exec.Run. -/
namespace Go.Proofs.YtibpmogmeoappabGreat
open Go.RowKit

/-- numbers and an error's number -/
def RetIntsE (w : World) (L : List Int) (z : Int) (e : Ending) (w' : World) : Prop :=
  ∃ (A : Option Addr) (n c : Nat), e = .returned (.tuple #[.slice A n c, .int .i64 z]) ∧ L.length = n ∧ Ints w' A L ∧ Below w.heap.size w w'
theorem stepAns_no {f : Frm} {p : Pln} {l : List Int} {m : Int} (h : stepErr f p l m ≠ 0) : stepAns f p l m = [] := if_neg h

set_option maxRecDepth 100000 in
set_option maxHeartbeats 8000000 in
theorem execStep_any (W H S O : Int) (PA : Option Addr) (n c : Nat) (ps : List Pas) (OA : Option Addr) (on oc : Nat) (QA : Option Addr) (qn qc : Nat) (p : Pln) (GA : Option Addr) (gn gc : Nat) (l : List Int) (m : Int) (w : World) (hn : ps.length = n) (hP : Passes w PA ps)
    (hO : Ints w OA p.Order) (hon : p.Order.length = on) (hol : on ≤ 9223372036854775807) (hoc : on ≤ oc) (hQ : Ints w QA p.Places) (hqn : p.Places.length = qn) (hql : qn ≤ 9223372036854775807) (hG : Ints w GA l) (hgn : l.length = gn) (hgl : gn ≤ 9223372036854775807) :
    Calls Tryz.prog 21 #[.agg #[.int .i64 W, .int .i64 H, .int .i64 S, .int .i64 O, .slice PA n c], .agg #[.slice OA on oc, .slice QA qn qc], .slice GA gn gc, .int .i64 m] w (RetIntsE w (stepAns ⟨W, H, S, O, ps⟩ p l m) (stepErr ⟨W, H, S, O, ps⟩ p l m)) := by
  have hb := ((Below.refl w.heap.size w).alloc (Nat.le_refl _) (.cells #[.int .i64 W, .int .i64 H, .int .i64 S, .int .i64 O, .slice PA n c] 24)).alloc (by simp) (.cells #[.slice OA on oc, .slice QA qn qc] 27)
  have hbx := (show FrmBox (w.alloc (.cells #[.int .i64 W, .int .i64 H, .int .i64 S, .int .i64 O, .slice PA n c] 24)) w.heap.size W H S O PA n c from Blk.new w 24 (frmCells W H S O PA n c)).alloc (.cells #[.slice OA on oc, .slice QA qn qc] 27)
  have hpx : Blk ((w.alloc (.cells #[.int .i64 W, .int .i64 H, .int .i64 S, .int .i64 O, .slice PA n c] 24)).alloc (.cells #[.slice OA on oc, .slice QA qn qc] 27)) (w.heap.size + 1) 27 [.slice OA on oc, .slice QA qn qc] := Blk.newE (by simp)
  have hio := hO.keep hb
  have hiq := hQ.keep hb
  have hpp := hP.keep hb
  have hbg := execBegin_any W H S O PA n c ps OA on oc QA qn qc p GA gn gc l _ hn (hP.keep hb) (hO.keep hb) hon hol hoc (hQ.keep hb) hqn hql (hG.keep hb) hgn hgl
  obtain ⟨f, hf⟩ : ∃ f : Frm, f = ⟨W, H, S, O, ps⟩ := ⟨_, rfl⟩
  have hfp : f.P = ps := by rw [hf]
  have hfn : f.P.length = n := by rw [hfp]; exact hn
  rw [← hf] at hbg ⊢
  rw [← hfp] at hpp
  obtain ⟨w1, hw1⟩ : ∃ w1, ((w.alloc (.cells #[.int .i64 W, .int .i64 H, .int .i64 S, .int .i64 O, .slice PA n c] 24)).alloc (.cells #[.slice OA on oc, .slice QA qn qc] 27)) = w1 := ⟨_, rfl⟩
  rw [hw1] at hb hbx hpx hio hiq hpp hbg
  have HB := hide hb
  have HPX := hide (Keeps.blk hpx)
  have HIO := hide (Keeps.ints hio)
  have HIQ := hide (Keeps.ints hiq)
  have HP := hide (Keeps.passes hpp)
  have HBG := hide hbg
  have HON := hide hon
  have HQN := hide hqn
  have HFN := hide hfn
  obtain ⟨x, q0, q1, q2, q3, q4⟩ := FrmBox.cells (show FrmBox _ _ W H S O PA n c from hbx)
  obtain ⟨y, r0, r1⟩ := plan_box hpx
  have hs1 := hb.size
  clear hn hP hO hQ hG hbx hpx hb hio hiq hpp hbg hf hfp hfn hon hqn hgn
  go_enter Tryz.func21, Tryz.ntmps21
  go_wp2_with fail
  refine (unhide HBG).mono ?_
  rintro e w2 ⟨hE2, ⟨hne, rfl⟩ | ⟨hok, b, g, B0, d, SA, sc, RA, rc, ex, hbb, hgb, rfl, hW⟩⟩
  · obtain ⟨z, hz⟩ : ∃ z, execErr f p l = z := ⟨_, rfl⟩
    have hz2 : (z != 0) = true := by rw [← hz]; simpa using hne
    have hst : stepErr f p l m = z := by unfold stepErr; rw [if_pos hne, hz]
    have HR := hide hst
    have HA := hide (stepAns_no (f := f) (p := p) (l := l) (m := m) (by rw [hst, ← hz]; exact hne))
    have HB2 := hide (HB.out.trans (hE2.mono HB.out.size))
    rw [hz]
    clear hE2 hne hz hw1 hst HBG x q0 q1 q2 q3 q4 y r0 r1
    go_wp2_with fail
    go_ret2
    rw [HA.out, HR.out]
    exact ⟨none, 0, 0, rfl, rfl, Ints.nil _ _, HB2.out⟩
  · have hz0 := execErr_zero.2 hok
    have HOK := hide hok
    have HZ := hide hz0
    have HW := hide hW
    have HE2 := hide hE2
    have HGB := hide hgb
    have HB2 := hide (HB.out.trans (hE2.mono HB.out.size))
    obtain ⟨y', r0', r1'⟩ := plan_box (HPX.out.later _ hE2)
    clear hok hz0 hW hE2 hgb hw1 HBG x q0 q1 q2 q3 q4 y r0 r1
    by_cases h1 : m < 0
    · have hst : stepErr f p l m = 3 := by unfold stepErr; rw [if_neg (fun e => e HZ.out), if_pos (Or.inl h1)]
      have HR := hide hst
      have HA := hide (stepAns_no (f := f) (p := p) (l := l) (m := m) (by rw [hst]; decide))
      clear hst
      go_wp2_with fail
      all_goals try (exfalso; omega)
      go_ret2
      rw [HA.out, HR.out]
      exact ⟨none, 0, 0, rfl, rfl, Ints.nil _ _, HB2.out⟩
    · by_cases h2 : (on : Int) ≤ m
      · have hst : stepErr f p l m = 3 := by unfold stepErr; rw [if_neg (fun e => e HZ.out), if_pos (Or.inr (by rw [HON.out]; exact h2))]
        have HR := hide hst
        have HA := hide (stepAns_no (f := f) (p := p) (l := l) (m := m) (by rw [hst]; decide))
        clear hst
        go_wp2_with fail
        all_goals try (exfalso; omega)
        go_ret2
        rw [HA.out, HR.out]
        exact ⟨none, 0, 0, rfl, rfl, Ints.nil _ _, HB2.out⟩
      · obtain ⟨i, hi⟩ : ∃ i : Nat, m = (i : Int) := ⟨m.toNat, by omega⟩
        subst hi
        have hil : i < p.Order.length := by rw [HON.out]; omega
        have hst : stepErr f p l (i : Int) = 0 := by unfold stepErr; rw [if_neg (fun e => e HZ.out), if_neg (by rw [HON.out]; omega)]
        obtain ⟨⟨o0, o1⟩, o2⟩ := HOK.out.ordAt hil
        obtain ⟨k, hk⟩ : ∃ k : Nat, p.ord i = (k : Int) := ⟨(p.ord i).toNat, by omega⟩
        have hans : stepAns f p l (i : Int) = stepAr f p l k := by unfold stepAns; rw [if_pos hst, Int.toNat_natCast, hk, Int.toNat_natCast]
        rw [hk, Int.toNat_natCast] at o2
        have hkn : k < n := by have := HFN.out; omega
        have hlen := stepAr_len HOK.out (k := k) (by rw [HFN.out]; exact hkn) o2
        have HPS := hide (workPass_any HE2.out HGB.out HW.out HOK.out HFN.out HP.out.now HIQ.out.now HQN.out k hkn o2)
        obtain ⟨ob, oo, rfl, hob, co⟩ := (HIO.out.later _ HE2.out) i (by rw [List.length_map]; exact hil)
        have ev : (p.Order.map (Value.int .i64)).getD i undef = .int .i64 (k : Int) := by
          rw [← hk, List.getD_eq_getElem?_getD, List.getElem?_map, p.ord_at hil]
          rfl
        rw [ev] at co
        have hi1 : (i : Int) < (on : Int) := by omega
        have HR := hide hst
        have HA := hide hans
        have HL := hide hlen
        clear hst hans hlen ev hk o0 o1 o2 hil
        go_wp2_with fail
        all_goals try (exfalso; omega)
        refine (unhide HPS).mono ?_
        rintro e w3 ⟨rfl, hg3, hA3⟩
        have hW3 := HW.out.next hg3 hA3 HL.out
        obtain ⟨bl, v0, v1, v2, v3, v4, v5, v6, v7, v8, v9⟩ := work_at hW3.box
        have HB3 := hide (HB.out.trans ((below_of_grown (grown_trB (grown_ofB HE2.out _) hg3) (Nat.le_refl _) HGB.out).mono HB.out.size))
        have HA3 := hide hA3.ints
        clear hg3 hA3 hW3 HPS co r0' r1' v0 v1 v2 v3 v4 v5 v6 v8 v9
        go_wp2_with fail
        go_ret2
        rw [HA.out, HR.out]
        exact ⟨_, _, _, rfl, rfl, HA3.out, HB3.out⟩

set_option maxRecDepth 100000 in
set_option maxHeartbeats 8000000 in
theorem execRun_any (W H S O : Int) (PA : Option Addr) (n c : Nat) (ps : List Pas) (OA : Option Addr) (on oc : Nat) (QA : Option Addr) (qn qc : Nat) (p : Pln) (GA : Option Addr) (gn gc : Nat) (l : List Int) (w : World) (hn : ps.length = n) (hP : Passes w PA ps)
    (hO : Ints w OA p.Order) (hon : p.Order.length = on) (hol : on ≤ 9223372036854775807) (hoc : on ≤ oc) (hQ : Ints w QA p.Places) (hqn : p.Places.length = qn) (hql : qn ≤ 9223372036854775807) (hG : Ints w GA l) (hgn : l.length = gn) (hgl : gn ≤ 9223372036854775807) :
    Calls Tryz.prog 4 #[.agg #[.int .i64 W, .int .i64 H, .int .i64 S, .int .i64 O, .slice PA n c], .agg #[.slice OA on oc, .slice QA qn qc], .slice GA gn gc] w (RetImgErr w (runAns ⟨W, H, S, O, ps⟩ p l) (execErr ⟨W, H, S, O, ps⟩ p l)) := by
  have hb := (((Below.refl w.heap.size w).alloc (Nat.le_refl _) (.cells #[.int .i64 W, .int .i64 H, .int .i64 S, .int .i64 O, .slice PA n c] 24)).alloc (by simp) (.cells #[.slice OA on oc, .slice QA qn qc] 27)).alloc (by simp only [World.size_alloc]; omega) (.cells #[.int .i64 0, .int .i64 0, .slice none 0 0] 29)
  have hbx := ((show FrmBox (w.alloc (.cells #[.int .i64 W, .int .i64 H, .int .i64 S, .int .i64 O, .slice PA n c] 24)) w.heap.size W H S O PA n c from Blk.new w 24 (frmCells W H S O PA n c)).alloc (.cells #[.slice OA on oc, .slice QA qn qc] 27)).alloc (.cells #[.int .i64 0, .int .i64 0, .slice none 0 0] 29)
  have hpx : Blk (((w.alloc (.cells #[.int .i64 W, .int .i64 H, .int .i64 S, .int .i64 O, .slice PA n c] 24)).alloc (.cells #[.slice OA on oc, .slice QA qn qc] 27)).alloc (.cells #[.int .i64 0, .int .i64 0, .slice none 0 0] 29)) (w.heap.size + 1) 27 [.slice OA on oc, .slice QA qn qc] := (show Blk ((w.alloc (.cells #[.int .i64 W, .int .i64 H, .int .i64 S, .int .i64 O, .slice PA n c] 24)).alloc (.cells #[.slice OA on oc, .slice QA qn qc] 27)) (w.heap.size + 1) 27 [.slice OA on oc, .slice QA qn qc] from Blk.newE (by simp)).alloc _
  have hrx : Blk (((w.alloc (.cells #[.int .i64 W, .int .i64 H, .int .i64 S, .int .i64 O, .slice PA n c] 24)).alloc (.cells #[.slice OA on oc, .slice QA qn qc] 27)).alloc (.cells #[.int .i64 0, .int .i64 0, .slice none 0 0] 29)) (w.heap.size + 2) 29 [.int .i64 0, .int .i64 0, .slice none 0 0] := Blk.newE (by simp)
  have hio := hO.keep hb
  have hiq := hQ.keep hb
  have hpp := hP.keep hb
  have hbg := execBegin_any W H S O PA n c ps OA on oc QA qn qc p GA gn gc l _ hn (hP.keep hb) (hO.keep hb) hon hol hoc (hQ.keep hb) hqn hql (hG.keep hb) hgn hgl
  have hla := fun (W0 : World) (h1 : Passes W0 PA ps) => last_any W H S O PA n c ps W0 hn h1
  obtain ⟨f, hf⟩ : ∃ f : Frm, f = ⟨W, H, S, O, ps⟩ := ⟨_, rfl⟩
  have hfp : f.P = ps := by rw [hf]
  have hfn : f.P.length = n := by rw [hfp]; exact hn
  rw [← hf] at hbg hla ⊢
  rw [← hfp] at hpp hla
  obtain ⟨w1, hw1⟩ : ∃ w1, ((w.alloc (.cells #[.int .i64 W, .int .i64 H, .int .i64 S, .int .i64 O, .slice PA n c] 24)).alloc (.cells #[.slice OA on oc, .slice QA qn qc] 27)).alloc (.cells #[.int .i64 0, .int .i64 0, .slice none 0 0] 29) = w1 := ⟨_, rfl⟩
  rw [hw1] at hb hbx hpx hrx hio hiq hpp hbg
  have HB := hide hb
  have HBX := hide (Keeps.blk hbx)
  have HPX := hide (Keeps.blk hpx)
  have HRX := hide hrx
  have HIO := hide (Keeps.ints hio)
  have HIQ := hide (Keeps.ints hiq)
  have HP := hide (Keeps.passes hpp)
  have HBG := hide hbg
  have HLA := hide hla
  have HON := hide hon
  have HQN := hide hqn
  have HFN := hide hfn
  obtain ⟨x, q0, q1, q2, q3, q4⟩ := FrmBox.cells (show FrmBox _ _ W H S O PA n c from hbx)
  obtain ⟨y, r0, r1⟩ := plan_box hpx
  have hs1 : w.heap.size + 3 ≤ w1.heap.size := by have := hrx.lt; omega
  clear hn hP hO hQ hG hbx hpx hrx hb hio hiq hpp hbg hla hf hfp hfn hon hqn hgn
  go_enter Tryz.func4, Tryz.ntmps4
  go_wp2_with fail
  refine (unhide HBG).mono ?_
  rintro e w2 ⟨hE2, ⟨hne, rfl⟩ | ⟨hok, b, g, B0, d, SA, sc, RA, rc, ex, hbb, hgb, rfl, hW⟩⟩
  · obtain ⟨z, hz⟩ : ∃ z, execErr f p l = z := ⟨_, rfl⟩
    have hz2 : (z != 0) = true := by rw [← hz]; simpa using hne
    have HA := hide (show runAns f p l = Img.none from if_neg hne)
    have HZZ := hide hz
    have HB2 := hide (HB.out.trans (hE2.mono HB.out.size))
    obtain ⟨t0, t1, t2, t3, t4, t5, t6⟩ := resKeep hE2 HRX.out
    rw [hz]
    clear hE2 hne hz hw1 HBG x q0 q1 q2 q3 q4 y r0 r1
    go_wp2_with fail
    refine bodyPost_ret (v := .tuple #[.agg #[.int .i64 0, .int .i64 0, .slice none 0 0], .int .i64 z]) ?_ rfl ?_
    · simp [results, Tryz.results4, go_sem, t1, t2, t3]
    · rw [HA.out, HZZ.out]
      exact ⟨0, 0, [], none, 0, 0, rfl, rfl, rfl, Ints.nil _ _, Mine.none_ _ _, ((HB2.out.setCell (p := ⟨w.heap.size + 2, 0, none⟩) (by simp) _).setCell (p := ⟨w.heap.size + 2, 1, none⟩) (by simp) _).setCell (p := ⟨w.heap.size + 2, 2, none⟩) (by simp) _⟩
  · have hz0 := execErr_zero.2 hok
    have hans : runAns f p l = runImg f p l := if_pos hz0
    have HOK := hide hok
    have HANS := hide hans
    have HZ := hide hz0
    have HW := hide hW
    have HE2 := hide hE2
    have HGB := hide hgb
    have hbn : b ≠ w.heap.size + 2 := by omega
    obtain ⟨y', r0', r1'⟩ := plan_box (HPX.out.later _ hE2)
    clear hok hz0 hans hW hE2 hgb hw1 HBG x q0 q1 q2 q3 q4 y r0 r1
    go_wp2_with fail
    go_loopw [11, 28] (fun _ s wr => ∃ i : Nat, i ≤ on ∧ s = .int .i64 i ∧ Hid (WorkAt wr b g B0 f PA n c OA on oc QA qn qc d SA sc RA rc (runTo f p l i) ex) ∧ Hid (w2.grownBy wr (some g))) (fun _ s _ => on - (intOf s).toNat)
    case atStart => exact ⟨0, Nat.zero_le _, rfl, HW, hide (grown_rfl _ _)⟩
    case round =>
      obtain ⟨i, hi, rfl, HWR, HGR⟩ := hrel
      have HBR := hide (below_of_grown (grown_trB (grown_ofB HE2.out _) HGR.out) (Nat.le_refl _) HGB.out)
      clear r0' r1'
      by_cases hlt : i < on
      · have hil : i < p.Order.length := by rw [HON.out]; exact hlt
        have hRO := (runTo_ok HOK.out (i := i) (by omega)).1
        obtain ⟨⟨o0, o1⟩, o2⟩ := hRO.ordAt hil
        obtain ⟨k, hk⟩ : ∃ k : Nat, p.ord i = (k : Int) := ⟨(p.ord i).toNat, by omega⟩
        have hnext : runTo f p l (i + 1) = stepAr f p (runTo f p l i) k := by simp only [runTo]; rw [hk, Int.toNat_natCast]
        rw [hk, Int.toNat_natCast] at o2
        have hkn : k < n := by have := HFN.out; omega
        have hlen := stepAr_len hRO (k := k) (by rw [HFN.out]; exact hkn) o2
        have HPS := hide (workPass_any HBR.out HGB.out HWR.out hRO HFN.out HP.out.now HIQ.out.now HQN.out k hkn o2)
        obtain ⟨ob, oo, rfl, hob, co⟩ := (HIO.out.later _ HBR.out) i (by rw [List.length_map]; exact hil)
        have ev : (p.Order.map (Value.int .i64)).getD i undef = .int .i64 (k : Int) := by
          rw [← hk, List.getD_eq_getElem?_getD, List.getElem?_map, p.ord_at hil]
          rfl
        rw [ev] at co
        have hi0 : (0 : Int) ≤ (i : Int) := by omega
        have hi1 : (i : Int) < (on : Int) := by omega
        have HNX := hide hnext
        have HL := hide hlen
        clear hnext hlen ev hk o0 o1 o2 hil hRO
        go_wp2_with fail
        refine (unhide HPS).mono ?_
        rintro e w3 ⟨rfl, hg3, hA3⟩
        have HW3 := hide (HWR.out.next hg3 hA3 HL.out)
        have HG3 := hide (grown_trB HGR.out hg3)
        clear hg3 hA3 HPS co
        go_wp2_with fail
        go_roundw
        case rel => exact ⟨i + 1, by omega, by go_num, hide (by rw [HNX.out]; exact HW3.out), HG3⟩
        case measure => simp [intOf]; omega
      · obtain rfl : i = on := by omega
        have hRO := (runTo_ok HOK.out (i := i) (by rw [HON.out]; exact Nat.le_refl _)).1
        obtain ⟨⟨l0, l1⟩, l2⟩ := hRO.last
        obtain ⟨k, hk⟩ : ∃ k : Nat, frLast f = (k : Int) := ⟨(frLast f).toNat, by omega⟩
        have hrun : runImg f p l = lieAt (runTo f p l i) f p k := by unfold runImg; rw [HON.out, hk, Int.toNat_natCast]
        rw [hk, Int.toNat_natCast] at l2
        have hkn : k < n := by have := HFN.out; omega
        have hfe := frErr_zero.2 HOK.out.frm
        have hla := (unhide HLA) wr (HP.out.later _ HBR.out)
        rw [show lastAns f = frLast f from if_pos hfe, hfe, hk] at hla
        have HLC := hide hla
        obtain ⟨x, q0, q1, q2, q3, q4⟩ := FrmBox.cells (show FrmBox _ _ W H S O PA n c from HBX.out.later _ HBR.out)
        have HRO := hide hRO
        have HL2 := hide l2
        have HRUN := hide hrun
        clear hla l0 l1 l2 hk hrun hfe hRO
        go_wp2_with fail
        refine (unhide HLC).mono ?_
        rintro e w4 ⟨rfl, hE4⟩
        have HB4 := hide (HBR.out.trans (hE4.mono HBR.out.size))
        have HIM := hide (workImage_any (HWR.out.keep hE4) HRO.out HFN.out (HIQ.out.later _ HB4.out) HQN.out k hkn HL2.out)
        rw [← HRUN.out] at HIM
        clear hE4 HLC x q0 q1 q2 q3 q4
        go_wp2_with fail
        refine (unhide HIM).mono ?_
        rintro e w5 ⟨U1, H1, P1, A1, n1, c1, hr, hn1, rfl, hI1, hA1, hE5⟩
        obtain ⟨t0, t1, t2, t3, t4, t5, t6⟩ := resKeep (HB4.out.trans (hE5.mono HB4.out.size)) HRX.out
        have HI1 := hide hI1
        have HA1 := hide hA1
        have HB5 := hide (HB.out.trans ((HB4.out.trans (hE5.mono HB4.out.size)).mono HB.out.size))
        have hlt4 : w.heap.size + 2 < w4.heap.size := by have := HB4.out.size; omega
        clear hI1 hA1 hE5 HIM
        go_wp2_with fail
        refine bodyPost_ret (v := .tuple #[.agg #[.int .i64 U1, .int .i64 H1, .slice A1 n1 c1], .int .i64 0]) ?_ rfl ?_
        · simp [results, Tryz.results4, go_sem, t1, t2, t3]
        · rw [HANS.out, HZ.out]
          exact ⟨U1, H1, P1, A1, n1, c1, hr, hn1, rfl, ((HI1.out.far HA1.out.new (p := ⟨w.heap.size + 2, 0, none⟩) hlt4 _).far HA1.out.new (p := ⟨w.heap.size + 2, 1, none⟩) hlt4 _).far HA1.out.new (p := ⟨w.heap.size + 2, 2, none⟩) hlt4 _,
            (((HA1.out.far (p := ⟨w.heap.size + 2, 0, none⟩) hlt4 _).far (p := ⟨w.heap.size + 2, 1, none⟩) hlt4 _).far (p := ⟨w.heap.size + 2, 2, none⟩) hlt4 _).mono (by omega), ((HB5.out.setCell (p := ⟨w.heap.size + 2, 0, none⟩) (by simp) _).setCell (p := ⟨w.heap.size + 2, 1, none⟩) (by simp) _).setCell (p := ⟨w.heap.size + 2, 2, none⟩) (by simp) _⟩
end Go.Proofs.YtibpmogmeoappabGreat
