/- Walks: fields, the class 'fill'. (Printed by gen_fields.py.) -/
import Derived.Test.YtibpmogmeoappabGreatJFrmC
set_option maxRecDepth 100000
set_option maxHeartbeats 8000000
namespace Go.Proofs.YtibpmogmeoappabGreat
open Go.RowKit
theorem fields_fill (g : Nat) (W H S O : Int) (PA : Option Addr) (n c : Nat) (SA : Option Addr) (N cN : Nat) (MA : Option Addr) (M cM : Nat) (p : Pas) (LA : Option Addr) (m d : Nat) (w : World)
 (_hS : 1 ≤ S ∧ S ≤ 8) (hG : WalkBox w g W H S O PA n c SA N cN MA M cM) (hm : p.L.length = m) (hL : Lamps w LA p.L) (_hl : m ≤ 9223372036854775807) (h0 : inR p.Op 1 13 = true) (ha : hasA p.Op = false) (hb : hasB p.Op = false) (hk : hasK p.Op = true) (hl' : hasL p.Op = false) :
 Calls Tryz.prog 91 #[.pointer (some ⟨g,0,none⟩),.agg #[.int .i64 p.Op,.int .i64 p.To,.int .i64 p.A,.int .i64 p.B,.int .i64 p.K,.slice LA m d]] w (RetE w (fieldsErr S p)):=by
 have HOF:=hide (fun (W0 : World)=>of_any p.Op W0);have HBN:=hide (fun (W0 : World)=>bounds_any p.Op W0);have HK:=hide (fieldMem_start (p:=p) hG hL m d);have HKL:=hide (@kFine_low p.Op p.K h0);have HKH:=hide (@kFine_high p.Op p.K h0);have HKI:=hide (@kFine_in p.Op p.K h0);have HKN:=hide (@kFine_none p.Op p.K h0);obtain ⟨op,to,a,b,k,L⟩:=p;simp only at *;unfold RetOf at HOF;rw [h0,ha,hb,hk,hl'] at HOF;simp only [Bool.true_and] at HOF;unfold RetB2 at HBN;generalize lowK op = lo at *;generalize highK op = hi at *;have H0:=hide h0;have HA:=hide ha;have HB:=hide hb;have HKK:=hide hk;have HLL:=hide hl';have HM:=hide hm;clear hL hG ha hb hk hl' hm h0;go_enter Tryz.func91,Tryz.ntmps91
 go_wp2_with fail;obtain ⟨y0,y1,y2,y3,y4,y5,y6⟩:=PasBox.cells HK.out.2.2.1;simp only at y1 y2 y3 y4 y5 y6;refine ((unhide HOF) _).mono ?_;rintro e w1 ⟨rfl,hE⟩;have HK1:=hide (HK.out.keep hE);clear HK hE y0 y1 y2 y3 y4 y5 y6;have hal : Below w1.heap.size w1 (w1.alloc (.cells #[.bool false,.bool false,.bool true,.bool false] 94)):=(Below.refl _ _).alloc (Nat.le_refl _) _;have HS:=hide (Blk.new w1 94 [.bool false,.bool false,.bool true,.bool false]);have HK2:=hide (HK1.out.keep hal);clear HK1 hal;obtain ⟨y0,y1,y2,y3,y4,y5,y6⟩:=PasBox.cells HK2.out.2.2.1;simp only at y1 y2 y3 y4 y5 y6;have x0:=HK2.out.2.1.lt;have x1 : (w1.alloc (.cells #[.bool false,.bool false,.bool true,.bool false] 94)).cell? ⟨w.heap.size,0,none⟩ = some (.pointer (some ⟨g,0,none⟩)):=(HK2.out.2.1.cell 0).trans rfl;obtain ⟨v0,v1,v2,v3,v4,v5,v6,v7⟩:=WalkBox.cells HK2.out.1;have z0 : (w1.alloc (.cells #[.bool false,.bool false,.bool true,.bool false] 94)).cell? ⟨w1.heap.size,0,none⟩ = some (.bool false):=(HS.out.cell 0).trans rfl;have z1 : (w1.alloc (.cells #[.bool false,.bool false,.bool true,.bool false] 94)).cell? ⟨w1.heap.size,1,none⟩ = some (.bool false):=(HS.out.cell 1).trans rfl;have z2 : (w1.alloc (.cells #[.bool false,.bool false,.bool true,.bool false] 94)).cell? ⟨w1.heap.size,2,none⟩ = some (.bool true):=(HS.out.cell 2).trans rfl;have z3 : (w1.alloc (.cells #[.bool false,.bool false,.bool true,.bool false] 94)).cell? ⟨w1.heap.size,3,none⟩ = some (.bool false):=(HS.out.cell 3).trans rfl;have zl:=HS.out.lt;go_wp2_with fail;refine ((unhide HBN) _).mono ?_;rintro e w2 ⟨rfl,he⟩;rw [he] at y0 y1 y2 y3 y4 y5 y6 x0 x1 v0 v1 v2 v3 v4 v5 v6 v7 z0 z1 z2 z3 zl;have HK3 : Hid (FieldMem w g (walkCells W H S O PA n c SA N cN MA M cM) ⟨op,to,a,b,k,L⟩ LA m d w2):=hide (by rw [← he]; exact HK2.out);have HS3 : Hid (Blk w2 w1.heap.size 94 [.bool false,.bool false,.bool true,.bool false]):=hide (by rw [← he]; exact HS.out);clear he HK2 HS;go_wp2_with fail;refine (fslot_yes to S w.heap.size g w2 x1 v3).mono ?_;rintro e w9 ⟨rfl,he⟩;subst he
 cases hs0 : slotIn S to with
 | false =>
   have Hs0:=hide hs0;clear hs0;go_wp2_with fail;go_ret;exact ⟨ret_int (fe_range H0.out (by simp [rangeBad,Hs0.out])).symm,HK3.out.2.2.2.2⟩
 | true =>
   have Hs0:=hide hs0;clear hs0;go_wp2_with fail;refine (fslot_no a w.heap.size w2).mono ?_;rintro e w9 ⟨rfl,he⟩;subst he;go_wp2_with fail;refine (fslot_no b w.heap.size w2).mono ?_;rintro e w9 ⟨rfl,he⟩;subst he;by_cases klo : k < lo
   ·have Hkf:=hide (HKL.out HKK.out klo)
    go_wp2_with fail;go_ret;exact ⟨ret_int (fe_range H0.out (by simp [rangeBad,Hkf.out])).symm,HK3.out.2.2.2.2⟩
   by_cases khi : hi < k
   ·have Hkf:=hide (HKH.out HKK.out khi)
    go_wp2_with fail;go_ret;exact ⟨ret_int (fe_range H0.out (by simp [rangeBad,Hkf.out])).symm,HK3.out.2.2.2.2⟩
   have Hkf:=hide (HKI.out HKK.out (by omega) (by omega));have HRB : Hid (rangeBad S ⟨op,to,a,b,k,L⟩ = false):=hide (by simp [rangeBad,Hs0.out,HA.out,HB.out,Hkf.out]);go_wp2_with fail;all_goals try (exfalso; omega)
   refine (fnone_not a _).mono ?_;rintro e w9 ⟨rfl,he⟩;subst he;by_cases fa : a = 0
   ·skip
    have Gfa:=hide fa;subst fa;go_wp2_with fail;refine (fnone_not b _).mono ?_;rintro e w9 ⟨rfl,he⟩;subst he;by_cases fb : b = 0
    ·skip
     have Gfb:=hide fb;subst fb;go_wp2_with fail;refine (fnone_has k _).mono ?_;rintro e w9 ⟨rfl,he⟩;subst he;go_wp2_with fail;refine (fnone_not (m : Int) _).mono ?_;rintro e w9 ⟨rfl,he⟩;subst he;by_cases fl : m = 0
     ·skip
      have E1:=hide (show L.length = 0 from HM.out.trans fl);obtain rfl : m = 0:=fl;go_wp2_with fail;go_ret;exact ⟨ret_int (fe_ok H0.out HRB.out (fun h=>by rw [HLL.out] at h; cases h) (by simp [formBad,HA.out,HB.out,HKK.out,HLL.out,E1.out])).symm,HK3.out.2.2.2.2⟩
     ·have E2:=hide (show 0 < L.length from by have:=HM.out; omega)
      have bfl : ((m : Int) == 0) = false:=by simp; omega
      clear fl;rw [bfl];go_wp2_with fail;go_ret;exact ⟨ret_int (fe_form H0.out HRB.out (fun h=>by rw [HLL.out] at h; cases h) (by simp [formBad,HLL.out,E2.out])).symm,HK3.out.2.2.2.2⟩
    ·have Gfb:=hide fb
     have bfb : (b == 0) = false:=by simpa using fb
     clear fb;rw [bfb];go_wp2_with fail;go_ret;exact ⟨ret_int (fe_form H0.out HRB.out (fun h=>by rw [HLL.out] at h; cases h) (by simp [formBad,HB.out,Gfb.out])).symm,HK3.out.2.2.2.2⟩
   ·have Gfa:=hide fa
    have bfa : (a == 0) = false:=by simpa using fa
    clear fa;rw [bfa];go_wp2_with fail;go_ret;exact ⟨ret_int (fe_form H0.out HRB.out (fun h=>by rw [HLL.out] at h; cases h) (by simp [formBad,HA.out,Gfa.out])).symm,HK3.out.2.2.2.2⟩
end Go.Proofs.YtibpmogmeoappabGreat
namespace Go.Proofs.YtibpmogmeoappabGreat
open Go.RowKit
theorem fields_one (g : Nat) (W H S O : Int) (PA : Option Addr) (n c : Nat) (SA : Option Addr) (N cN : Nat) (MA : Option Addr) (M cM : Nat) (p : Pas) (LA : Option Addr) (m d : Nat) (w : World)
 (_hS : 1 ≤ S ∧ S ≤ 8) (hG : WalkBox w g W H S O PA n c SA N cN MA M cM) (hm : p.L.length = m) (hL : Lamps w LA p.L) (_hl : m ≤ 9223372036854775807) (h0 : inR p.Op 1 13 = true) (ha : hasA p.Op = true) (hb : hasB p.Op = false) (hk : hasK p.Op = false) (hl' : hasL p.Op = false) :
 Calls Tryz.prog 91 #[.pointer (some ⟨g,0,none⟩),.agg #[.int .i64 p.Op,.int .i64 p.To,.int .i64 p.A,.int .i64 p.B,.int .i64 p.K,.slice LA m d]] w (RetE w (fieldsErr S p)):=by
 have HOF:=hide (fun (W0 : World)=>of_any p.Op W0);have HBN:=hide (fun (W0 : World)=>bounds_any p.Op W0);have HK:=hide (fieldMem_start (p:=p) hG hL m d);have HKL:=hide (@kFine_low p.Op p.K h0);have HKH:=hide (@kFine_high p.Op p.K h0);have HKI:=hide (@kFine_in p.Op p.K h0);have HKN:=hide (@kFine_none p.Op p.K h0);obtain ⟨op,to,a,b,k,L⟩:=p;simp only at *;unfold RetOf at HOF;rw [h0,ha,hb,hk,hl'] at HOF;simp only [Bool.true_and] at HOF;unfold RetB2 at HBN;generalize lowK op = lo at *;generalize highK op = hi at *;have H0:=hide h0;have HA:=hide ha;have HB:=hide hb;have HKK:=hide hk;have HLL:=hide hl';have HM:=hide hm;clear hL hG ha hb hk hl' hm h0;go_enter Tryz.func91,Tryz.ntmps91
 go_wp2_with fail;obtain ⟨y0,y1,y2,y3,y4,y5,y6⟩:=PasBox.cells HK.out.2.2.1;simp only at y1 y2 y3 y4 y5 y6;refine ((unhide HOF) _).mono ?_;rintro e w1 ⟨rfl,hE⟩;have HK1:=hide (HK.out.keep hE);clear HK hE y0 y1 y2 y3 y4 y5 y6;have hal : Below w1.heap.size w1 (w1.alloc (.cells #[.bool true,.bool false,.bool false,.bool false] 94)):=(Below.refl _ _).alloc (Nat.le_refl _) _;have HS:=hide (Blk.new w1 94 [.bool true,.bool false,.bool false,.bool false]);have HK2:=hide (HK1.out.keep hal);clear HK1 hal;obtain ⟨y0,y1,y2,y3,y4,y5,y6⟩:=PasBox.cells HK2.out.2.2.1;simp only at y1 y2 y3 y4 y5 y6;have x0:=HK2.out.2.1.lt;have x1 : (w1.alloc (.cells #[.bool true,.bool false,.bool false,.bool false] 94)).cell? ⟨w.heap.size,0,none⟩ = some (.pointer (some ⟨g,0,none⟩)):=(HK2.out.2.1.cell 0).trans rfl;obtain ⟨v0,v1,v2,v3,v4,v5,v6,v7⟩:=WalkBox.cells HK2.out.1;have z0 : (w1.alloc (.cells #[.bool true,.bool false,.bool false,.bool false] 94)).cell? ⟨w1.heap.size,0,none⟩ = some (.bool true):=(HS.out.cell 0).trans rfl;have z1 : (w1.alloc (.cells #[.bool true,.bool false,.bool false,.bool false] 94)).cell? ⟨w1.heap.size,1,none⟩ = some (.bool false):=(HS.out.cell 1).trans rfl;have z2 : (w1.alloc (.cells #[.bool true,.bool false,.bool false,.bool false] 94)).cell? ⟨w1.heap.size,2,none⟩ = some (.bool false):=(HS.out.cell 2).trans rfl;have z3 : (w1.alloc (.cells #[.bool true,.bool false,.bool false,.bool false] 94)).cell? ⟨w1.heap.size,3,none⟩ = some (.bool false):=(HS.out.cell 3).trans rfl;have zl:=HS.out.lt;go_wp2_with fail;refine ((unhide HBN) _).mono ?_;rintro e w2 ⟨rfl,he⟩;rw [he] at y0 y1 y2 y3 y4 y5 y6 x0 x1 v0 v1 v2 v3 v4 v5 v6 v7 z0 z1 z2 z3 zl;have HK3 : Hid (FieldMem w g (walkCells W H S O PA n c SA N cN MA M cM) ⟨op,to,a,b,k,L⟩ LA m d w2):=hide (by rw [← he]; exact HK2.out);have HS3 : Hid (Blk w2 w1.heap.size 94 [.bool true,.bool false,.bool false,.bool false]):=hide (by rw [← he]; exact HS.out);clear he HK2 HS;go_wp2_with fail;refine (fslot_yes to S w.heap.size g w2 x1 v3).mono ?_;rintro e w9 ⟨rfl,he⟩;subst he
 cases hs0 : slotIn S to with
 | false =>
   have Hs0:=hide hs0;clear hs0;go_wp2_with fail;go_ret;exact ⟨ret_int (fe_range H0.out (by simp [rangeBad,Hs0.out])).symm,HK3.out.2.2.2.2⟩
 | true =>
   have Hs0:=hide hs0;clear hs0;go_wp2_with fail;refine (fslot_yes a S w.heap.size g w2 x1 v3).mono ?_;rintro e w9 ⟨rfl,he⟩;subst he
   cases hs1 : slotIn S a with
   | false =>
     have Hs1:=hide hs1;clear hs1;go_wp2_with fail;go_ret;exact ⟨ret_int (fe_range H0.out (by simp [rangeBad,HA.out,Hs1.out])).symm,HK3.out.2.2.2.2⟩
   | true =>
     have Hs1:=hide hs1;clear hs1;go_wp2_with fail;refine (fslot_no b w.heap.size w2).mono ?_;rintro e w9 ⟨rfl,he⟩;subst he;have Hkf:=hide (HKN.out HKK.out);have HRB : Hid (rangeBad S ⟨op,to,a,b,k,L⟩ = false):=hide (by simp [rangeBad,Hs0.out,HA.out,Hs1.out,HB.out,Hkf.out]);go_wp2_with fail;all_goals try (exfalso; omega)
     refine (fnone_has a _).mono ?_;rintro e w9 ⟨rfl,he⟩;subst he;go_wp2_with fail;refine (fnone_not b _).mono ?_;rintro e w9 ⟨rfl,he⟩;subst he;by_cases fb : b = 0
     ·skip
      have Gfb:=hide fb;subst fb;go_wp2_with fail;refine (fnone_not k _).mono ?_;rintro e w9 ⟨rfl,he⟩;subst he;by_cases fk : k = 0
      ·skip
       have Gfk:=hide fk;subst fk;go_wp2_with fail;refine (fnone_not (m : Int) _).mono ?_;rintro e w9 ⟨rfl,he⟩;subst he;by_cases fl : m = 0
       ·skip
        have E1:=hide (show L.length = 0 from HM.out.trans fl);obtain rfl : m = 0:=fl;by_cases ft : ¬ a = to
        ·have Gft:=hide ft
         have bft : (a == to) = false:=by simpa using ft
         clear ft;go_wp2_with fail;go_ret;exact ⟨ret_int (fe_ok H0.out HRB.out (fun h=>by rw [HLL.out] at h; cases h) (by simp [formBad,HA.out,HB.out,HKK.out,HLL.out,E1.out,Gft.out])).symm,HK3.out.2.2.2.2⟩
        ·have eft : a = to:=Classical.byContradiction ft
         have Gft:=hide eft;have bft : (a == to) = true:=by simpa using eft
         clear eft ft;go_wp2_with fail;go_ret;exact ⟨ret_int (fe_form H0.out HRB.out (fun h=>by rw [HLL.out] at h; cases h) (by simp [formBad,HA.out,Gft.out])).symm,HK3.out.2.2.2.2⟩
       ·have E2:=hide (show 0 < L.length from by have:=HM.out; omega)
        have bfl : ((m : Int) == 0) = false:=by simp; omega
        clear fl;rw [bfl];go_wp2_with fail;go_ret;exact ⟨ret_int (fe_form H0.out HRB.out (fun h=>by rw [HLL.out] at h; cases h) (by simp [formBad,HLL.out,E2.out])).symm,HK3.out.2.2.2.2⟩
      ·have Gfk:=hide fk
       have bfk : (k == 0) = false:=by simpa using fk
       clear fk;rw [bfk];go_wp2_with fail;go_ret;exact ⟨ret_int (fe_form H0.out HRB.out (fun h=>by rw [HLL.out] at h; cases h) (by simp [formBad,HKK.out,Gfk.out])).symm,HK3.out.2.2.2.2⟩
     ·have Gfb:=hide fb
      have bfb : (b == 0) = false:=by simpa using fb
      clear fb;rw [bfb];go_wp2_with fail;go_ret;exact ⟨ret_int (fe_form H0.out HRB.out (fun h=>by rw [HLL.out] at h; cases h) (by simp [formBad,HB.out,Gfb.out])).symm,HK3.out.2.2.2.2⟩
end Go.Proofs.YtibpmogmeoappabGreat
namespace Go.Proofs.YtibpmogmeoappabGreat
open Go.RowKit
theorem fields_cut (g : Nat) (W H S O : Int) (PA : Option Addr) (n c : Nat) (SA : Option Addr) (N cN : Nat) (MA : Option Addr) (M cM : Nat) (p : Pas) (LA : Option Addr) (m d : Nat) (w : World)
 (_hS : 1 ≤ S ∧ S ≤ 8) (hG : WalkBox w g W H S O PA n c SA N cN MA M cM) (hm : p.L.length = m) (hL : Lamps w LA p.L) (_hl : m ≤ 9223372036854775807) (h0 : inR p.Op 1 13 = true) (ha : hasA p.Op = true) (hb : hasB p.Op = false) (hk : hasK p.Op = true) (hl' : hasL p.Op = false) :
 Calls Tryz.prog 91 #[.pointer (some ⟨g,0,none⟩),.agg #[.int .i64 p.Op,.int .i64 p.To,.int .i64 p.A,.int .i64 p.B,.int .i64 p.K,.slice LA m d]] w (RetE w (fieldsErr S p)):=by
 have HOF:=hide (fun (W0 : World)=>of_any p.Op W0);have HBN:=hide (fun (W0 : World)=>bounds_any p.Op W0);have HK:=hide (fieldMem_start (p:=p) hG hL m d);have HKL:=hide (@kFine_low p.Op p.K h0);have HKH:=hide (@kFine_high p.Op p.K h0);have HKI:=hide (@kFine_in p.Op p.K h0);have HKN:=hide (@kFine_none p.Op p.K h0);obtain ⟨op,to,a,b,k,L⟩:=p;simp only at *;unfold RetOf at HOF;rw [h0,ha,hb,hk,hl'] at HOF;simp only [Bool.true_and] at HOF;unfold RetB2 at HBN;generalize lowK op = lo at *;generalize highK op = hi at *;have H0:=hide h0;have HA:=hide ha;have HB:=hide hb;have HKK:=hide hk;have HLL:=hide hl';have HM:=hide hm;clear hL hG ha hb hk hl' hm h0;go_enter Tryz.func91,Tryz.ntmps91
 go_wp2_with fail;obtain ⟨y0,y1,y2,y3,y4,y5,y6⟩:=PasBox.cells HK.out.2.2.1;simp only at y1 y2 y3 y4 y5 y6;refine ((unhide HOF) _).mono ?_;rintro e w1 ⟨rfl,hE⟩;have HK1:=hide (HK.out.keep hE);clear HK hE y0 y1 y2 y3 y4 y5 y6;have hal : Below w1.heap.size w1 (w1.alloc (.cells #[.bool true,.bool false,.bool true,.bool false] 94)):=(Below.refl _ _).alloc (Nat.le_refl _) _;have HS:=hide (Blk.new w1 94 [.bool true,.bool false,.bool true,.bool false]);have HK2:=hide (HK1.out.keep hal);clear HK1 hal;obtain ⟨y0,y1,y2,y3,y4,y5,y6⟩:=PasBox.cells HK2.out.2.2.1;simp only at y1 y2 y3 y4 y5 y6;have x0:=HK2.out.2.1.lt;have x1 : (w1.alloc (.cells #[.bool true,.bool false,.bool true,.bool false] 94)).cell? ⟨w.heap.size,0,none⟩ = some (.pointer (some ⟨g,0,none⟩)):=(HK2.out.2.1.cell 0).trans rfl;obtain ⟨v0,v1,v2,v3,v4,v5,v6,v7⟩:=WalkBox.cells HK2.out.1;have z0 : (w1.alloc (.cells #[.bool true,.bool false,.bool true,.bool false] 94)).cell? ⟨w1.heap.size,0,none⟩ = some (.bool true):=(HS.out.cell 0).trans rfl;have z1 : (w1.alloc (.cells #[.bool true,.bool false,.bool true,.bool false] 94)).cell? ⟨w1.heap.size,1,none⟩ = some (.bool false):=(HS.out.cell 1).trans rfl;have z2 : (w1.alloc (.cells #[.bool true,.bool false,.bool true,.bool false] 94)).cell? ⟨w1.heap.size,2,none⟩ = some (.bool true):=(HS.out.cell 2).trans rfl;have z3 : (w1.alloc (.cells #[.bool true,.bool false,.bool true,.bool false] 94)).cell? ⟨w1.heap.size,3,none⟩ = some (.bool false):=(HS.out.cell 3).trans rfl;have zl:=HS.out.lt;go_wp2_with fail;refine ((unhide HBN) _).mono ?_;rintro e w2 ⟨rfl,he⟩;rw [he] at y0 y1 y2 y3 y4 y5 y6 x0 x1 v0 v1 v2 v3 v4 v5 v6 v7 z0 z1 z2 z3 zl;have HK3 : Hid (FieldMem w g (walkCells W H S O PA n c SA N cN MA M cM) ⟨op,to,a,b,k,L⟩ LA m d w2):=hide (by rw [← he]; exact HK2.out);have HS3 : Hid (Blk w2 w1.heap.size 94 [.bool true,.bool false,.bool true,.bool false]):=hide (by rw [← he]; exact HS.out);clear he HK2 HS;go_wp2_with fail;refine (fslot_yes to S w.heap.size g w2 x1 v3).mono ?_;rintro e w9 ⟨rfl,he⟩;subst he
 cases hs0 : slotIn S to with
 | false =>
   have Hs0:=hide hs0;clear hs0;go_wp2_with fail;go_ret;exact ⟨ret_int (fe_range H0.out (by simp [rangeBad,Hs0.out])).symm,HK3.out.2.2.2.2⟩
 | true =>
   have Hs0:=hide hs0;clear hs0;go_wp2_with fail;refine (fslot_yes a S w.heap.size g w2 x1 v3).mono ?_;rintro e w9 ⟨rfl,he⟩;subst he
   cases hs1 : slotIn S a with
   | false =>
     have Hs1:=hide hs1;clear hs1;go_wp2_with fail;go_ret;exact ⟨ret_int (fe_range H0.out (by simp [rangeBad,HA.out,Hs1.out])).symm,HK3.out.2.2.2.2⟩
   | true =>
     have Hs1:=hide hs1;clear hs1;go_wp2_with fail;refine (fslot_no b w.heap.size w2).mono ?_;rintro e w9 ⟨rfl,he⟩;subst he;by_cases klo : k < lo
     ·have Hkf:=hide (HKL.out HKK.out klo)
      go_wp2_with fail;go_ret;exact ⟨ret_int (fe_range H0.out (by simp [rangeBad,Hkf.out])).symm,HK3.out.2.2.2.2⟩
     by_cases khi : hi < k
     ·have Hkf:=hide (HKH.out HKK.out khi)
      go_wp2_with fail;go_ret;exact ⟨ret_int (fe_range H0.out (by simp [rangeBad,Hkf.out])).symm,HK3.out.2.2.2.2⟩
     have Hkf:=hide (HKI.out HKK.out (by omega) (by omega));have HRB : Hid (rangeBad S ⟨op,to,a,b,k,L⟩ = false):=hide (by simp [rangeBad,Hs0.out,HA.out,Hs1.out,HB.out,Hkf.out]);go_wp2_with fail;all_goals try (exfalso; omega)
     refine (fnone_has a _).mono ?_;rintro e w9 ⟨rfl,he⟩;subst he;go_wp2_with fail;refine (fnone_not b _).mono ?_;rintro e w9 ⟨rfl,he⟩;subst he;by_cases fb : b = 0
     ·skip
      have Gfb:=hide fb;subst fb;go_wp2_with fail;refine (fnone_has k _).mono ?_;rintro e w9 ⟨rfl,he⟩;subst he;go_wp2_with fail;refine (fnone_not (m : Int) _).mono ?_;rintro e w9 ⟨rfl,he⟩;subst he;by_cases fl : m = 0
      ·skip
       have E1:=hide (show L.length = 0 from HM.out.trans fl);obtain rfl : m = 0:=fl;by_cases ft : ¬ a = to
       ·have Gft:=hide ft
        have bft : (a == to) = false:=by simpa using ft
        clear ft;go_wp2_with fail;go_ret;exact ⟨ret_int (fe_ok H0.out HRB.out (fun h=>by rw [HLL.out] at h; cases h) (by simp [formBad,HA.out,HB.out,HKK.out,HLL.out,E1.out,Gft.out])).symm,HK3.out.2.2.2.2⟩
       ·have eft : a = to:=Classical.byContradiction ft
        have Gft:=hide eft;have bft : (a == to) = true:=by simpa using eft
        clear eft ft;go_wp2_with fail;go_ret;exact ⟨ret_int (fe_form H0.out HRB.out (fun h=>by rw [HLL.out] at h; cases h) (by simp [formBad,HA.out,Gft.out])).symm,HK3.out.2.2.2.2⟩
      ·have E2:=hide (show 0 < L.length from by have:=HM.out; omega)
       have bfl : ((m : Int) == 0) = false:=by simp; omega
       clear fl;rw [bfl];go_wp2_with fail;go_ret;exact ⟨ret_int (fe_form H0.out HRB.out (fun h=>by rw [HLL.out] at h; cases h) (by simp [formBad,HLL.out,E2.out])).symm,HK3.out.2.2.2.2⟩
     ·have Gfb:=hide fb
      have bfb : (b == 0) = false:=by simpa using fb
      clear fb;rw [bfb];go_wp2_with fail;go_ret;exact ⟨ret_int (fe_form H0.out HRB.out (fun h=>by rw [HLL.out] at h; cases h) (by simp [formBad,HB.out,Gfb.out])).symm,HK3.out.2.2.2.2⟩
end Go.Proofs.YtibpmogmeoappabGreat
namespace Go.Proofs.YtibpmogmeoappabGreat
open Go.RowKit
theorem fields_two (g : Nat) (W H S O : Int) (PA : Option Addr) (n c : Nat) (SA : Option Addr) (N cN : Nat) (MA : Option Addr) (M cM : Nat) (p : Pas) (LA : Option Addr) (m d : Nat) (w : World)
 (_hS : 1 ≤ S ∧ S ≤ 8) (hG : WalkBox w g W H S O PA n c SA N cN MA M cM) (hm : p.L.length = m) (hL : Lamps w LA p.L) (_hl : m ≤ 9223372036854775807) (h0 : inR p.Op 1 13 = true) (ha : hasA p.Op = true) (hb : hasB p.Op = true) (hk : hasK p.Op = false) (hl' : hasL p.Op = false) :
 Calls Tryz.prog 91 #[.pointer (some ⟨g,0,none⟩),.agg #[.int .i64 p.Op,.int .i64 p.To,.int .i64 p.A,.int .i64 p.B,.int .i64 p.K,.slice LA m d]] w (RetE w (fieldsErr S p)):=by
 have HOF:=hide (fun (W0 : World)=>of_any p.Op W0);have HBN:=hide (fun (W0 : World)=>bounds_any p.Op W0);have HK:=hide (fieldMem_start (p:=p) hG hL m d);have HKL:=hide (@kFine_low p.Op p.K h0);have HKH:=hide (@kFine_high p.Op p.K h0);have HKI:=hide (@kFine_in p.Op p.K h0);have HKN:=hide (@kFine_none p.Op p.K h0);obtain ⟨op,to,a,b,k,L⟩:=p;simp only at *;unfold RetOf at HOF;rw [h0,ha,hb,hk,hl'] at HOF;simp only [Bool.true_and] at HOF;unfold RetB2 at HBN;generalize lowK op = lo at *;generalize highK op = hi at *;have H0:=hide h0;have HA:=hide ha;have HB:=hide hb;have HKK:=hide hk;have HLL:=hide hl';have HM:=hide hm;clear hL hG ha hb hk hl' hm h0;go_enter Tryz.func91,Tryz.ntmps91
 go_wp2_with fail;obtain ⟨y0,y1,y2,y3,y4,y5,y6⟩:=PasBox.cells HK.out.2.2.1;simp only at y1 y2 y3 y4 y5 y6;refine ((unhide HOF) _).mono ?_;rintro e w1 ⟨rfl,hE⟩;have HK1:=hide (HK.out.keep hE);clear HK hE y0 y1 y2 y3 y4 y5 y6;have hal : Below w1.heap.size w1 (w1.alloc (.cells #[.bool true,.bool true,.bool false,.bool false] 94)):=(Below.refl _ _).alloc (Nat.le_refl _) _;have HS:=hide (Blk.new w1 94 [.bool true,.bool true,.bool false,.bool false]);have HK2:=hide (HK1.out.keep hal);clear HK1 hal;obtain ⟨y0,y1,y2,y3,y4,y5,y6⟩:=PasBox.cells HK2.out.2.2.1;simp only at y1 y2 y3 y4 y5 y6;have x0:=HK2.out.2.1.lt;have x1 : (w1.alloc (.cells #[.bool true,.bool true,.bool false,.bool false] 94)).cell? ⟨w.heap.size,0,none⟩ = some (.pointer (some ⟨g,0,none⟩)):=(HK2.out.2.1.cell 0).trans rfl;obtain ⟨v0,v1,v2,v3,v4,v5,v6,v7⟩:=WalkBox.cells HK2.out.1;have z0 : (w1.alloc (.cells #[.bool true,.bool true,.bool false,.bool false] 94)).cell? ⟨w1.heap.size,0,none⟩ = some (.bool true):=(HS.out.cell 0).trans rfl;have z1 : (w1.alloc (.cells #[.bool true,.bool true,.bool false,.bool false] 94)).cell? ⟨w1.heap.size,1,none⟩ = some (.bool true):=(HS.out.cell 1).trans rfl;have z2 : (w1.alloc (.cells #[.bool true,.bool true,.bool false,.bool false] 94)).cell? ⟨w1.heap.size,2,none⟩ = some (.bool false):=(HS.out.cell 2).trans rfl;have z3 : (w1.alloc (.cells #[.bool true,.bool true,.bool false,.bool false] 94)).cell? ⟨w1.heap.size,3,none⟩ = some (.bool false):=(HS.out.cell 3).trans rfl;have zl:=HS.out.lt;go_wp2_with fail;refine ((unhide HBN) _).mono ?_;rintro e w2 ⟨rfl,he⟩;rw [he] at y0 y1 y2 y3 y4 y5 y6 x0 x1 v0 v1 v2 v3 v4 v5 v6 v7 z0 z1 z2 z3 zl;have HK3 : Hid (FieldMem w g (walkCells W H S O PA n c SA N cN MA M cM) ⟨op,to,a,b,k,L⟩ LA m d w2):=hide (by rw [← he]; exact HK2.out);have HS3 : Hid (Blk w2 w1.heap.size 94 [.bool true,.bool true,.bool false,.bool false]):=hide (by rw [← he]; exact HS.out);clear he HK2 HS;go_wp2_with fail;refine (fslot_yes to S w.heap.size g w2 x1 v3).mono ?_;rintro e w9 ⟨rfl,he⟩;subst he
 cases hs0 : slotIn S to with
 | false =>
   have Hs0:=hide hs0;clear hs0;go_wp2_with fail;go_ret;exact ⟨ret_int (fe_range H0.out (by simp [rangeBad,Hs0.out])).symm,HK3.out.2.2.2.2⟩
 | true =>
   have Hs0:=hide hs0;clear hs0;go_wp2_with fail;refine (fslot_yes a S w.heap.size g w2 x1 v3).mono ?_;rintro e w9 ⟨rfl,he⟩;subst he
   cases hs1 : slotIn S a with
   | false =>
     have Hs1:=hide hs1;clear hs1;go_wp2_with fail;go_ret;exact ⟨ret_int (fe_range H0.out (by simp [rangeBad,HA.out,Hs1.out])).symm,HK3.out.2.2.2.2⟩
   | true =>
     have Hs1:=hide hs1;clear hs1;go_wp2_with fail;refine (fslot_yes b S w.heap.size g w2 x1 v3).mono ?_;rintro e w9 ⟨rfl,he⟩;subst he
     cases hs2 : slotIn S b with
     | false =>
       have Hs2:=hide hs2;clear hs2;go_wp2_with fail;go_ret;exact ⟨ret_int (fe_range H0.out (by simp [rangeBad,HB.out,Hs2.out])).symm,HK3.out.2.2.2.2⟩
     | true =>
       have Hs2:=hide hs2;clear hs2;have Hkf:=hide (HKN.out HKK.out);have HRB : Hid (rangeBad S ⟨op,to,a,b,k,L⟩ = false):=hide (by simp [rangeBad,Hs0.out,HA.out,Hs1.out,HB.out,Hs2.out,Hkf.out]);go_wp2_with fail;all_goals try (exfalso; omega)
       refine (fnone_has a _).mono ?_;rintro e w9 ⟨rfl,he⟩;subst he;go_wp2_with fail;refine (fnone_has b _).mono ?_;rintro e w9 ⟨rfl,he⟩;subst he;go_wp2_with fail;refine (fnone_not k _).mono ?_;rintro e w9 ⟨rfl,he⟩;subst he;by_cases fk : k = 0
       ·skip
        have Gfk:=hide fk;subst fk;go_wp2_with fail;refine (fnone_not (m : Int) _).mono ?_;rintro e w9 ⟨rfl,he⟩;subst he;by_cases fl : m = 0
        ·skip
         have E1:=hide (show L.length = 0 from HM.out.trans fl);obtain rfl : m = 0:=fl;by_cases ft : ¬ a = to
         ·have Gft:=hide ft
          have bft : (a == to) = false:=by simpa using ft
          clear ft;by_cases fu : ¬ b = to
          ·have Gfu:=hide fu
           have bfu : (b == to) = false:=by simpa using fu
           clear fu;go_wp2_with fail;go_ret;exact ⟨ret_int (fe_ok H0.out HRB.out (fun h=>by rw [HLL.out] at h; cases h) (by simp [formBad,HA.out,HB.out,HKK.out,HLL.out,E1.out,Gft.out,Gfu.out])).symm,HK3.out.2.2.2.2⟩
          ·have efu : b = to:=Classical.byContradiction fu
           have Gfu:=hide efu;have bfu : (b == to) = true:=by simpa using efu
           clear efu fu;go_wp2_with fail;go_ret;exact ⟨ret_int (fe_form H0.out HRB.out (fun h=>by rw [HLL.out] at h; cases h) (by simp [formBad,HB.out,Gfu.out])).symm,HK3.out.2.2.2.2⟩
         ·have eft : a = to:=Classical.byContradiction ft
          have Gft:=hide eft;have bft : (a == to) = true:=by simpa using eft
          clear eft ft;go_wp2_with fail;go_ret;exact ⟨ret_int (fe_form H0.out HRB.out (fun h=>by rw [HLL.out] at h; cases h) (by simp [formBad,HA.out,Gft.out])).symm,HK3.out.2.2.2.2⟩
        ·have E2:=hide (show 0 < L.length from by have:=HM.out; omega)
         have bfl : ((m : Int) == 0) = false:=by simp; omega
         clear fl;rw [bfl];go_wp2_with fail;go_ret;exact ⟨ret_int (fe_form H0.out HRB.out (fun h=>by rw [HLL.out] at h; cases h) (by simp [formBad,HLL.out,E2.out])).symm,HK3.out.2.2.2.2⟩
       ·have Gfk:=hide fk
        have bfk : (k == 0) = false:=by simpa using fk
        clear fk;rw [bfk];go_wp2_with fail;go_ret;exact ⟨ret_int (fe_form H0.out HRB.out (fun h=>by rw [HLL.out] at h; cases h) (by simp [formBad,HKK.out,Gfk.out])).symm,HK3.out.2.2.2.2⟩
end Go.Proofs.YtibpmogmeoappabGreat
namespace Go.Proofs.YtibpmogmeoappabGreat
open Go.RowKit
theorem fields_lit (g : Nat) (W H S O : Int) (PA : Option Addr) (n c : Nat) (SA : Option Addr) (N cN : Nat) (MA : Option Addr) (M cM : Nat) (p : Pas) (LA : Option Addr) (m d : Nat) (w : World)
 (_hS : 1 ≤ S ∧ S ≤ 8) (hG : WalkBox w g W H S O PA n c SA N cN MA M cM) (hm : p.L.length = m) (hL : Lamps w LA p.L) (hl : m ≤ 9223372036854775807) (h0 : inR p.Op 1 13 = true) (ha : hasA p.Op = true) (hb : hasB p.Op = false) (hk : hasK p.Op = true) (hl' : hasL p.Op = true) :
 Calls Tryz.prog 91 #[.pointer (some ⟨g,0,none⟩),.agg #[.int .i64 p.Op,.int .i64 p.To,.int .i64 p.A,.int .i64 p.B,.int .i64 p.K,.slice LA m d]] w (RetE w (fieldsErr S p)):=by
 have HOF:=hide (fun (W0 : World)=>of_any p.Op W0);have HBN:=hide (fun (W0 : World)=>bounds_any p.Op W0);have HCL:=hide (fun (W0 : World) (h : Lamps W0 LA p.L)=>checkLights_any LA m d p.L W0 hm h hl);have HK:=hide (fieldMem_start (p:=p) hG hL m d);have HKL:=hide (@kFine_low p.Op p.K h0);have HKH:=hide (@kFine_high p.Op p.K h0);have HKI:=hide (@kFine_in p.Op p.K h0);have HKN:=hide (@kFine_none p.Op p.K h0);obtain ⟨op,to,a,b,k,L⟩:=p;simp only at *;unfold RetOf at HOF;rw [h0,ha,hb,hk,hl'] at HOF;simp only [Bool.true_and] at HOF;unfold RetB2 at HBN;generalize lowK op = lo at *;generalize highK op = hi at *;have H0:=hide h0;have HA:=hide ha;have HB:=hide hb;have HKK:=hide hk;have HLL:=hide hl';have HM:=hide hm;clear hL hG ha hb hk hl' hm h0;go_enter Tryz.func91,Tryz.ntmps91
 go_wp2_with fail;obtain ⟨y0,y1,y2,y3,y4,y5,y6⟩:=PasBox.cells HK.out.2.2.1;simp only at y1 y2 y3 y4 y5 y6;refine ((unhide HOF) _).mono ?_;rintro e w1 ⟨rfl,hE⟩;have HK1:=hide (HK.out.keep hE);clear HK hE y0 y1 y2 y3 y4 y5 y6;have hal : Below w1.heap.size w1 (w1.alloc (.cells #[.bool true,.bool false,.bool true,.bool true] 94)):=(Below.refl _ _).alloc (Nat.le_refl _) _;have HS:=hide (Blk.new w1 94 [.bool true,.bool false,.bool true,.bool true]);have HK2:=hide (HK1.out.keep hal);clear HK1 hal;obtain ⟨y0,y1,y2,y3,y4,y5,y6⟩:=PasBox.cells HK2.out.2.2.1;simp only at y1 y2 y3 y4 y5 y6;have x0:=HK2.out.2.1.lt;have x1 : (w1.alloc (.cells #[.bool true,.bool false,.bool true,.bool true] 94)).cell? ⟨w.heap.size,0,none⟩ = some (.pointer (some ⟨g,0,none⟩)):=(HK2.out.2.1.cell 0).trans rfl;obtain ⟨v0,v1,v2,v3,v4,v5,v6,v7⟩:=WalkBox.cells HK2.out.1;have z0 : (w1.alloc (.cells #[.bool true,.bool false,.bool true,.bool true] 94)).cell? ⟨w1.heap.size,0,none⟩ = some (.bool true):=(HS.out.cell 0).trans rfl;have z1 : (w1.alloc (.cells #[.bool true,.bool false,.bool true,.bool true] 94)).cell? ⟨w1.heap.size,1,none⟩ = some (.bool false):=(HS.out.cell 1).trans rfl;have z2 : (w1.alloc (.cells #[.bool true,.bool false,.bool true,.bool true] 94)).cell? ⟨w1.heap.size,2,none⟩ = some (.bool true):=(HS.out.cell 2).trans rfl;have z3 : (w1.alloc (.cells #[.bool true,.bool false,.bool true,.bool true] 94)).cell? ⟨w1.heap.size,3,none⟩ = some (.bool true):=(HS.out.cell 3).trans rfl;have zl:=HS.out.lt;go_wp2_with fail;refine ((unhide HBN) _).mono ?_;rintro e w2 ⟨rfl,he⟩;rw [he] at y0 y1 y2 y3 y4 y5 y6 x0 x1 v0 v1 v2 v3 v4 v5 v6 v7 z0 z1 z2 z3 zl;have HK3 : Hid (FieldMem w g (walkCells W H S O PA n c SA N cN MA M cM) ⟨op,to,a,b,k,L⟩ LA m d w2):=hide (by rw [← he]; exact HK2.out);have HS3 : Hid (Blk w2 w1.heap.size 94 [.bool true,.bool false,.bool true,.bool true]):=hide (by rw [← he]; exact HS.out);clear he HK2 HS;go_wp2_with fail;refine (fslot_yes to S w.heap.size g w2 x1 v3).mono ?_;rintro e w9 ⟨rfl,he⟩;subst he
 cases hs0 : slotIn S to with
 | false =>
   have Hs0:=hide hs0;clear hs0;go_wp2_with fail;go_ret;exact ⟨ret_int (fe_range H0.out (by simp [rangeBad,Hs0.out])).symm,HK3.out.2.2.2.2⟩
 | true =>
   have Hs0:=hide hs0;clear hs0;go_wp2_with fail;refine (fslot_yes a S w.heap.size g w2 x1 v3).mono ?_;rintro e w9 ⟨rfl,he⟩;subst he
   cases hs1 : slotIn S a with
   | false =>
     have Hs1:=hide hs1;clear hs1;go_wp2_with fail;go_ret;exact ⟨ret_int (fe_range H0.out (by simp [rangeBad,HA.out,Hs1.out])).symm,HK3.out.2.2.2.2⟩
   | true =>
     have Hs1:=hide hs1;clear hs1;go_wp2_with fail;refine (fslot_no b w.heap.size w2).mono ?_;rintro e w9 ⟨rfl,he⟩;subst he;by_cases klo : k < lo
     ·have Hkf:=hide (HKL.out HKK.out klo)
      go_wp2_with fail;go_ret;exact ⟨ret_int (fe_range H0.out (by simp [rangeBad,Hkf.out])).symm,HK3.out.2.2.2.2⟩
     by_cases khi : hi < k
     ·have Hkf:=hide (HKH.out HKK.out khi)
      go_wp2_with fail;go_ret;exact ⟨ret_int (fe_range H0.out (by simp [rangeBad,Hkf.out])).symm,HK3.out.2.2.2.2⟩
     have Hkf:=hide (HKI.out HKK.out (by omega) (by omega));have HRB : Hid (rangeBad S ⟨op,to,a,b,k,L⟩ = false):=hide (by simp [rangeBad,Hs0.out,HA.out,Hs1.out,HB.out,Hkf.out]);go_wp2_with fail;all_goals try (exfalso; omega)
     refine ((unhide HCL) _ HK3.out.2.2.2.1).mono ?_;rintro e w4 ⟨rfl,hE⟩;have HK4:=hide (HK3.out.keep hE);have HS4:=hide (HS3.out.keep hE);clear HK3 HS3 hE y0 y1 y2 y3 y4 y5 y6 x0 x1 v0 v1 v2 v3 v4 v5 v6 v7 z0 z1 z2 z3 zl;obtain ⟨y0,y1,y2,y3,y4,y5,y6⟩:=PasBox.cells HK4.out.2.2.1;simp only at y1 y2 y3 y4 y5 y6;have z0 : w4.cell? ⟨w1.heap.size,0,none⟩ = some (.bool true):=(HS4.out.cell 0).trans rfl;have z1 : w4.cell? ⟨w1.heap.size,1,none⟩ = some (.bool false):=(HS4.out.cell 1).trans rfl;have z2 : w4.cell? ⟨w1.heap.size,2,none⟩ = some (.bool true):=(HS4.out.cell 2).trans rfl;have z3 : w4.cell? ⟨w1.heap.size,3,none⟩ = some (.bool true):=(HS4.out.cell 3).trans rfl;by_cases hle : lampsErr L = 0
     ·have Hle:=hide hle
      rw [hle];clear hle;go_wp2_with fail;refine (fnone_has a _).mono ?_;rintro e w9 ⟨rfl,he⟩;subst he;go_wp2_with fail;refine (fnone_not b _).mono ?_;rintro e w9 ⟨rfl,he⟩;subst he;by_cases fb : b = 0
      ·skip
       have Gfb:=hide fb;subst fb;go_wp2_with fail;refine (fnone_has k _).mono ?_;rintro e w9 ⟨rfl,he⟩;subst he;go_wp2_with fail;refine (fnone_has (m : Int) _).mono ?_;rintro e w9 ⟨rfl,he⟩;subst he;by_cases ft : ¬ a = to
       ·have Gft:=hide ft
        have bft : (a == to) = false:=by simpa using ft
        clear ft;go_wp2_with fail;go_ret;exact ⟨ret_int (fe_ok H0.out HRB.out (fun _=>Hle.out) (by simp [formBad,HA.out,HB.out,HKK.out,HLL.out,Gft.out])).symm,HK4.out.2.2.2.2⟩
       ·have eft : a = to:=Classical.byContradiction ft
        have Gft:=hide eft;have bft : (a == to) = true:=by simpa using eft
        clear eft ft;go_wp2_with fail;go_ret;exact ⟨ret_int (fe_form H0.out HRB.out (fun _=>Hle.out) (by simp [formBad,HA.out,Gft.out])).symm,HK4.out.2.2.2.2⟩
      ·have Gfb:=hide fb
       have bfb : (b == 0) = false:=by simpa using fb
       clear fb;rw [bfb];go_wp2_with fail;go_ret;exact ⟨ret_int (fe_form H0.out HRB.out (fun _=>Hle.out) (by simp [formBad,HB.out,Gfb.out])).symm,HK4.out.2.2.2.2⟩
     ·have Hle:=hide hle
      have ble : (lampsErr L != 0) = true:=by simpa using hle
      clear hle;have HPE:=hide (fe_lamps (S:=S) (p:=⟨op,to,a,b,k,L⟩) H0.out HRB.out HLL.out Hle.out);simp only at HPE;generalize lampsErr L = z at *;go_wp2_with fail;go_ret;exact ⟨ret_int (HPE.out).symm,HK4.out.2.2.2.2⟩
end Go.Proofs.YtibpmogmeoappabGreat
