/- Walks: told (all ways), frame.Check, frame.Sources. -/
import Derived.Test.YtibpmogmeoappabGreatJFrmL
import Derived.Test.YtibpmogmeoappabGreatJFrmC
namespace Go.Proofs.YtibpmogmeoappabGreat
open Go.RowKit
theorem told_any (W H S O : Int) (PA : Option Addr) (n c : Nat) (ps : List Pas) (w : World) (hn : ps.length = n) (hP : Passes w PA ps) :
 Calls Tryz.prog 44 #[.agg #[.int .i64 W,.int .i64 H,.int .i64 S,.int .i64 O,.slice PA n c]] w (RetTale w (frSizes ⟨W,H,S,O,ps⟩) (frSources ⟨W,H,S,O,ps⟩) (frErr ⟨W,H,S,O,ps⟩)):=by
 by_cases h : Frm.Bounds ⟨W,H,S,O,ps⟩ ∧ 1 ≤ n ∧ n ≤ 12
 ·exact told_walk W H S O PA n c ps w hn hP h.1 h.2
 ·exact told_bad W H S O PA n c ps w hn h
theorem frameCheck_any (W H S O : Int) (PA : Option Addr) (n c : Nat) (ps : List Pas) (w : World) (hn : ps.length = n) (hP : Passes w PA ps) :
 Calls Tryz.prog 30 #[.agg #[.int .i64 W,.int .i64 H,.int .i64 S,.int .i64 O,.slice PA n c]] w (RetE w (frErr ⟨W,H,S,O,ps⟩)):=by
 have hb:=(Below.refl w.heap.size w).alloc (Nat.le_refl _) (.cells #[.int .i64 W,.int .i64 H,.int .i64 S,.int .i64 O,.slice PA n c] 24);have HC:=hide (told_any W H S O PA n c ps _ hn (hP.keep hb));have HB:=hide hb;clear hn hP hb;go_enter Tryz.func30,Tryz.ntmps30
 go_wp2_with fail;refine (unhide HC).mono ?_;rintro e w1 ⟨A,m,d,B,m2,d2,rfl,_,_,_,_,_,hE⟩;have HB1:=hide (HB.out.trans (hE.mono HB.out.size));clear hE HC HB;go_wp2_with fail;go_ret;exact ⟨rfl,HB1.out.alloc HB1.out.size _⟩
def RetSrcs (w : World) (L : List (List Int)) (z : Int) (e : Ending) (w' : World) : Prop :=
 ∃ (A : Option Addr) (n c : Nat),e = .returned (.tuple #[.slice A n c,.int .i64 z]) ∧ L.length = n ∧ IntRows w' A L ∧ Below w.heap.size w w'
def RetSrcsN (w : World) (L : List (List Int)) (z : Int) (e : Ending) (w' : World) : Prop :=
 ∃ (A : Option Addr) (n c : Nat),e = .returned (.tuple #[.slice A n c,.int .i64 z]) ∧ L.length = n ∧ IntRowsN w' A L w.heap.size ∧ Below w.heap.size w w'
theorem sources_new (W H S O : Int) (PA : Option Addr) (n c : Nat) (ps : List Pas) (w : World) (hn : ps.length = n) (hP : Passes w PA ps) :
 Calls Tryz.prog 28 #[.agg #[.int .i64 W,.int .i64 H,.int .i64 S,.int .i64 O,.slice PA n c]] w (RetSrcsN w (frSources ⟨W,H,S,O,ps⟩) (frErr ⟨W,H,S,O,ps⟩)):=by
 have hb:=(Below.refl w.heap.size w).alloc (Nat.le_refl _) (.cells #[.int .i64 W,.int .i64 H,.int .i64 S,.int .i64 O,.slice PA n c] 24);have HC:=hide (told_any W H S O PA n c ps _ hn (hP.keep hb));have HB:=hide hb;clear hn hP hb;go_enter Tryz.func28,Tryz.ntmps28
 go_wp2_with fail;refine (unhide HC).mono ?_;rintro e w1 ⟨A,m,d,B,m2,d2,rfl,_,hm,_,_,hI,hE⟩;have HB1:=hide (HB.out.trans (hE.mono HB.out.size));have HM:=hide hm;have HI:=hide (hI.mono HB.out.size);clear hE HC HB hm hI;go_wp2_with fail;go_ret2;exact ⟨B,m2,d2,rfl,HM.out,HI.out.keep ((Below.refl _ _).alloc (Nat.le_refl _) _),HB1.out.alloc HB1.out.size _⟩
theorem sources_any (W H S O : Int) (PA : Option Addr) (n c : Nat) (ps : List Pas) (w : World) (hn : ps.length = n) (hP : Passes w PA ps) :
 Calls Tryz.prog 28 #[.agg #[.int .i64 W,.int .i64 H,.int .i64 S,.int .i64 O,.slice PA n c]] w (RetSrcs w (frSources ⟨W,H,S,O,ps⟩) (frErr ⟨W,H,S,O,ps⟩)) :=
 (sources_new W H S O PA n c ps w hn hP).mono fun _ _ ⟨A,m,d,h1,h2,h3,h4⟩=>⟨A,m,d,h1,h2,h3.rows,h4⟩
end Go.Proofs.YtibpmogmeoappabGreat
namespace Go.Proofs.YtibpmogmeoappabGreat
open Go.RowKit
def RetSzsN (w : World) (L : List Sz) (z : Int) (e : Ending) (w' : World) : Prop :=
 ∃ (A : Option Addr) (n c : Nat),e = .returned (.tuple #[.slice A n c,.int .i64 z]) ∧ L.length = n ∧ Sizes w' A L ∧ NewFrom w.heap.size A ∧ Below w.heap.size w w'
theorem sizes_new (W H S O : Int) (PA : Option Addr) (n c : Nat) (ps : List Pas) (w : World) (hn : ps.length = n) (hP : Passes w PA ps) :
 Calls Tryz.prog 27 #[.agg #[.int .i64 W,.int .i64 H,.int .i64 S,.int .i64 O,.slice PA n c]] w (RetSzsN w (frSizes ⟨W,H,S,O,ps⟩) (frErr ⟨W,H,S,O,ps⟩)):=by
 have hb:=(Below.refl w.heap.size w).alloc (Nat.le_refl _) (.cells #[.int .i64 W,.int .i64 H,.int .i64 S,.int .i64 O,.slice PA n c] 24);have HC:=hide (told_any W H S O PA n c ps _ hn (hP.keep hb));have HB:=hide hb;clear hn hP hb;go_enter Tryz.func27,Tryz.ntmps27
 go_wp2_with fail;refine (unhide HC).mono ?_;rintro e w1 ⟨A,m,d,B,m2,d2,rfl,hm,_,hI,hW,_,hE⟩;have HB1:=hide (HB.out.trans (hE.mono HB.out.size));have HM:=hide hm;have HI:=hide hI;have HW:=hide (hW.mono HB.out.size);clear hE HC HB hm hI hW;go_wp2_with fail;go_ret2;exact ⟨A,m,d,rfl,HM.out,Cells.keep HI.out ((Below.refl _ _).alloc (Nat.le_refl _) _),HW.out,HB1.out.alloc HB1.out.size _⟩
theorem sizes_any (W H S O : Int) (PA : Option Addr) (n c : Nat) (ps : List Pas) (w : World) (hn : ps.length = n) (hP : Passes w PA ps) :
 Calls Tryz.prog 27 #[.agg #[.int .i64 W,.int .i64 H,.int .i64 S,.int .i64 O,.slice PA n c]] w (RetSzs w (frSizes ⟨W,H,S,O,ps⟩) (frErr ⟨W,H,S,O,ps⟩)) :=
 (sizes_new W H S O PA n c ps w hn hP).mono fun _ _ ⟨A,m,d,h1,h2,h3,_,h4⟩=>⟨A,m,d,h1,h2,h3,h4⟩
end Go.Proofs.YtibpmogmeoappabGreat
