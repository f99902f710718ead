/- '!=' on two sizes. -/
import Derived.Test.YtibpmogmeoappabGreatJFrmH
import Derived.Laws.StructEq
namespace Go.Proofs.YtibpmogmeoappabGreat
open Go.RowKit
@[go_sem] theorem size_guard : Tryz.prog.eqGuardType Tryz.prog.depth 53 = false:=by kernel_rfl
theorem size_held : Tryz.prog.stoodInHeld 53 = false:=by kernel_rfl
theorem size_fields : (Tryz.prog.fieldsOf 53).toList.map (fun f=>(f.name,f.type,f.offset)) = [("W",3,0),("H",3,1)]:=by kernel_rfl
def neqSz (a b c d : Int) : Bool:=!(a == c && b == d)
theorem neqSz_same (a b : Int) : neqSz a b a b = false:=by simp [neqSz]
theorem neqSz_not {a b c d : Int} (h : ¬ (a = c ∧ b = d)) : neqSz a b c d = true:=by
 unfold neqSz;by_cases h1 : a = c
 ·have h2 : ¬ b = d:=fun e=>h ⟨h1,e⟩
  simp [h2]
 ·simp [h1]
@[go_sem high] theorem run_neq_size (a b c d : Int) (w : World) :
 (binOp .neq 53 (.agg #[.int .i64 a,.int .i64 b]) (.agg #[.int .i64 c,.int .i64 d])).run Tryz.prog w = .ok (.bool (neqSz a b c d)) w:=by
  unfold neqSz;rw [run_neq_struct,run_equalIn_agg]
  ·have hf:=size_fields
   generalize (Tryz.prog.fieldsOf 53).toList = l at hf
   obtain ⟨x,l,rfl⟩ : ∃ x l',l = x :: l':=by cases l with
    | nil=>simp at hf
    | cons x l'=>exact ⟨x,l',rfl⟩
   obtain ⟨y,l,rfl⟩ : ∃ x l',l = x :: l':=by cases l with
    | nil=>simp at hf
    | cons x l'=>exact ⟨x,l',rfl⟩
   simp only [List.map_cons,List.cons.injEq,Prod.mk.injEq,List.map_eq_nil_iff] at hf;obtain ⟨⟨x1,x2,x3⟩,⟨y1,y2,y3⟩,rfl⟩:=hf;simp only [Op.eqFields,x1,x2,x3,y1,y2,y3];by_cases h1 : a = c <;> by_cases h2 : b = d <;> simp [go_sem,h1,h2]
  ·simp only [Program.fieldsOf,Tryz.underlying53]
  ·exact size_held
end Go.Proofs.YtibpmogmeoappabGreat
