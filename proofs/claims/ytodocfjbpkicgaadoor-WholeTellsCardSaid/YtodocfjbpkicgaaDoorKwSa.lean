-- copied by a program of the session
import Derived.Test.YtodocfjbpkicgaaDoorKwSh
namespace Go.Proofs.YtodocfjbpkicgaaDoor
@[go_sem] theorem isSome_setCell (w : World) (a b : Addr) (v : Value) : ((w.setCell a v).cell? b).isSome = (w.cell? b).isSome := by
 by_cases e : a = b
 ·subst e
  cases h : w.cell? a with
  | some u => rw [World.cell?_setCell_same w a v h]; rfl
  | none =>
   unfold World.cell? at h ⊢
   simp only [World.setCell, Array.getElem?_modify, if_true]
   cases hh : w.heap[a.block]? with
   | none => simp
   | some x =>
    rw [hh] at h
    cases x <;> simp_all
 ·rw [World.cell?_setCell_other w a b v e]
end Go.Proofs.YtodocfjbpkicgaaDoor
