/- RegMoves: what it computes is true. -/
import Derived.Test.YthffcmecjfnokaaR4
namespace Dd
open Go Go.RowKit Go.Proofs
set_option linter.unusedVariables false

theorem shown_true : F_shown = true := by kernel_rfl
theorem pointer_eq (a : SReg) : F_pointer a = F_rPointer a.kind := rfl
theorem inn_eq (n : Int) : F_inn n = F_near n := rfl
theorem of_eq (a : SReg) : F_of a = a := rfl
theorem within_eq (a : SReg) (b c d e : Int) : F_Within a b c d e = F_rWithin a b c d e := rfl
theorem made2 (x : SRaw) : (F_made x).2 = (F_made x).1 := by
  simp only [F_made, Bool.cond_eq_ite]
  split <;> split <;> split <;> rfl
theorem move_eq (a : SReg) (s : SSpan) (d : Bool) : F_Move a s d = F_rMove a s d := by
  unfold F_Move F_rMove
  rw [pointer_eq]
  have e : F_inn = F_near := rfl
  rw [e]
  cases F_rPointer a.kind
  · rfl
  · cases h : (s.lo == s.hi)
    · cases d <;> rfl
    · have e : s.lo = s.hi := by simpa using h
      rw [← e]
      cases d <;> rfl
theorem eq32 (a : SReg) : veqB (v32 a) (v32 a) = true := by simp [v32, v30, veqB, veqsB]

theorem RegMoves_true (a0 a1 : SRaw) (a2 : Bool) (a3 a4 a5 a6 : Int) : F_RegMoves a0 a1 a2 a3 a4 a5 a6 = true := by
  unfold F_RegMoves
  rw [shown_true, made2, of_eq, move_eq, eq32, within_eq]
  simp

end Dd
