/- From a walk to a row: how arguments are opened. -/
import Derived.Test.YthjljdbelnakfaaDA
import Derived.Test.YthjljdbelnakfaaD16
import Derived.WalkKit
import Derived.ProofKit
import Derived.OpenShut
import Derived.ShutString
import Derived.ChangeOld
import Derived.Below
import Derived.SizedLaws
namespace Dd
open Go Go.RowKit Go.ChangeShapes Go.WideShapes
set_option linter.unusedVariables false

def rho0 : Rho := ⟨fun _ => 0, fun _ => 0, fun _ => 0, fun _ => false, fun _ => (none, 0)⟩

theorem hrel_nil {P : Program} {ρ : Rho} {w : World} : HRel P ρ [] w :=
  ⟨fun b t B hb => by simp [nth] at hb, fun b c tb tc B C hb => by simp [nth] at hb, fun b t B hb => by simp [nth] at hb, fun b t B hb => by simp [nth] at hb, fun b t r n f hb => by simp [nth] at hb, fun b t es hb => by simp [nth] at hb⟩

theorem law_walk {P : Program} {f : FuncId} {c : List V → Option (Pre × V)} {p : Pre} {vs : List V} (hs : Spec P f (Con.pure c).d) (hc : c vs = some (p, .bool true)) (hp : Pre.ok p) (hw : Wfs P [] vs) (ρ : Rho) (W : World) :
    Calls P f (vals ρ vs).toArray W fun e W' => e = .returned (.bool true) ∧ Below W.heap.size W W' := by
  refine (hs.2 vs [] p (.bool true) [] (by simp only [Con.d, hc]; rfl) hp ρ W hrel_nil hw).mono ?_
  rintro e w' ⟨ρ', rfl, hst, _⟩
  exact ⟨by simp [conc], (hst.grew (fun b t B hb => by simp [nth] at hb)).below⟩

theorem wf64_nn {a : Int} (w : (Lit.int .u64 a).wf = true) : 0 ≤ a := by
  simp only [Lit.wf, Bool.and_eq_true, decide_eq_true_eq] at w
  exact w.1

theorem mapM_each {α β : Type} {g : α → Option β} : ∀ {l : List α} {xs : List β}, l.mapM g = some xs → ∀ f ∈ l, ∃ x, g f = some x
  | [], _, _, f, hf => by simp at hf
  | a :: l, xs, h, f, hf => by
    rw [List.mapM_cons] at h
    cases ha : g a with
    | none => rw [ha] at h; cases h
    | some x =>
      rw [ha] at h
      cases hl : l.mapM g with
      | none => rw [hl] at h; cases h
      | some ys =>
        rcases List.mem_cons.1 hf with rfl | hf
        · exact ⟨x, ha⟩
        · exact mapM_each hl f hf

theorem open_struct {H : Type} {enc : TypeId × Value → H} {P : Program} {W : World} {sp : Nat → Bool} {held : Bool} {b0 base : Nat} {t : TypeId} {fs : Array Field} {v : Value} {d : DataW H} {p : List MemPlace}
    (ht : P.underlying t = some (.struct fs)) (hval : Value.okWide P W .any b0 t v) (hd : DataW.Trod enc P W base sp held t v d p) :
    ∃ cs : List Value, v = .agg cs.toArray ∧ cs.length = P.cellsOf t ∧ ∃ fuel, ∀ f ∈ fs.toList, ∃ x, DataW.trod enc P W base sp held fuel f.type ((cs.drop f.offset).take (P.cellsOf f.type)) = some x := by
  simp only [Value.okWide, ht] at hval
  obtain ⟨cs, rfl, hn, _⟩ := hval
  obtain ⟨fuel, hf⟩ := hd
  refine ⟨cs.toList, by simp, by simpa using hn, ?_⟩
  rw [show (Value.agg cs).cells.toList = cs.toList from rfl] at hf
  cases fuel with
  | zero => simp [DataW.trod] at hf
  | succ n =>
    unfold DataW.trod at hf
    rw [ht] at hf
    simp only at hf
    rw [if_pos (by simpa using hn), Option.map_eq_some_iff] at hf
    obtain ⟨xs, hx, _⟩ := hf
    exact ⟨n, mapM_each hx⟩

theorem wf_agg {P : Program} {H : Heap} {t : TypeId} {ps : List V} (h : fitB P (.agg t ps) t = true) (hp : Wfs P H ps) : Wf P H (.agg t ps) := ⟨fitB_fit P _ _ h, hp⟩

end Dd
