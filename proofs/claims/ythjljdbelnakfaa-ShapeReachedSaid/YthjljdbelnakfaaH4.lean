/- isa.classes: what it makes; isa.memory's closure. -/
import Derived.Test.YthjljdbelnakfaaH3
namespace Dd
open Go Go.RowKit Go.Proofs
set_option linter.unusedVariables false
set_option linter.unusedSimpArgs false

def fnV (f : Nat) (c : List V) : V := .agg 83 [.func f [] c]
def rowV (f0 f1 f2 f3 f4 f5 f6 f7 : V) : V := .arr 84 8 (updF (updF (updF (updF (updF (updF (updF (updF (fun _ => .agg 83 [.nilf]) 0 f0) 1 f1) 2 f2) 3 f3) 4 f4) 5 f5) 6 f6) 7 f7)
def clsV (a b c : Nat) : V := rowV (fnV 73 []) (fnV 79 [.ptr a 0 [0] 79]) (fnV 79 [.ptr b 0 [0] 79]) (fnV 79 [.ptr c 0 [0] 79]) (fnV 75 []) (fnV 76 []) (fnV 77 []) (fnV 75 [])
def clsF0 : Sfields := ⟨true, true, true, false⟩
def clsF1 : Sfields := ⟨true, false, true, true⟩
def clsB : Heap := [(79, .row true 1 (fun _ => v79 clsF0)), (79, .row true 1 (fun _ => v79 clsF1)), (79, .row true 1 (fun _ => v79 clsF0))]
def c_classes : List V → Option (Pre × V × Heap)
  | [] => some (none, clsV 0 1 2, clsB)
  | _ => none
def D_classes : List (Nat × Con) := [(74, .inl ir_memory 1 rs_memory)]
theorem D_classes_known : Known Try.prog D_classes := known_inl memory_fn known_nil
def clsZ : V := .arr 84 8 (fun _ => .agg 83 [.nilf])
theorem classes_runs (S : List It → Env → Heap → Prop) : Ran D_classes (fun _ => false) S (retV rs_classes (freshQ [] clsB (clsV 0 1 2))) 4000 [.code ir_classes] (argsE 0 []) [] =
    Leaf (freshQ [] clsB (clsV 0 1 2) (clsV 1 2 3) ((84, .row true 1 (updF (fun _ => clsZ) 0 (clsV 1 2 3))) :: clsB)) := by kernel_rfl
theorem cls_ren (σ : Sg) (a b c a' b' c' : Nat) (ha : nth σ a = some (some a')) (hb : nth σ b = some (some b')) (hc : nth σ c = some (some c')) : ren σ (clsV a b c) = clsV a' b' c' := by
  unfold clsV rowV
  simp only [ren]
  congr 1
  funext i
  match i with
  | 0 => rfl
  | 1 => show ren σ (fnV 79 [.ptr a 0 [0] 79]) = fnV 79 [.ptr a' 0 [0] 79]; simp [fnV, ren, rens, ha]
  | 2 => show ren σ (fnV 79 [.ptr b 0 [0] 79]) = fnV 79 [.ptr b' 0 [0] 79]; simp [fnV, ren, rens, hb]
  | 3 => show ren σ (fnV 79 [.ptr c 0 [0] 79]) = fnV 79 [.ptr c' 0 [0] 79]; simp [fnV, ren, rens, hc]
  | 4 => rfl
  | 5 => rfl
  | 6 => rfl
  | 7 => rfl
  | n + 8 => rfl
theorem cls_renOk (σ : Sg) (H : Heap) (a b c a' b' c' : Nat) (ha : nth σ a = some (some a')) (hb : nth σ b = some (some b')) (hc : nth σ c = some (some c')) : renOk σ H (clsV a b c) := by
  unfold clsV rowV
  intro i hi
  match i, hi with
  | 0, _ => exact ⟨⟨trivial, trivial⟩, trivial⟩
  | 1, _ => exact ⟨⟨trivial, ⟨⟨_, ha⟩, trivial⟩⟩, trivial⟩
  | 2, _ => exact ⟨⟨trivial, ⟨⟨_, hb⟩, trivial⟩⟩, trivial⟩
  | 3, _ => exact ⟨⟨trivial, ⟨⟨_, hc⟩, trivial⟩⟩, trivial⟩
  | 4, _ => exact ⟨⟨trivial, trivial⟩, trivial⟩
  | 5, _ => exact ⟨⟨trivial, trivial⟩, trivial⟩
  | 6, _ => exact ⟨⟨trivial, trivial⟩, trivial⟩
  | 7, _ => exact ⟨⟨trivial, trivial⟩, trivial⟩
theorem classes_heap : Spec Try.prog 63 (Con.heap (freshD fun vs _ => c_classes vs)).d := by
  refine spec_fresh classes_fn D_classes_known (fun _ => false) 4000 (fun vs H p v bl h hp ρ w hR hw => ?_)
  unfold c_classes at h
  split at h
  · cases h
    refine ⟨[], [], fun x hx => (by cases hx), rfl, trivial, Nat.le_refl _, ?_, fun n => ?_, fun S _ => Eq.mpr (classes_runs S) ⟨?_⟩⟩
    · intro x hx
      simp only [clsB, List.mem_cons, List.not_mem_nil, or_false] at hx
      rcases hx with rfl | rfl | rfl <;> exact ⟨rfl, fun _ _ => plain79 _⟩
    · exact cls_renOk _ _ 0 1 2 n (n + 1) (n + 1 + 1) rfl rfl rfl
    · refine ⟨[some 1, some 2, some 3], rfl, rfl, ⟨rfl, rfl, rfl, trivial⟩, ?_, ?_⟩
      · show renOk _ _ (ren (shiftS 0 3) (clsV 0 1 2))
        rw [cls_ren (shiftS 0 3) 0 1 2 0 1 2 rfl rfl rfl]
        exact cls_renOk _ _ 0 1 2 1 2 3 rfl rfl rfl
      · show clsV 1 2 3 = ren _ (ren (shiftS 0 3) (clsV 0 1 2))
        rw [cls_ren (shiftS 0 3) 0 1 2 0 1 2 rfl rfl rfl, cls_ren _ 0 1 2 1 2 3 rfl rfl rfl]
  · cases h
theorem classes_spec : Spec Try.prog 63 (Con.mk c_classes).d := by
  have e : (Con.mk c_classes).d = (Con.heap (freshD fun vs _ => c_classes vs)).d := by
    funext vs H
    simp only [Con.d, freshD]
    cases c_classes vs with
    | none => rfl
    | some x => rfl
  rw [e]; exact classes_heap

/-- a struct behind a pointer, seen alone -/
theorem ptr_view {P : Program} {ρ : Rho} {H : Heap} {w : World} {b t n : Nat} {rw : Bool} {f : Nat → V} {u : V} (hR : HRel P ρ H w) (hb : nth H b = some (t, .row rw n f)) (hn : 0 < n) (hf : f 0 = u) (hu : Plain u) : ViewOk P w ⟨ρ.π b, ρ.κ b, ρ.δ b, false, (none, 0), t, 1, fun _ => u⟩ := by
  have hν : ρ.ν b = false := hR.real hb hn
  obtain ⟨cs, t', fr, h1, h2, h3, h4, h5⟩ := hR.blk b _ _ hb hν
  refine ⟨fun h => (by cases h), fun _ => ⟨cs, t', fr, h1, Nat.le_trans hn h3, h4, fun j hj => ?_⟩, fun j hj => hu, fun j hj => ?_⟩
  · have hj' : j < 1 := hj
    obtain rfl : j = 0 := by omega
    obtain ⟨k1, k2⟩ := h5 0 hn
    rw [hf] at k1 k2
    refine ⟨k1, fun ρ' => ?_⟩
    show seg cs (ρ.δ b + 0 * P.cellsOf t) (P.cellsOf t) = cl ρ' u
    rw [k2]
    simp only [cl]
    rw [plain_conc (ρ := ρ) (ρ' := ρ') u hu]
  · have := hR.wf b _ _ _ _ hb 0 hn
    rw [hf] at this
    exact plain_wf u hu this
/-- what is read at a block's first part -/
theorem rd_first {P : Program} {H : Heap} {b t : Nat} {u : V} (hw : Wf P H (.ptr b 0 [0] t)) (h : H.rd b [0] = some u) : ∃ rw n f, nth H b = some (t, .row rw n f) ∧ 0 < n ∧ f 0 = u := by
  unfold Heap.rd at h
  split at h
  · rename_i t' rw n f i q hb hq
    cases hq
    unfold Wf at hw
    rw [hb] at hw
    obtain ⟨i', p', o, e1, e2, e3, e4⟩ := hw
    cases e1
    simp only [place, Option.some.injEq, Prod.mk.injEq] at e3
    obtain ⟨_, rfl⟩ := e3
    simp only [nav, Option.some.injEq] at h
    exact ⟨rw, n, f, hb, e2, h⟩
  · cases h

def c_memory1 : List V → Option (Nat × Path × (V → Option (Pre × V)))
  | [.int .u8 a, .bool r, .ptr b 0 [0] t] => bif Nat.beq t 79 then some (b, [0], fun u => match d79 u with
      | some s => some (none, .tup [v79 s, .bool ((andI .u8 a 224) == 96)])
      | none => none) else none
  | _ => none
def r_memory1 (vs : List V) (H : Heap) : Option (Pre × V) :=
  match c_memory1 vs with
  | some (b, q, G) => match H.rd b q with
    | some u => G u
    | none => none
  | none => none
theorem memory1_runs (S : List It → Env → Heap → Prop) (v : V) (a : Int) (r : Bool) (s : Sfields) : Ran [] (fun _ => false) S (retV rs_memory1 (fun u _ => u = v)) 4000 [.code ir_memory1] (argsE 0 [.int .u8 a, .bool r, .ptr 0 0 [0] 79]) [(79, .row false 1 (fun _ => v79 s))] =
    Leaf (V.tup [v79 s, .bool ((andI .u8 a 224) == 96)] = v) := by kernel_rfl
theorem memory1_read : Spec Try.prog 79 (Con.read r_memory1).d := by
  refine spec_read2 memory1_fn known_nil (fun _ => false) 4000 (fun vs H p v h hp ρ w hR hw => ?_)
  unfold r_memory1 c_memory1 at h
  split at h
  · rename_i b0 q G hq
    split at hq
    · rename_i a r b t
      cases hc : Nat.beq t 79 <;> simp only [hc, cond_true, cond_false] at hq
      · cases hq
      · obtain rfl := beq_eq hc
        cases hq
        split at h
        · rename_i u hu
          dsimp only at h
          split at h
          · rename_i s hs
            cases h
            have hwp := hw.2.2.1
            obtain ⟨rw, n, f, hb, hn, hf⟩ := rd_first hwp hu
            obtain rfl := d79_eq hs
            refine ⟨[⟨ρ.π b0, ρ.κ b0, ρ.δ b0, false, (none, 0), 79, 1, fun _ => v79 s⟩], [.int .u8 a, .bool r, .ptr 0 0 [0] 79], ?_, ?_, ?_, ?_, Nat.le_refl _, fun S _ => Eq.mpr (memory1_runs S _ a r s) ⟨rfl⟩⟩
            · intro x hx
              simp only [List.mem_cons, List.not_mem_nil, or_false] at hx
              subst hx
              exact ptr_view hR hb hn hf (plain79 s)
            · simp [vals, conc, rOf, pick]
            · refine ⟨trivial, trivial, ?_, trivial⟩
              show ptrOk Try.prog 79 1 0 [0] 79
              exact ⟨0, [], 0, rfl, by decide, rfl, by simp⟩
            · exact ⟨plain79 s, trivial, trivial⟩
          · cases h
        · cases h
    · cases hq
  · cases h
theorem memory1_spec : Spec Try.prog 79 (Con.rdp c_memory1).d := by
  have e : (Con.rdp c_memory1).d = (Con.read r_memory1).d := by
    funext vs H
    simp only [Con.d, r_memory1]
    cases c_memory1 vs with
    | none => rfl
    | some x =>
      obtain ⟨b, q, G⟩ := x
      simp only
      cases H.rd b q with
      | none => rfl
      | some u => rfl
  rw [e]; exact memory1_read
end Dd
