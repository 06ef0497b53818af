/- What the evaluator's values and memory are in the model. -/
import Derived.Test.YthjljdbelnakfaaD1
namespace Dd
open Go
set_option linter.unusedVariables false
set_option linter.unusedSimpArgs false

/-- where a block lies in the model's memory: its number there, how many elements there is room for, and at which cell it begins -/
structure Rho where
  π : Nat → Nat
  κ : Nat → Nat
  δ : Nat → Nat
  ν : Nat → Bool
  ε : Nat → Option Addr × Nat

mutual
def conc (ρ : Rho) : V → Value
  | .bool b => .bool b
  | .int k n => .int k n
  | .str s => .string s
  | .nilp => .pointer none
  | .ptr b off _ _ => .pointer (some ⟨ρ.π b, ρ.δ b + off, none⟩)
  | .nils => .slice none 0 0
  | .slice b _ off _ start ln cap _ => bif ρ.ν b then .slice (ρ.ε b).1 0 (ρ.ε b).2 else .slice (some ⟨ρ.π b, ρ.δ b + off (ρ.κ b), none⟩) ln (cap.getD (ρ.κ b - start))
  | .nilf => .nilFunc
  | .func f a c => .func (.func f) (vals ρ a).toArray (vals ρ c).toArray
  | .nili => .nilIface
  | .iface t v => .iface t (conc ρ v)
  | .nilm => .map none
  | .map b => .map (some (ρ.π b))
  | .agg _ ps => .agg (concs ρ ps).toArray
  | .arr _ n f => .agg ((List.range n).flatMap fun i => (conc ρ (f i)).cells.toList).toArray
  | .tup vs => .tuple (vals ρ vs).toArray
def concs (ρ : Rho) : List V → List Value
  | [] => []
  | v :: l => (conc ρ v).cells.toList ++ concs ρ l
def vals (ρ : Rho) : List V → List Value
  | [] => []
  | v :: l => conc ρ v :: vals ρ l
end

def cl (ρ : Rho) (v : V) : List Value := (conc ρ v).cells.toList
theorem cl_agg (ρ : Rho) (t : TypeId) (ps : List V) : cl ρ (.agg t ps) = concs ρ ps := by simp [cl, conc, Value.cells]
theorem cl_arr (ρ : Rho) (t : TypeId) (n : Nat) (f : Nat → V) : cl ρ (.arr t n f) = (List.range n).flatMap fun i => cl ρ (f i) := by simp [cl, conc, Value.cells]
theorem concs_cons (ρ : Rho) (v : V) (l : List V) : concs ρ (v :: l) = cl ρ v ++ concs ρ l := by simp [cl, concs]

theorem vals_map (ρ : Rho) : ∀ l, vals ρ l = l.map (conc ρ)
  | [] => rfl
  | v :: l => by simp [vals, vals_map ρ l]

mutual
def Fit (P : Program) : V → TypeId → Prop
  | .agg t' ps, t => t' = t ∧ ∃ fs, P.underlying t = some (.struct fs) ∧ Fits P ps fs.toList 0 (P.cellsOf t)
  | .arr t' n f, t => t' = t ∧ ∃ e, P.underlying t = some (.array n e) ∧ P.cellsOf t = n * P.cellsOf e ∧ ∀ i, i < n → Fit P (f i) e
  | .tup _, _ => False
  | v, t => P.cellsOf t = 1 ∧ isAggT P t = false ∧ tkB (P.underlying t) v = true
def Fits (P : Program) : List V → List Field → Nat → Nat → Prop
  | [], [], o, s => o = s
  | v :: l, f :: fs, o, s => f.offset = o ∧ Fit P v f.type ∧ Fits P l fs (o + P.cellsOf f.type) s
  | _, _, _, _ => False
end

theorem flatMap_len {α : Type} (f : Nat → List α) (c : Nat) : ∀ n, (∀ i, i < n → (f i).length = c) → ((List.range n).flatMap f).length = n * c
  | 0, _ => by simp
  | n + 1, h => by
    rw [List.range_succ, List.flatMap_append, List.length_append, flatMap_len f c n (fun i hi => h i (by omega))]
    simp [h n (by omega), Nat.succ_mul]

mutual
theorem cl_len {P : Program} (ρ : Rho) : ∀ (v : V) (t : TypeId), Fit P v t → (cl ρ v).length = P.cellsOf t
  | .agg t' ps, t, h => by
    obtain ⟨_, fs, _, hf⟩ := h
    have := cls_len ρ ps _ _ _ hf
    rw [cl_agg]; omega
  | .arr t' n f, t, h => by
    obtain ⟨_, e, _, hs, hf⟩ := h
    rw [cl_arr, flatMap_len _ (P.cellsOf e) n (fun i hi => cl_len ρ (f i) e (hf i hi)), hs]
  | .tup _, _, h => h.elim
  | .bool _, _, h | .int _ _, _, h | .str _, _, h | .nilp, _, h | .ptr .., _, h | .nils, _, h | .nilf, _, h | .func .., _, h | .nili, _, h | .iface .., _, h | .nilm, _, h | .map _, _, h => by
    simp [cl, conc, Value.cells, h.1]
  | .slice b .., _, h => by
    simp only [cl, conc]
    cases ρ.ν b <;> simp [Value.cells, h.1]
theorem cls_len {P : Program} (ρ : Rho) : ∀ (ps : List V) (fs : List Field) (o s : Nat), Fits P ps fs o s → o + (concs ρ ps).length = s
  | [], [], o, s, h => by have h' : o = s := h; simpa [concs] using h'
  | v :: l, f :: fs, o, s, h => by
    obtain ⟨_, h1, h2⟩ := h
    have a := cl_len ρ v _ h1
    have b := cls_len ρ l _ _ _ h2
    rw [concs_cons, List.length_append]; omega
  | [], _ :: _, _, _, h => h.elim
  | _ :: _, [], _, _, h => h.elim
end

/-- where a path leads within a value of a type: the offset, and the type there -/
def place (P : Program) : TypeId → Path → Option (Nat × TypeId)
  | t, [] => some (0, t)
  | t, k :: p => match P.underlying t with
    | some (.struct fs) => match fs.toList[k]? with
      | some f => (place P f.type p).map fun x => (f.offset + x.1, x.2)
      | none => none
    | some (.array n e) => if k < n then (place P e p).map fun x => (k * P.cellsOf e + x.1, x.2) else none
    | _ => none

theorem place_snoc (P : Program) : ∀ (p : Path) (t : TypeId) (o : Nat) (t' : TypeId) (k : Nat), place P t p = some (o, t') → ∀ x, place P t' [k] = some x → place P t (p ++ [k]) = some (o + x.1, x.2)
  | [], t, o, t', k, h, x, hx => by simp [place] at h; obtain ⟨rfl, rfl⟩ := h; simpa using hx
  | j :: p, t, o, t', k, h, x, hx => by
    rw [List.cons_append]
    unfold place at h ⊢
    split at h
    · rename_i fs hu
      split at h
      · rename_i f hf
        simp only [Option.map_eq_some_iff] at h
        obtain ⟨⟨o1, t1⟩, h1, h2⟩ := h
        simp at h2; obtain ⟨rfl, rfl⟩ := h2
        rw [place_snoc P p _ _ _ k h1 x hx]
        simp [Nat.add_assoc]
      · cases h
    · rename_i n e hu
      split at h
      · rename_i hk
        simp only [Option.map_eq_some_iff] at h
        obtain ⟨⟨o1, t1⟩, h1, h2⟩ := h
        simp at h2; obtain ⟨rfl, rfl⟩ := h2
        simp only [hk, if_true]
        rw [place_snoc P p _ _ _ k h1 x hx]
        simp [Nat.add_assoc]
      · cases h
    · cases h

/-- the part of a list from o on, n long -/
abbrev seg {α : Type} (l : List α) (o n : Nat) : List α := (l.drop o).take n

theorem seg_seg {α : Type} (l : List α) (o n o' n' : Nat) (h : o' + n' ≤ n) : seg (seg l o n) o' n' = seg l (o + o') n' := by
  simp only [seg, List.drop_take, List.drop_drop, List.take_take]
  rw [Nat.min_eq_left (by omega)]

theorem seg_flatMap {α : Type} (f : Nat → List α) (c : Nat) (n : Nat) (h : ∀ i, i < n → (f i).length = c) (k : Nat) (hk : k < n) :
    seg ((List.range n).flatMap f) (k * c) c = f k := by
  have e : List.range n = List.range k ++ (k :: (List.range' (k + 1) (n - (k + 1)))) := by
    rw [List.range_eq_range', List.range_eq_range']
    have h1 := List.range'_append_1 (s := 0) (m := k) (n := n - k)
    rw [show k + (n - k) = n from by omega] at h1
    rw [← h1]
    congr 1
    rw [show n - k = (n - (k + 1)) + 1 from by omega, List.range'_succ]
    simp
  rw [e, List.flatMap_append, List.flatMap_cons]
  have hl : ((List.range k).flatMap f).length = k * c := flatMap_len f c k (fun i hi => h i (by omega))
  simp only [seg]
  rw [List.drop_append, hl]
  simp [List.drop_eq_nil_of_le (by rw [hl]; exact Nat.le_refl _ : ((List.range k).flatMap f).length ≤ k * c)]
  rw [List.take_append, h k hk]
  simp [List.take_of_length_le (Nat.le_of_eq (h k hk))]

mutual
theorem nav_cells {P : Program} (ρ : Rho) : ∀ (v : V) (t : TypeId) (p : Path) (o : Nat) (t' : TypeId) (u : V), Fit P v t → place P t p = some (o, t') → nav v p = some u →
    Fit P u t' ∧ seg (cl ρ v) o (P.cellsOf t') = cl ρ u ∧ o + P.cellsOf t' ≤ P.cellsOf t
  | v, t, [], o, t', u, hf, hp, hn => by
    simp [place] at hp; obtain ⟨rfl, rfl⟩ := hp
    have : u = v := by cases v <;> simp [nav] at hn <;> exact hn.symm
    subst this
    refine ⟨hf, ?_, by omega⟩
    have := cl_len ρ u t hf
    simp only [seg, List.drop_zero]
    exact List.take_of_length_le (by omega)
  | .agg s ps, t, k :: p, o, t', u, hf, hp, hn => by
    obtain ⟨rfl, fs, hu, hfs⟩ := hf
    simp only [place, hu] at hp
    split at hp
    · rename_i f hk
      simp only [Option.map_eq_some_iff] at hp
      obtain ⟨⟨o1, t1⟩, h1, h2⟩ := hp
      simp at h2; obtain ⟨rfl, rfl⟩ := h2
      simp only [nav] at hn
      obtain ⟨a, b, c, d⟩ := navs_cells ρ ps fs.toList 0 (P.cellsOf s) k p f o1 t1 u hfs hk h1 hn
      simp only [Nat.sub_zero] at b d
      refine ⟨a, ?_, d⟩
      rw [cl_agg]; exact b
    · cases hp
  | .arr s n f, t, k :: p, o, t', u, hf, hp, hn => by
    obtain ⟨rfl, e, hu, hs, hfs⟩ := hf
    simp only [place, hu] at hp
    split at hp
    · rename_i hk
      simp only [Option.map_eq_some_iff] at hp
      obtain ⟨⟨o1, t1⟩, h1, h2⟩ := hp
      simp at h2; obtain ⟨rfl, rfl⟩ := h2
      simp only [nav] at hn
      obtain ⟨a, b, c⟩ := nav_cells ρ (f k) e p o1 t1 u (hfs k hk) h1 hn
      refine ⟨a, ?_, ?_⟩
      · rw [← b]
        have := seg_flatMap (fun i => cl ρ (f i)) (P.cellsOf e) n (fun i hi => cl_len ρ (f i) e (hfs i hi)) k hk
        rw [cl_arr, ← this, seg_seg _ _ _ _ _ c]
      · rw [hs]
        have : k * P.cellsOf e + P.cellsOf e ≤ n * P.cellsOf e := by rw [← Nat.succ_mul]; exact Nat.mul_le_mul_right _ hk
        omega
    · cases hp
  | .bool _, _, _ :: _, _, _, _, _, _, hn | .int _ _, _, _ :: _, _, _, _, _, _, hn | .str _, _, _ :: _, _, _, _, _, _, hn | .nilp, _, _ :: _, _, _, _, _, _, hn
  | .ptr .., _, _ :: _, _, _, _, _, _, hn | .nils, _, _ :: _, _, _, _, _, _, hn | .slice .., _, _ :: _, _, _, _, _, _, hn | .nilf, _, _ :: _, _, _, _, _, _, hn
  | .func .., _, _ :: _, _, _, _, _, _, hn | .nili, _, _ :: _, _, _, _, _, _, hn | .iface .., _, _ :: _, _, _, _, _, _, hn | .nilm, _, _ :: _, _, _, _, _, _, hn
  | .map _, _, _ :: _, _, _, _, _, _, hn | .tup _, _, _ :: _, _, _, _, _, _, hn => by simp [nav] at hn
theorem navs_cells {P : Program} (ρ : Rho) : ∀ (ps : List V) (fs : List Field) (b s : Nat) (k : Nat) (p : Path) (f : Field) (o1 : Nat) (t1 : TypeId) (u : V), Fits P ps fs b s → fs[k]? = some f →
    place P f.type p = some (o1, t1) → nav.navs ps k p = some u →
    Fit P u t1 ∧ seg (concs ρ ps) (f.offset + o1 - b) (P.cellsOf t1) = cl ρ u ∧ b ≤ f.offset ∧ f.offset + o1 + P.cellsOf t1 ≤ s
  | [], [], _, _, _, _, _, _, _, _, _, hk, _, _ => by simp at hk
  | v :: l, g :: fs, b, s, 0, p, f, o1, t1, u, h, hk, hp, hn => by
    obtain ⟨h0, h1, h2⟩ := h
    simp at hk; subst hk
    simp only [nav.navs] at hn
    obtain ⟨a, c, d⟩ := nav_cells ρ v _ p o1 t1 u h1 hp hn
    have hl := cl_len ρ v _ h1
    have hr := cls_len ρ l _ _ _ h2
    refine ⟨a, ?_, by omega, by omega⟩
    rw [← c, h0, Nat.add_sub_cancel_left]
    rw [concs_cons]
    simp only [seg]
    rw [List.drop_append_of_le_length (by omega), List.take_append_of_le_length (by simp; omega)]
  | v :: l, g :: fs, b, s, k + 1, p, f, o1, t1, u, h, hk, hp, hn => by
    obtain ⟨h0, h1, h2⟩ := h
    simp only [nav.navs] at hn
    obtain ⟨a, c, d, e⟩ := navs_cells ρ l fs _ s k p f o1 t1 u h2 (by simpa using hk) hp hn
    have hl := cl_len ρ v _ h1
    refine ⟨a, ?_, by omega, e⟩
    rw [← c]
    rw [concs_cons]
    simp only [seg]
    rw [List.drop_append, List.drop_eq_nil_of_le (by omega), List.nil_append]
    congr 2
    omega
  | [], _ :: _, _, _, _, _, _, _, _, _, h, _, _, _ => h.elim
  | _ :: _, [], _, _, _, _, _, _, _, _, h, _, _, _ => h.elim
end

mutual
/-- what a path leads to lies within -/
theorem place_le (P : Program) : ∀ (v : V) (t : TypeId) (p : Path) (o : Nat) (t' : TypeId), Fit P v t → place P t p = some (o, t') → o + P.cellsOf t' ≤ P.cellsOf t
  | v, t, [], o, t', hf, hp => by simp [place] at hp; obtain ⟨rfl, rfl⟩ := hp; omega
  | .agg s ps, t, k :: p, o, t', hf, hp => by
    obtain ⟨rfl, fs, hu, hfs⟩ := hf
    simp only [place, hu] at hp
    split at hp
    · rename_i f hk
      simp only [Option.map_eq_some_iff] at hp
      obtain ⟨⟨o1, t1⟩, h1, h2⟩ := hp
      simp at h2; obtain ⟨rfl, rfl⟩ := h2
      exact (places_le P ps fs.toList 0 (P.cellsOf s) k p f o1 t1 hfs hk h1).2
    · cases hp
  | .arr s n f, t, k :: p, o, t', hf, hp => by
    obtain ⟨rfl, e, hu, hs, hfs⟩ := hf
    simp only [place, hu] at hp
    split at hp
    · rename_i hk
      simp only [Option.map_eq_some_iff] at hp
      obtain ⟨⟨o1, t1⟩, h1, h2⟩ := hp
      simp at h2; obtain ⟨rfl, rfl⟩ := h2
      have := place_le P (f k) e p o1 t1 (hfs k hk) h1
      have : k * P.cellsOf e + P.cellsOf e ≤ n * P.cellsOf e := by rw [← Nat.succ_mul]; exact Nat.mul_le_mul_right _ hk
      rw [hs]; omega
    · cases hp
  | .tup _, _, _ :: _, _, _, hf, _ => hf.elim
  | .bool _, t, _ :: _, _, _, hf, hp | .int _ _, t, _ :: _, _, _, hf, hp | .str _, t, _ :: _, _, _, hf, hp | .nilp, t, _ :: _, _, _, hf, hp
  | .ptr .., t, _ :: _, _, _, hf, hp | .nils, t, _ :: _, _, _, hf, hp | .slice .., t, _ :: _, _, _, hf, hp | .nilf, t, _ :: _, _, _, hf, hp
  | .func .., t, _ :: _, _, _, hf, hp | .nili, t, _ :: _, _, _, hf, hp | .iface .., t, _ :: _, _, _, hf, hp | .nilm, t, _ :: _, _, _, hf, hp
  | .map _, t, _ :: _, _, _, hf, hp => by
    obtain ⟨_, h2, _⟩ := hf
    unfold isAggT at h2
    simp only [place] at hp
    split at hp <;> simp_all
theorem places_le (P : Program) : ∀ (ps : List V) (fs : List Field) (b s : Nat) (k : Nat) (p : Path) (f : Field) (o1 : Nat) (t1 : TypeId), Fits P ps fs b s → fs[k]? = some f →
    place P f.type p = some (o1, t1) → b ≤ f.offset ∧ f.offset + o1 + P.cellsOf t1 ≤ s
  | [], [], _, _, _, _, _, _, _, _, hk, _ => by simp at hk
  | v :: l, g :: fs, b, s, 0, p, f, o1, t1, h, hk, hp => by
    obtain ⟨h0, h1, h2⟩ := h
    simp at hk; subst hk
    have := place_le P v _ p o1 t1 h1 hp
    have hr := cls_len ⟨id, id, id, fun _ => false, fun _ => (none, 0)⟩ l _ _ _ h2
    exact ⟨by omega, by omega⟩
  | v :: l, g :: fs, b, s, k + 1, p, f, o1, t1, h, hk, hp => by
    obtain ⟨h0, h1, h2⟩ := h
    have := places_le P l fs _ s k p f o1 t1 h2 (by simpa using hk) hp
    exact ⟨by omega, this.2⟩
  | [], _ :: _, _, _, _, _, _, _, _, h, _, _ => h.elim
  | _ :: _, [], _, _, _, _, _, _, _, h, _, _ => h.elim
end

theorem updF_apply {α : Type} (f : Nat → α) (i : Nat) (v : α) (j : Nat) : updF f i v j = if j = i then v else f j := by
  unfold updF
  by_cases h : j = i
  · subst h; simp
  · have : Nat.beq j i = false := by
      cases hb : Nat.beq j i with
      | false => rfl
      | true => exact absurd (Nat.eq_of_beq_eq_true hb) h
    simp [this, h]

theorem take_app_ge {α : Type} (l m : List α) (n : Nat) (h : l.length ≤ n) : (l ++ m).take n = l ++ m.take (n - l.length) := by
  rw [List.take_append, List.take_of_length_le h]
theorem drop_app_ge {α : Type} (l m : List α) (n : Nat) (h : l.length ≤ n) : (l ++ m).drop n = m.drop (n - l.length) := by
  rw [List.drop_append, List.drop_eq_nil_of_le h, List.nil_append]

theorem take_seg_drop {α : Type} (l : List α) (o n : Nat) : l.take o ++ seg l o n ++ l.drop (o + n) = l := by
  simp only [seg, List.append_assoc]
  rw [← List.drop_drop, List.take_append_drop, List.take_append_drop]

theorem flatMap_upd {α : Type} (f : Nat → List α) (c : Nat) (n : Nat) (h : ∀ i, i < n → (f i).length = c) (k : Nat) (hk : k < n) (L : List α) (g : Nat → List α) (hg : ∀ j, g j = if j = k then L else f j) :
    (List.range n).flatMap g = ((List.range n).flatMap f).take (k * c) ++ L ++ ((List.range n).flatMap f).drop (k * c + c) := by
  have e : List.range n = List.range k ++ (k :: (List.range' (k + 1) (n - (k + 1)))) := by
    rw [List.range_eq_range', List.range_eq_range']
    have h1 := List.range'_append_1 (s := 0) (m := k) (n := n - k)
    rw [show k + (n - k) = n from by omega] at h1
    rw [← h1]
    congr 1
    rw [show n - k = (n - (k + 1)) + 1 from by omega, List.range'_succ]
    simp
  have hl : ((List.range k).flatMap f).length = k * c := flatMap_len f c k (fun i hi => h i (by omega))
  have h1 : (List.range k).flatMap g = (List.range k).flatMap f := by
    rw [List.flatMap_def, List.flatMap_def]; congr 1
    apply List.map_congr_left; intro j hj; rw [List.mem_range] at hj; rw [hg, if_neg (by omega)]
  have h2 : (List.range' (k + 1) (n - (k + 1))).flatMap g = (List.range' (k + 1) (n - (k + 1))).flatMap f := by
    rw [List.flatMap_def, List.flatMap_def]; congr 1
    apply List.map_congr_left; intro j hj; rw [List.mem_range'_1] at hj; rw [hg, if_neg (by omega)]
  rw [e, List.flatMap_append, List.flatMap_cons, List.flatMap_append, List.flatMap_cons, h1, h2, hg k, if_pos rfl]
  rw [List.take_append_of_le_length (by omega), List.take_of_length_le (by omega)]
  rw [List.drop_append, List.drop_eq_nil_of_le (by omega), List.nil_append, hl, Nat.add_sub_cancel_left, List.drop_append_of_le_length (by rw [h k hk]; exact Nat.le_refl _), List.drop_eq_nil_of_le (by rw [h k hk]; exact Nat.le_refl _)]
  simp

theorem splice_seg {α : Type} (l x : List α) (o m o' n' : Nat) (h : o' + n' ≤ m) (hl : o + m ≤ l.length) :
    l.take o ++ ((seg l o m).take o' ++ x ++ (seg l o m).drop (o' + n')) ++ l.drop (o + m) = l.take (o + o') ++ x ++ l.drop (o + o' + n') := by
  simp only [seg, List.take_take, List.drop_take, List.drop_drop]
  rw [Nat.min_eq_left (by omega), List.take_add]
  have : (l.drop (o + (o' + n'))).take (m - (o' + n')) ++ l.drop (o + m) = l.drop (o + o' + n') := by
    have e : l.drop (o + m) = (l.drop (o + (o' + n'))).drop (m - (o' + n')) := by rw [List.drop_drop]; congr 1; omega
    rw [e, List.take_append_drop, Nat.add_assoc]
  simp only [List.append_assoc]
  rw [this]

mutual
theorem put_cells {P : Program} (ρ : Rho) : ∀ (v : V) (t : TypeId) (p : Path) (o : Nat) (t' : TypeId) (x v' : V), Fit P v t → place P t p = some (o, t') → Fit P x t' → putAt v p x = some v' →
    Fit P v' t ∧ cl ρ v' = (cl ρ v).take o ++ cl ρ x ++ (cl ρ v).drop (o + P.cellsOf t')
  | v, t, [], o, t', x, v', hf, hp, hx, hn => by
    simp [place] at hp; obtain ⟨rfl, rfl⟩ := hp
    have : x = v' := by cases v <;> simp [putAt] at hn <;> exact hn
    subst this
    refine ⟨hx, ?_⟩
    have := cl_len ρ v t hf
    rw [List.drop_eq_nil_of_le (by omega)]; simp
  | .agg s ps, t, k :: p, o, t', x, v', hf, hp, hx, hn => by
    obtain ⟨rfl, fs, hu, hfs⟩ := hf
    simp only [place, hu] at hp
    split at hp
    · rename_i f hk
      simp only [Option.map_eq_some_iff] at hp
      obtain ⟨⟨o1, t1⟩, h1, h2⟩ := hp
      simp at h2; obtain ⟨rfl, rfl⟩ := h2
      simp only [putAt] at hn
      split at hn
      · rename_i ps' hps
        simp at hn; subst hn
        obtain ⟨a, b, c, d⟩ := puts_cells ρ ps fs.toList 0 (P.cellsOf s) k p f o1 t1 x ps' hfs hk h1 hx hps
        refine ⟨⟨rfl, fs, hu, a⟩, ?_⟩
        rw [cl_agg, cl_agg]; simpa using b
      · cases hn
    · cases hp
  | .arr s n f, t, k :: p, o, t', x, v', hf, hp, hx, hn => by
    obtain ⟨rfl, e, hu, hs, hfs⟩ := hf
    simp only [place, hu] at hp
    split at hp
    · rename_i hk
      simp only [Option.map_eq_some_iff] at hp
      obtain ⟨⟨o1, t1⟩, h1, h2⟩ := hp
      simp at h2; obtain ⟨rfl, rfl⟩ := h2
      simp only [putAt] at hn
      split at hn
      · rename_i u hput
        simp at hn; subst hn
        obtain ⟨a, b⟩ := put_cells ρ (f k) e p o1 t1 x u (hfs k hk) h1 hx hput
        have hlen := fun i hi => cl_len ρ (f i) e (hfs i hi)
        have hle : o1 + P.cellsOf t1 ≤ P.cellsOf e := place_le P (f k) e p o1 t1 (hfs k hk) h1
        refine ⟨⟨rfl, e, hu, hs, fun i hi => ?_⟩, ?_⟩
        · rw [updF_apply]
          by_cases hik : i = k
          · subst hik; rw [if_pos rfl]; exact a
          · rw [if_neg hik]; exact hfs i hi
        · rw [cl_arr, cl_arr]
          rw [flatMap_upd (fun i => cl ρ (f i)) (P.cellsOf e) n hlen k hk (cl ρ u) _ (fun j => by rw [updF_apply]; split <;> rfl)]
          rw [b]
          have hs' := seg_flatMap (fun i => cl ρ (f i)) (P.cellsOf e) n hlen k hk
          rw [← hs']
          have hk' : k * P.cellsOf e + P.cellsOf e ≤ n * P.cellsOf e := by rw [← Nat.succ_mul]; exact Nat.mul_le_mul_right _ hk
          rw [splice_seg _ _ _ _ _ _ hle (by rw [flatMap_len _ _ n hlen]; exact hk')]
      · cases hn
    · cases hp
  | .bool _, _, _ :: _, _, _, _, _, _, _, _, hn | .int _ _, _, _ :: _, _, _, _, _, _, _, _, hn | .str _, _, _ :: _, _, _, _, _, _, _, _, hn | .nilp, _, _ :: _, _, _, _, _, _, _, _, hn
  | .ptr .., _, _ :: _, _, _, _, _, _, _, _, hn | .nils, _, _ :: _, _, _, _, _, _, _, _, hn | .slice .., _, _ :: _, _, _, _, _, _, _, _, hn | .nilf, _, _ :: _, _, _, _, _, _, _, _, hn
  | .func .., _, _ :: _, _, _, _, _, _, _, _, hn | .nili, _, _ :: _, _, _, _, _, _, _, _, hn | .iface .., _, _ :: _, _, _, _, _, _, _, _, hn | .nilm, _, _ :: _, _, _, _, _, _, _, _, hn
  | .map _, _, _ :: _, _, _, _, _, _, _, _, hn | .tup _, _, _ :: _, _, _, _, _, _, _, _, hn => by simp [putAt] at hn
theorem puts_cells {P : Program} (ρ : Rho) : ∀ (ps : List V) (fs : List Field) (b s : Nat) (k : Nat) (p : Path) (f : Field) (o1 : Nat) (t1 : TypeId) (x : V) (ps' : List V), Fits P ps fs b s → fs[k]? = some f →
    place P f.type p = some (o1, t1) → Fit P x t1 → putAt.puts ps k p x = some ps' →
    Fits P ps' fs b s ∧ concs ρ ps' = (concs ρ ps).take (f.offset + o1 - b) ++ cl ρ x ++ (concs ρ ps).drop (f.offset + o1 - b + P.cellsOf t1) ∧ b ≤ f.offset ∧ f.offset + o1 + P.cellsOf t1 ≤ s
  | [], [], _, _, _, _, _, _, _, _, _, _, hk, _, _, _ => by simp at hk
  | v :: l, g :: fs, b, s, 0, p, f, o1, t1, x, ps', h, hk, hp, hx, hn => by
    obtain ⟨h0, h1, h2⟩ := h
    simp at hk; subst hk
    simp only [putAt.puts] at hn
    split at hn
    · rename_i u hput
      simp at hn; subst hn
      obtain ⟨a, c⟩ := put_cells ρ v _ p o1 t1 x u h1 hp hx hput
      have hl := cl_len ρ v _ h1
      have hr := cls_len ρ l _ _ _ h2
      have hle := place_le P v _ p o1 t1 h1 hp
      refine ⟨⟨h0, a, h2⟩, ?_, by omega, by omega⟩
      rw [concs_cons, concs_cons, c, h0, Nat.add_sub_cancel_left]
      rw [List.take_append_of_le_length (by omega), List.drop_append_of_le_length (by omega)]
      simp [List.append_assoc]
    · cases hn
  | v :: l, g :: fs, b, s, k + 1, p, f, o1, t1, x, ps', h, hk, hp, hx, hn => by
    obtain ⟨h0, h1, h2⟩ := h
    simp only [putAt.puts] at hn
    split at hn
    · rename_i l' hput
      simp at hn; subst hn
      obtain ⟨a, c, d, e⟩ := puts_cells ρ l fs _ s k p f o1 t1 x l' h2 (by simpa using hk) hp hx hput
      have hl := cl_len ρ v _ h1
      refine ⟨⟨h0, h1, a⟩, ?_, by omega, e⟩
      rw [concs_cons, concs_cons, c]
      rw [take_app_ge (cl ρ v) (concs ρ l) _ (by omega), drop_app_ge (cl ρ v) (concs ρ l) _ (by omega), hl]
      have e1 : f.offset + o1 - b - P.cellsOf g.type = f.offset + o1 - (b + P.cellsOf g.type) := by omega
      have e2 : f.offset + o1 - b + P.cellsOf t1 - P.cellsOf g.type = f.offset + o1 - (b + P.cellsOf g.type) + P.cellsOf t1 := by omega
      rw [e1, e2]
      simp only [List.append_assoc]
    · cases hn
  | [], _ :: _, _, _, _, _, _, _, _, _, _, h, _, _, _, _ => h.elim
  | _ :: _, [], _, _, _, _, _, _, _, _, _, h, _, _, _, _ => h.elim
end

end Dd
