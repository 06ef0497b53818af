/- A region whose operations may be done in other orders: whatever the order, it comes to the same. -/
import Derived.Test.YthjljdbelnakfaaD10
namespace Dd
open Go Go.RowKit
set_option linter.unusedVariables false
set_option linter.unusedSimpArgs false

/-! Try# what an operation asks of the slots -/
def oT : O → List Nat
  | .t n => [n]
  | .k _ => []

def Op1.uses : Op1 → List Nat
  | .mov x | .box _ _ _ x | .load _ x | .nilCheck x | .fieldAddr _ x _ _ _ | .field _ x _ | .un _ x | .conv _ x | .mkIface _ x | .extract x _ | .len _ x | .tassert _ _ x => oT x
  | .pick c x y | .pickb c x y => oT c ++ oT x ++ oT y
  | .alloc .. => []
  | .build _ _ _ _ ps | .bslice _ _ _ _ _ ps => ps.flatMap fun x => oT x.2
  | .mslice _ _ _ _ x y | .append _ _ _ x y => oT x ++ oT y
  | .slc _ _ x lo hi => oT x ++ (match lo with | some y => oT y | none => []) ++ (match hi with | some y => oT y | none => [])
  | .store _ _ x y | .arrAddr _ _ _ _ x y | .slAddr _ _ x y | .index _ _ x y | .bin _ x y | .sh _ x y | .eqv _ _ _ x y | .mn x y | .mx x y => oT x ++ oT y
  | .mkFunc _ a c => a.flatMap oT ++ c.flatMap oT
  | .call _ l => l.flatMap oT
  | .callv x l => oT x ++ l.flatMap oT

def Opr.uses (o : Opr) : List Nat := (match o.guard with | some (g, _) => [g] | none => []) ++ o.op.uses

theorem O.ev_local {E E' : Env} {x : O} (h : ∀ t ∈ oT x, lk E t = lk E' t) : x.ev E = x.ev E' := by
  cases x with
  | t n => exact h n (by simp [oT])
  | k v => rfl

theorem evs_local {E E' : Env} : ∀ {l : List O}, (∀ t ∈ l.flatMap oT, lk E t = lk E' t) → evs E l = evs E' l
  | [], _ => rfl
  | x :: l, h => by
    have h1 := O.ev_local (x := x) (fun t ht => h t (by simp [ht]))
    have h2 := evs_local (l := l) (fun t ht => h t (by simp at ht ⊢; exact .inr ht))
    simp only [evs, h1, h2]

theorem evp_local {E E' : Env} : ∀ {l : List (Nat × O)}, (∀ t ∈ l.flatMap (fun x => oT x.2), lk E t = lk E' t) → evp E l = evp E' l
  | [], _ => rfl
  | (i, x) :: l, h => by
    have h1 := O.ev_local (x := x) (fun t ht => h t (by simp [ht]))
    have h2 := evp_local (l := l) (fun t ht => h t (by simp at ht ⊢; exact .inr ht))
    simp only [evp, h1, h2]

theorem ev_local {Γ : List (Nat × Con)} {base : Nat} {E E' : Env} {H : Heap} {o : Op1} (h : ∀ t ∈ o.uses, lk E t = lk E' t) : o.ev Γ base E H = o.ev Γ base E' H := by
  cases o <;> simp only [Op1.uses] at h <;> simp only [Op1.ev]
  case pickb c x y =>
    rw [O.ev_local (x := c) (fun t ht => h t (by simp [ht])), O.ev_local (x := x) (fun t ht => h t (by simp [ht])), O.ev_local (x := y) (fun t ht => h t (by simp [ht]))]
  case pick c x y =>
    rw [O.ev_local (x := c) (fun t ht => h t (by simp [ht])), O.ev_local (x := x) (fun t ht => h t (by simp [ht])), O.ev_local (x := y) (fun t ht => h t (by simp [ht]))]
  case build => rw [evp_local h]
  case bslice => rw [evp_local h]
  case slc t es x lo hi =>
    have h1 := O.ev_local (x := x) (fun t ht => h t (by simp [ht]))
    have h2 : evo E lo = evo E' lo := by cases lo <;> simp only [evo]; rename_i y; rw [O.ev_local (x := y) (fun t ht => h t (by simp [ht]))]
    have h3 : evo E hi = evo E' hi := by cases hi <;> simp only [evo]; rename_i y; rw [O.ev_local (x := y) (fun t ht => h t (by simp [ht]))]
    rw [h1, h2, h3]
  case mkFunc f a c => rw [evs_local (l := a) (fun t ht => h t (List.mem_append.2 (.inl ht))), evs_local (l := c) (fun t ht => h t (List.mem_append.2 (.inr ht)))]
  case call => rw [evs_local h]
  case callv x l => rw [O.ev_local (x := x) (fun t ht => h t (List.mem_append.2 (.inl ht))), evs_local (l := l) (fun t ht => h t (List.mem_append.2 (.inr ht)))]
  all_goals first
    | (rename_i x y; rw [O.ev_local (x := x) (fun t ht => h t (by simp [ht])), O.ev_local (x := y) (fun t ht => h t (by simp [ht]))]; done)
    | (rename_i x; rw [O.ev_local (x := x) h]; done)
    | (rename_i x _; rw [O.ev_local (x := x) h]; done)
    | (rename_i x _ _ _; rw [O.ev_local (x := x) h]; done)

/-! Try# memory: reads and writes apart -/
theorem updF_same {α : Type} (f : Nat → α) (i : Nat) (v u : α) : updF (updF f i v) i u = updF f i u := by
  funext j; simp only [updF_apply]; split <;> rfl
theorem updF_comm {α : Type} (f : Nat → α) (i j : Nat) (v u : α) (h : i ≠ j) : updF (updF f i v) j u = updF (updF f j u) i v := by
  funext k; simp only [updF_apply]
  by_cases h1 : k = j
  · subst h1; rw [if_pos rfl, if_neg (fun e => h e.symm), if_pos rfl]
  · rw [if_neg h1]; by_cases h2 : k = i
    · rw [if_pos h2, if_pos h2]
    · rw [if_neg h2, if_neg h2, if_neg h1]

theorem pathOff_cons {i j : Nat} {p q : Path} (h : pathOff (i :: p) (j :: q) = true) : i ≠ j ∨ (i = j ∧ pathOff p q = true) := by
  simp only [pathOff] at h
  cases hb : Nat.beq i j <;> simp only [hb, cond_true, cond_false] at h
  · exact .inl (fun e => by subst e; simp at hb)
  · exact .inr ⟨beq_eq hb, h⟩
theorem pathOff_symm : ∀ {p q : Path}, pathOff p q = true → pathOff q p = true
  | i :: p, j :: q, h => by
    rcases pathOff_cons h with h | ⟨rfl, h9⟩
    · have : Nat.beq j i = false := by
        cases hb : Nat.beq j i with
        | false => rfl
        | true => exact absurd (beq_eq hb).symm h
      simp [pathOff, this]
    · simp only [pathOff, Nat.beq_refl, cond_true]; exact pathOff_symm h9
  | [], _, h => by simp [pathOff] at h
  | _ :: _, [], h => by simp [pathOff] at h

theorem puts_eq : ∀ (ps : List V) (k : Nat) (p : Path) (x : V) (qs : List V), putAt.puts ps k p x = some qs ↔ ∃ v u, nth ps k = some v ∧ putAt v p x = some u ∧ qs = setNth ps k u
  | [], k, p, x, qs => by simp [putAt.puts, nth]
  | v :: l, 0, p, x, qs => by
    simp only [putAt.puts, nth, setNth]
    constructor
    · intro h
      split at h
      · rename_i u hu; cases h; exact ⟨v, u, rfl, hu, rfl⟩
      · cases h
    · rintro ⟨v', u, h1, h2, rfl⟩
      cases h1; rw [h2]
  | v :: l, k + 1, p, x, qs => by
    simp only [putAt.puts, nth, setNth]
    constructor
    · intro h
      split at h
      · rename_i l' hl
        cases h
        obtain ⟨v', u, h1, h2, rfl⟩ := (puts_eq l k p x l').1 hl
        exact ⟨v', u, h1, h2, rfl⟩
      · cases h
    · rintro ⟨v', u, h1, h2, rfl⟩
      rw [(puts_eq l k p x _).2 ⟨v', u, h1, h2, rfl⟩]

theorem navs_eq : ∀ (ps : List V) (k : Nat) (p : Path), nav.navs ps k p = (nth ps k).bind fun v => nav v p
  | [], k, p => by simp [nav.navs, nth]
  | v :: l, 0, p => by simp [nav.navs, nth]
  | v :: l, k + 1, p => by simp only [nav.navs, nth]; exact navs_eq l k p

theorem nth_set_ne {α : Type} (l : List α) (i j : Nat) (a : α) (h : i ≠ j) : nth (setNth l i a) j = nth l j := by
  simp only [nth_eq, setNth_eq, List.getElem?_set, if_neg h]
theorem nth_set_eq {α : Type} {l : List α} {i : Nat} {a b : α} (h : nth l i = some b) : nth (setNth l i a) i = some a := by
  rw [nth_setNth _ _ _ _ _ h, if_pos rfl]
theorem setNth_comm {α : Type} (l : List α) (i j : Nat) (a b : α) (h : i ≠ j) : setNth (setNth l i a) j b = setNth (setNth l j b) i a := by
  simp only [setNth_eq]; exact List.set_comm a b h
theorem setNth_same {α : Type} (l : List α) (i : Nat) (a b : α) : setNth (setNth l i a) i b = setNth l i b := by
  simp only [setNth_eq, List.set_set]

theorem nav_put_off : ∀ (p q : Path) (v u x : V), pathOff p q = true → putAt v q x = some u → nav u p = nav v p
  | [], _, _, _, _, h, _ => by simp [pathOff] at h
  | _ :: _, [], _, _, _, h, _ => by simp [pathOff] at h
  | i :: p, j :: q, v, u, x, h, hp => by
    cases v with
    | agg t ps =>
      simp only [putAt] at hp
      split at hp
      · rename_i ps' hps
        cases hp
        obtain ⟨v', u', h1, h2, rfl⟩ := (puts_eq _ _ _ _ _).1 hps
        simp only [nav, navs_eq]
        rcases pathOff_cons h with hne | ⟨rfl, h9⟩
        · rw [nth_set_ne _ _ _ _ (fun e => hne e.symm)]
        · rw [nth_set_eq h1, h1]
          simp only [Option.bind_some]
          exact nav_put_off p q v' u' x h9 h2
      · cases hp
    | arr t n f =>
      simp only [putAt] at hp
      split at hp
      · rename_i u' hu
        cases hp
        simp only [nav, updF_apply]
        rcases pathOff_cons h with hne | ⟨rfl, h9⟩
        · rw [if_neg hne]
        · rw [if_pos rfl]; exact nav_put_off p q (f i) u' x h9 hu
      · cases hp
    | _ => simp [putAt] at hp

theorem put_put_off : ∀ (p q : Path) (v u u2 x y : V), pathOff p q = true → putAt v p x = some u → putAt u q y = some u2 → ∃ u', putAt v q y = some u' ∧ putAt u' p x = some u2
  | [], _, _, _, _, _, _, h, _, _ => by simp [pathOff] at h
  | _ :: _, [], _, _, _, _, _, h, _, _ => by simp [pathOff] at h
  | i :: p, j :: q, v, u, u2, x, y, h, h1, h2 => by
    cases v with
    | agg t ps =>
      simp only [putAt] at h1
      split at h1
      · rename_i ps1 hps
        cases h1
        obtain ⟨v1, w1, a1, a2, rfl⟩ := (puts_eq _ _ _ _ _).1 hps
        simp only [putAt] at h2
        split at h2
        · rename_i ps2 hps2
          cases h2
          obtain ⟨v2, w2, b1, b2, rfl⟩ := (puts_eq _ _ _ _ _).1 hps2
          rcases pathOff_cons h with hne | ⟨rfl, h9⟩
          · rw [nth_set_ne _ _ _ _ hne] at b1
            refine ⟨.agg t (setNth ps j w2), ?_, ?_⟩
            · simp only [putAt]; rw [(puts_eq _ _ _ _ _).2 ⟨v2, w2, b1, b2, rfl⟩]
            · simp only [putAt]; rw [(puts_eq _ _ _ _ _).2 ⟨v1, w1, by rw [nth_set_ne _ _ _ _ (fun e => hne e.symm)]; exact a1, a2, rfl⟩, setNth_comm _ _ _ _ _ hne]
          · rw [nth_set_eq a1] at b1; cases b1
            obtain ⟨u', c1, c2⟩ := put_put_off p q v1 w1 w2 x y h9 a2 b2
            refine ⟨.agg t (setNth ps i u'), ?_, ?_⟩
            · simp only [putAt]; rw [(puts_eq _ _ _ _ _).2 ⟨v1, u', a1, c1, rfl⟩]
            · simp only [putAt]; rw [(puts_eq _ _ _ _ _).2 ⟨u', w2, nth_set_eq a1, c2, rfl⟩, setNth_same, setNth_same]
        · cases h2
      · cases h1
    | arr t n f =>
      simp only [putAt] at h1
      split at h1
      · rename_i w1 a2
        cases h1
        simp only [putAt] at h2
        split at h2
        · rename_i w2 b2
          cases h2
          rcases pathOff_cons h with hne | ⟨rfl, h9⟩
          · rw [updF_apply, if_neg (fun e => hne e.symm)] at b2
            refine ⟨.arr t n (updF f j w2), ?_, ?_⟩
            · simp only [putAt, b2]
            · simp only [putAt, updF_apply, if_neg hne, a2, updF_comm f i j w1 w2 hne]
          · rw [updF_apply, if_pos rfl] at b2
            obtain ⟨u', c1, c2⟩ := put_put_off p q (f i) w1 w2 x y h9 a2 b2
            refine ⟨.arr t n (updF f i u'), ?_, ?_⟩
            · simp only [putAt, c1]
            · simp only [putAt, updF_apply, if_pos, c2, updF_same]
        · cases h2
      · cases h1
    | _ => simp [putAt] at h1

theorem wr_spec {H H' : Heap} {b : Nat} {p : Path} {x : V} (h : H.wr b p x = some H') : ∃ t n f i q u, nth H b = some (t, .row true n f) ∧ p = i :: q ∧ putAt (f i) q x = some u ∧ H' = setNth H b (t, .row true n (updF f i u)) := by
  unfold Heap.wr at h
  split at h
  · rename_i t n f i q hb
    split at h
    · rename_i u hu; cases h; exact ⟨t, n, f, i, q, u, hb, rfl, hu, rfl⟩
    · cases h
  · cases h
theorem wr_mk {H : Heap} {b : Nat} {t : TypeId} {n : Nat} {f : Nat → V} {i : Nat} {q : Path} {x u : V} (hb : nth H b = some (t, .row true n f)) (hu : putAt (f i) q x = some u) : H.wr b (i :: q) x = some (setNth H b (t, .row true n (updF f i u))) := by
  simp only [Heap.wr, hb, hu]

theorem rd_wr_off {H H' : Heap} {b c : Nat} {p q : Path} {x : V} (h : H.wr c q x = some H') (hap : b ≠ c ∨ pathOff p q = true) : H'.rd b p = H.rd b p := by
  obtain ⟨t, n, f, i, q', u, hb, rfl, hu, rfl⟩ := wr_spec h
  by_cases e : b = c
  · subst e
    have hap := hap.resolve_left (fun h => h rfl)
    cases p with
    | nil => simp [pathOff] at hap
    | cons j p =>
      simp only [Heap.rd, nth_set_eq hb, hb]
      rw [updF_apply]
      rcases pathOff_cons hap with hne | ⟨rfl, h9⟩
      · rw [if_neg hne]
      · rw [if_pos rfl]; exact nav_put_off p q' (f j) u x h9 hu
  · simp only [Heap.rd, nth_set_ne _ _ _ _ (fun h => e h.symm)]

theorem wr_wr_off {H H1 H2 : Heap} {b c : Nat} {p q : Path} {x y : V} (h1 : H.wr b p x = some H1) (h2 : H1.wr c q y = some H2) (hap : b ≠ c ∨ pathOff p q = true) : ∃ H1', H.wr c q y = some H1' ∧ H1'.wr b p x = some H2 := by
  obtain ⟨t, n, f, i, p', u, hb, rfl, hu, rfl⟩ := wr_spec h1
  obtain ⟨t2, n2, f2, j, q', u2, hc, rfl, hu2, rfl⟩ := wr_spec h2
  by_cases e : b = c
  · subst e
    have hap := hap.resolve_left (fun h => h rfl)
    rw [nth_set_eq hb] at hc; cases hc
    rcases pathOff_cons hap with hne | ⟨rfl, h9⟩
    · rw [updF_apply, if_neg (fun e => hne e.symm)] at hu2
      refine ⟨_, wr_mk hb hu2, ?_⟩
      rw [wr_mk (nth_set_eq hb) (by rw [updF_apply, if_neg hne]; exact hu), setNth_same, setNth_same, updF_comm _ _ _ _ _ hne]
    · rw [updF_apply, if_pos rfl] at hu2
      obtain ⟨u', c1, c2⟩ := put_put_off p' q' (f i) u u2 x y h9 hu hu2
      refine ⟨_, wr_mk hb c1, ?_⟩
      rw [wr_mk (nth_set_eq hb) (by rw [updF_apply, if_pos rfl]; exact c2), setNth_same, setNth_same, updF_same, updF_same]
  · rw [nth_set_ne _ _ _ _ e] at hc
    refine ⟨_, wr_mk hc hu2, ?_⟩
    rw [wr_mk (by rw [nth_set_ne _ _ _ _ (fun h => e h.symm)]; exact hb) hu, setNth_comm _ _ _ _ _ e]

/-! Try# what an operation does to memory, by what it touches -/
theorem conEv_fp {c : Con} {vs : List V} {H : Heap} {p : Pre} {v : V} {H1 : Heap} {fp : FP} (h : conEv c vs H = some ⟨p, v, H1, fp⟩) :
    (fp = .none ∧ H1 = H ∧ ∀ H', conEv c vs H' = some ⟨p, v, H', .none⟩) ∨ (fp = .rdall ∧ H1 = H) ∨ fp = .all ∨ (H1 = H ∧ ∃ b q, fp = .rd b q ∧ ∀ H', H'.rd b q = H.rd b q → conEv c vs H' = some ⟨p, v, H', .rd b q⟩) ∨
      (fp = .mk H.length ∧ ∃ bl, H1 = H ++ bl ∧ ∀ H', H'.length = H.length → conEv c vs H' = some ⟨p, v, H' ++ bl, .mk H.length⟩) := by
  cases c with
  | pure F =>
    simp only [conEv] at h
    split at h
    · rename_i q u hq; cases h; exact .inl ⟨rfl, rfl, fun H' => by simp only [conEv, hq]⟩
    · cases h
  | read F =>
    simp only [conEv] at h
    split at h
    · cases h; exact .inr (.inl ⟨rfl, rfl⟩)
    · cases h
  | heap D =>
    simp only [conEv] at h
    split at h
    · cases h; exact .inr (.inr (.inl rfl))
    · cases h
  | mk F =>
    simp only [conEv] at h
    split at h
    · rename_i q u bl hq; cases h
      exact .inr (.inr (.inr (.inr ⟨rfl, bl, rfl, fun H' hl => by simp only [conEv, hq, hl]⟩)))
    · cases h
  | rdp F =>
    simp only [conEv] at h
    split at h
    · rename_i b q G hq
      split at h
      · rename_i u hu
        split at h
        · rename_i q2 u2 hG; cases h
          exact .inr (.inr (.inr (.inl ⟨rfl, b, q, rfl, fun H' hH => by simp only [conEv, hq, hH, hu, hG]⟩)))
        · cases h
      · cases h
    · cases h
  | inl ir np rs => simp [conEv] at h

/-- blocks set anew -/
def setAll : List (Nat × (TypeId × Blk)) → Heap → Heap
  | [], H => H
  | (b, x) :: l, H => setAll l (setNth H b x)

theorem inL_mem {b : Nat} {l : List Nat} (h : inL b l = false) : b ∉ l := fun hm => by
  have : inL b l = true := List.any_eq_true.2 ⟨b, hm, Nat.beq_refl b⟩
  rw [h] at this; cases this

theorem setAll_ne : ∀ {l : List (Nat × (TypeId × Blk))} {H : Heap} {b : Nat}, b ∉ l.map Prod.fst → nth (setAll l H) b = nth H b
  | [], _, _, _ => rfl
  | (c, x) :: l, H, b, h => by
    simp only [List.map_cons, List.mem_cons, not_or] at h
    simp only [setAll]
    rw [setAll_ne h.2, nth_set_ne _ _ _ _ (fun e => h.1 e.symm)]

theorem setAll_set : ∀ {l : List (Nat × (TypeId × Blk))} {H : Heap} {b : Nat} {y : TypeId × Blk}, b ∉ l.map Prod.fst → setNth (setAll l H) b y = setAll l (setNth H b y)
  | [], _, _, _, _ => rfl
  | (c, x) :: l, H, b, y, h => by
    simp only [List.map_cons, List.mem_cons, not_or] at h
    simp only [setAll]
    rw [setAll_set h.2, setNth_comm _ _ _ _ _ (fun e => h.1 e.symm)]

theorem setAll_comm : ∀ {l m : List (Nat × (TypeId × Blk))} {H : Heap}, (∀ b ∈ l.map Prod.fst, b ∉ m.map Prod.fst) → setAll l (setAll m H) = setAll m (setAll l H)
  | [], m, H, _ => rfl
  | (c, x) :: l, m, H, h => by
    simp only [setAll]
    rw [setAll_set (h c (by simp)), setAll_comm (fun b hb => h b (by simp only [List.map_cons, List.mem_cons]; exact .inr hb))]

theorem wr_setAll {l : List (Nat × (TypeId × Blk))} {H H1 : Heap} {b : Nat} {q : Path} {u : V} (h : H.wr b q u = some H1) (hb : b ∉ l.map Prod.fst) : (setAll l H).wr b q u = some (setAll l H1) := by
  obtain ⟨t, n, f, i, q', u2, h1, rfl, h2, rfl⟩ := wr_spec h
  rw [wr_mk (by rw [setAll_ne hb]; exact h1) h2, setAll_set hb]

inductive Eff (Γ : List (Nat × Con)) (base : Nat) (o : Op1) (E : Env) (H : Heap) (p : Pre) (v : V) (H1 : Heap) : FP → Prop where
  | none : H1 = H → (∀ H', o.ev Γ base E H' = some ⟨p, v, H', .none⟩) → Eff Γ base o E H p v H1 .none
  | ex (b : Nat) : H1 = H → isRow (nth H b) = true → (∀ H', isRow (nth H' b) = true → o.ev Γ base E H' = some ⟨p, v, H', .ex b⟩) → Eff Γ base o E H p v H1 (.ex b)
  | rd (b : Nat) (q : Path) : H1 = H → (∀ H', H'.rd b q = H.rd b q → o.ev Γ base E H' = some ⟨p, v, H', .rd b q⟩) → Eff Γ base o E H p v H1 (.rd b q)
  | st (b : Nat) (q : Path) (u : V) : H.wr b q u = some H1 → (∀ H' H1', H'.wr b q u = some H1' → o.ev Γ base E H' = some ⟨p, v, H1', .wr b q⟩) → Eff Γ base o E H p v H1 (.wr b q)
  | al (b : Nat) (t0 : TypeId) (x : TypeId × Blk) : nth H b = some (t0, .free) → isRow (some x) = true → H1 = setNth H b x → (∀ H' t', nth H' b = some (t', .free) → o.ev Γ base E H' = some ⟨p, v, setNth H' b x, .wr b []⟩) → Eff Γ base o E H p v H1 (.wr b [])
  | rdall : H1 = H → Eff Γ base o E H p v H1 .rdall
  | all : Eff Γ base o E H p v H1 .all
  | mk (bl : Heap) : H1 = H ++ bl → (∀ H', H'.length = H.length → o.ev Γ base E H' = some ⟨p, v, H' ++ bl, .mk H.length⟩) → Eff Γ base o E H p v H1 (.mk H.length)
  | sets (ups : List (Nat × (TypeId × Blk))) (rs : List Nat) : H1 = setAll ups H → (∀ b ∈ ups.map Prod.fst, b ∈ rs) → (∀ H', (∀ b ∈ rs, nth H' b = nth H b) → o.ev Γ base E H' = some ⟨p, v, setAll ups H', .sets (ups.map Prod.fst) rs⟩) → Eff Γ base o E H p v H1 (.sets (ups.map Prod.fst) rs)

theorem eff {Γ : List (Nat × Con)} {base : Nat} {o : Op1} {E : Env} {H : Heap} {p : Pre} {v : V} {H1 : Heap} {fp : FP} (h : o.ev Γ base E H = some ⟨p, v, H1, fp⟩) : Eff Γ base o E H p v H1 fp := by
  have con : ∀ {c : Con} {vs : List V}, conEv c vs H = some ⟨p, v, H1, fp⟩ → (∀ H', o.ev Γ base E H' = conEv c vs H') → Eff Γ base o E H p v H1 fp := by
    intro c vs hc ho
    rcases conEv_fp hc with ⟨rfl, rfl, h3⟩ | ⟨rfl, rfl⟩ | rfl | ⟨rfl, b, q, rfl, h3⟩ | ⟨rfl, bl, rfl, h3⟩
    · exact .none rfl (fun H' => by rw [ho, h3])
    · exact .rdall rfl
    · exact .all
    · exact .rd b q rfl (fun H' hH => by rw [ho, h3 H' hH])
    · exact .mk bl rfl (fun H' hl => by rw [ho, h3 H' hl])
  cases o with
  | alloc s t z =>
    simp only [Op1.ev] at h
    split at h
    · rename_i t0 hb; cases h
      exact .al _ t0 _ hb rfl rfl (fun H' t' hb' => by simp only [Op1.ev, hb'])
    · cases h
  | box s t tk x =>
    simp only [Op1.ev] at h
    split at h
    · rename_i t0 u hb hu
      cases hc : tagB t tk u <;> simp only [hc, cond_true, cond_false] at h
      · cases h
      · cases h
        exact .al _ t0 _ hb rfl rfl (fun H' t' hb' => by simp only [Op1.ev, hb', hu, hc, cond_true])
    · cases h
  | load t x =>
    simp only [Op1.ev] at h
    split at h
    · rename_i b off q t' hx
      cases hc : Nat.beq t t' <;> simp only [hc, cond_true, cond_false] at h
      · cases h
      · split at h
        · rename_i u hu; cases h
          exact .rd b q rfl (fun H' hH => by simp only [Op1.ev, hx, hc, cond_true, hH, hu])
        · cases h
    · cases h
  | store t tk x y =>
    simp only [Op1.ev] at h
    split at h
    · rename_i b off q t' u hx hy
      cases hc : (Nat.beq t t' && tagB t tk u) <;> simp only [hc, cond_true, cond_false] at h
      · cases h
      · split at h
        · rename_i H2 hw; cases h
          exact .st b q u hw (fun H' H1' hw' => by simp only [Op1.ev, hx, hy, hc, cond_true, hw'])
        · cases h
    · cases h
  | slAddr et es x i =>
    simp only [Op1.ev] at h
    split at h
    · rename_i b bs off pre start ln cap t' k z hx hi
      cases hc : Nat.beq et t' <;> cases hr : isRow (nth H b) <;> simp only [hc, hr, Bool.and_true, Bool.and_false, Bool.and_self, cond_true, cond_false] at h <;> try cases h
      exact .ex b rfl hr (fun H' hr' => by simp only [Op1.ev, hx, hi, hc, hr', Bool.and_self, cond_true])
    · cases h
  | call f l =>
    simp only [Op1.ev] at h
    split at h
    · rename_i vs c h1 h2; exact con h (fun H' => by simp only [Op1.ev, h1, h2])
    · cases h
  | callv x l =>
    simp only [Op1.ev] at h
    split at h
    · rename_i f va vc vs h1 h2
      split at h
      · rename_i c h3; exact con h (fun H' => by simp only [Op1.ev, h1, h2, h3])
      · cases h
    · cases h
  | bslice s t n tk z ps =>
    simp only [Op1.ev] at h
    split at h
    · rename_i t0 vs hb hvs
      cases hc : tagsB true [(t, tk)] vs <;> simp only [hc, cond_true, cond_false] at h
      · cases h
      · cases h
        exact .al _ t0 _ hb rfl rfl (fun H' t' hb' => by simp only [Op1.ev, hb', hvs, hc, cond_true])
    · cases h
  | mslice s t bytes z l c =>
    simp only [Op1.ev] at h
    split at h
    · rename_i t0 kl ln kc cn hb e1 e2
      cases h
      exact .al _ t0 _ hb rfl rfl (fun H' t' hb' => by simp only [Op1.ev, hb', e1, e2])
    · cases h
  | slc t es x lo hi =>
    simp only [Op1.ev] at h
    split at h
    · rename_i b bs off pre st n cap t' lv hv e1 e2 e3
      split at h
      · rename_i lz hz b1 b2
        cases hc : Nat.beq t t' <;> cases hr : isRow (nth H b) <;> simp only [hc, hr, Bool.and_true, Bool.and_false, Bool.and_self, cond_true, cond_false] at h <;> try cases h
        exact .ex b rfl hr (fun H' hr' => by simp only [Op1.ev, e1, e2, e3, b1, b2, hc, hr', Bool.and_self, cond_true])
      · cases h
    · cases h
  | append s t bytes x y =>
    simp only [Op1.ev] at h
    split at h
    · rename_i c bs off st k cap t' hs hx hy
      split at h
      · rename_i t'' rw' m g hc
        cases hb : (Nat.beq t t' && Nat.beq t t'') <;> simp only [hb, cond_true, cond_false] at h
        · cases h
        · cases h
          refine .sets [(base + s, (t, .row true k (catF 0 (fun _ => .nils) st g)))] [base + s, c] rfl (by simp) (fun H' hH => ?_)
          have e1 := hH (base + s) (by simp)
          have e2 := hH c (by simp)
          rw [hs] at e1; rw [hc] at e2
          simp only [Op1.ev, hx, hy, e1, e2, hb, cond_true]; rfl
      · cases h
    · rename_i b off n tx c bs off' st k cap t' hs hx hy
      split at h
      · rename_i ty m f t'' rw' m' g hb hc
        cases hq : (Nat.beq t t' && Nat.beq t t'' && Nat.beq t tx && Nat.beq t ty) <;> simp only [hq, cond_true, cond_false] at h
        · cases h
        · cases h
          refine .sets [(b, (t, .gone)), (base + s, (t, .row true (n + k) (catF n f st g)))] [b, base + s, c] rfl (by simp) (fun H' hH => ?_)
          have e0 := hH b (by simp)
          have e1 := hH (base + s) (by simp)
          have e2 := hH c (by simp)
          rw [hb] at e0; rw [hs] at e1; rw [hc] at e2
          simp only [Op1.ev, hx, hy, e0, e1, e2, hq, cond_true]; rfl
      · cases h
    · cases h
  | tassert t z x =>
    simp only [Op1.ev] at h
    split at h
    · rename_i t' v hx
      cases h
      exact .none rfl (fun H' => by simp only [Op1.ev, hx])
    · cases h
  | len str x =>
    simp only [Op1.ev] at h
    split at h
    · rename_i hx; cases h; exact .none rfl (fun H' => by simp only [Op1.ev, hx])
    · rename_i b bs off pre st n cap t hx
      cases hr : isRow (nth H b) <;> simp only [hr, cond_true, cond_false] at h
      · cases h
      · cases h
        exact .ex b rfl hr (fun H' hr' => by simp only [Op1.ev, hx, hr', cond_true])
    · rename_i s hx; cases h; exact .none rfl (fun H' => by simp only [Op1.ev, hx])
    · cases h
  | mn x y =>
    simp only [Op1.ev] at h
    split at h
    · rename_i k m k' n hx hy
      cases hc : kb k k' <;> simp only [hc, cond_true, cond_false] at h
      · cases h
      · cases h
        exact .none rfl (fun H' => by simp only [Op1.ev, hx, hy, hc, cond_true])
    · cases h
  | mx x y =>
    simp only [Op1.ev] at h
    split at h
    · rename_i k m k' n hx hy
      cases hc : kb k k' <;> simp only [hc, cond_true, cond_false] at h
      · cases h
      · cases h
        exact .none rfl (fun H' => by simp only [Op1.ev, hx, hy, hc, cond_true])
    · cases h
  | _ =>
    simp only [Op1.ev, Bool.cond_eq_ite] at h
    repeat' (first | (cases h; done) | (split at h))
    all_goals first
      | (cases h; done)
      | (cases h; refine .none rfl (fun H' => ?_); simp_all [Op1.ev, Bool.cond_eq_ite]; done)

/-! Try# one step, and two in the other order -/
inductive Stp (Γ : List (Nat × Con)) (base : Nat) (o : Opr) (E : Env) (H : Heap) : Env → Heap → FP → Prop where
  | op {p : Pre} {v : V} {H1 : Heap} {fp : FP} : (∀ g want, o.guard = some (g, want) → lk E g = some (.bool want)) → o.op.ev Γ base E H = some ⟨p, v, H1, fp⟩ → Pre.ok p → Stp Γ base o E H (bindD E o.dst v) H1 fp
  | skip {g : Nat} {want : Bool} : o.guard = some (g, want) → (lk E g = some (.bool (!want)) ∨ lk E g = some (.tup [])) → Stp Γ base o E H (bindD E o.dst (.tup [])) H .none

def EqE (E E' : Env) : Prop := ∀ t, lk E t = lk E' t

/-- neither sees the other's slot -/
def indep (x y : Opr) : Bool :=
  (match x.dst with
   | some d => !y.uses.contains d && y.dst != some d
   | none => true) &&
  (match y.dst with
   | some d => !x.uses.contains d
   | none => true)

theorem indep_spec {x y : Opr} (h : indep x y = true) : (∀ d, x.dst = some d → d ∉ y.uses) ∧ (∀ d, y.dst = some d → d ∉ x.uses) ∧ (∀ d, x.dst = some d → y.dst ≠ some d) := by
  unfold indep at h
  rw [Bool.and_eq_true] at h
  refine ⟨fun d hd => ?_, fun d hd => ?_, fun d hd => ?_⟩
  · have := h.1; rw [hd] at this; simp at this; exact this.1
  · have := h.2; rw [hd] at this; simpa using this
  · have := h.1; rw [hd] at this; simp at this; exact this.2

theorem lk_bindD {E : Env} {d : Option Nat} {v : V} {t : Nat} (h : ∀ x, d = some x → x ≠ t) : lk (bindD E d v) t = lk E t := by
  cases d with
  | none => rfl
  | some x => simp only [bindD]; rw [lk_cons, if_neg (h x rfl)]

theorem EqE.bindD {E E' : Env} (h : EqE E E') (d : Option Nat) (v : V) : EqE (bindD E d v) (bindD E' d v) := by
  cases d with
  | none => exact h
  | some x => intro t; simp only [Dd.bindD]; rw [lk_cons, lk_cons, h t]

theorem bindD_comm (E : Env) {d e : Option Nat} (v u : V) (h : ∀ x, d = some x → e ≠ some x) : EqE (bindD (bindD E d v) e u) (bindD (bindD E e u) d v) := by
  cases d with
  | none => exact fun _ => rfl
  | some x =>
    cases e with
    | none => exact fun _ => rfl
    | some y =>
      have hne : y ≠ x := fun e => h x rfl (by rw [e])
      intro t
      simp only [bindD, lk_cons]
      by_cases h1 : x = t
      · subst h1; simp [hne]
      · simp [h1]

theorem uses_op {o : Opr} {t : Nat} (h : t ∈ o.op.uses) : t ∈ o.uses := List.mem_append.2 (.inr h)
theorem uses_guard {o : Opr} {g : Nat} {want : Bool} (h : o.guard = some (g, want)) : g ∈ o.uses := List.mem_append.2 (.inl (by simp [h]))

/-- a step from another state, in which what it asks of the slots is the same -/
theorem Stp.env {Γ : List (Nat × Con)} {base : Nat} {o : Opr} {E E1 E' : Env} {H H1 : Heap} {fp : FP} (h : Stp Γ base o E H E1 H1 fp) (hE : ∀ t ∈ o.uses, lk E t = lk E' t) :
    ∃ v, E1 = bindD E o.dst v ∧ Stp Γ base o E' H (bindD E' o.dst v) H1 fp := by
  cases h with
  | @op p v H1 fp hg he hp =>
    refine ⟨v, rfl, .op (fun g want hgd => ?_) ?_ hp⟩
    · rw [← hE g (uses_guard hgd)]; exact hg g want hgd
    · rw [← ev_local (fun t ht => hE t (uses_op ht))]; exact he
  | skip hg hl => exact ⟨_, rfl, .skip hg (by rw [← hE _ (uses_guard hg)]; exact hl)⟩

theorem isRow_set {H : Heap} {b c : Nat} {x : TypeId × Blk} {y : TypeId × Blk} (hy : nth H c = some y) (hx : isRow (some x) = isRow (some y)) : isRow (nth (setNth H c x) b) = isRow (nth H b) := by
  rw [nth_setNth _ _ _ _ _ hy]
  split
  · rename_i e; subst e; rw [hy, hx]
  · rfl

theorem okB_none_l (y : FP) : FP.okB .none y = true := by cases y <;> rfl

theorem setNth_len {α : Type} : ∀ (l : List α) (i : Nat) (x : α), (setNth l i x).length = l.length
  | [], i, x => by cases i <;> rfl
  | a :: l, 0, x => rfl
  | a :: l, i + 1, x => by simp [setNth, setNth_len l i x]
theorem setNth_app {α : Type} : ∀ (l m : List α) (i : Nat) (x : α), i < l.length → setNth (l ++ m) i x = setNth l i x ++ m
  | [], m, i, x, h => by simp at h
  | a :: l, m, 0, x, h => rfl
  | a :: l, m, i + 1, x, h => by simp only [List.cons_append, setNth, setNth_app l m i x (by simpa using h)]

/-- two steps that touch nothing in common, in the other order -/
theorem swap {Γ : List (Nat × Con)} {base : Nat} {x y : Opr} {E E1 E2 : Env} {H H1 H2 : Heap} {fx fy : FP} (hx : Stp Γ base x E H E1 H1 fx) (hy : Stp Γ base y E1 H1 E2 H2 fy) (hi : indep x y = true) (hok : FP.okB fx fy = true) :
    ∃ E1' H1' E2', Stp Γ base y E H E1' H1' fy ∧ Stp Γ base x E1' H1' E2' H2 fx ∧ EqE E2' E2 := by
  obtain ⟨i1, i2, i3⟩ := indep_spec hi
  -- what each asks of the slots is the same in the other order
  have sx : ∀ {v : V} {E1 : Env}, E1 = bindD E x.dst v → ∀ t ∈ y.uses, lk E1 t = lk E t := by
    rintro v _ rfl t ht; exact lk_bindD (fun d hd e => i1 d hd (e ▸ ht))
  have sy : ∀ (u : V), ∀ t ∈ x.uses, lk E t = lk (bindD E y.dst u) t := fun u t ht => (lk_bindD (fun d hd e => i2 d hd (e ▸ ht))).symm
  obtain ⟨vx, ex, _⟩ := hx.env (E' := E) (fun _ _ => rfl)
  obtain ⟨vy, ey, hy'⟩ := hy.env (E' := E) (sx ex)
  -- enough: the steps in the other order, by memory alone
  suffices key : ∃ H1', Stp Γ base y E H (bindD E y.dst vy) H1' fy ∧ Stp Γ base x (bindD E y.dst vy) H1' (bindD (bindD E y.dst vy) x.dst vx) H2 fx by
    obtain ⟨H1', a, b⟩ := key
    refine ⟨_, H1', _, a, b, ?_⟩
    rw [ey, ex]
    exact fun t => (bindD_comm E vx vy (fun d hd e => i3 d hd e) t).symm
  have reE : ∀ {o : Opr} {E : Env} {v v' : V}, bindD E o.dst v = bindD E o.dst v' → bindD E o.dst v = bindD E o.dst v' := fun h => h
  cases hx with
  | skip hg hl =>
    have hb : ∀ u, Stp Γ base x (bindD E y.dst u) H2 (bindD (bindD E y.dst u) x.dst (.tup [])) H2 .none := fun u => .skip hg (by rw [← sy u _ (uses_guard hg)]; exact hl)
    refine ⟨H2, hy', ?_⟩
    cases hd : x.dst with
    | none => have := hb vy; rw [hd] at this; exact this
    | some d =>
      rw [hd] at ex; simp only [bindD, List.cons.injEq, Prod.mk.injEq] at ex
      have := hb vy; rw [hd, ex.1.2] at this; exact this
  | @op p v H1 fx hg he hp =>
    have hv : bindD E x.dst v = bindD E x.dst vx := ex
    have xrun : ∀ {u : V} {Ha Hb : Heap}, x.op.ev Γ base E Ha = some ⟨p, v, Hb, fx⟩ → Stp Γ base x (bindD E y.dst u) Ha (bindD (bindD E y.dst u) x.dst vx) Hb fx := by
      intro u Ha Hb h
      have h' : x.op.ev Γ base (bindD E y.dst u) Ha = some ⟨p, v, Hb, fx⟩ := by rw [← ev_local (fun t ht => sy u t (uses_op ht))]; exact h
      have := Stp.op (Γ := Γ) (base := base) (o := x) (E := bindD E y.dst u) (fun g want hgd => by rw [← sy u _ (uses_guard hgd)]; exact hg g want hgd) h' hp
      cases hd : x.dst with
      | none => rw [hd] at this; exact this
      | some d =>
        rw [hd] at hv; simp only [bindD, List.cons.injEq, Prod.mk.injEq] at hv
        rw [hd, hv.1.2] at this; exact this
    have effx := eff he
    generalize bindD E y.dst vy = E3 at hy' ⊢
    cases hy' with
    | skip hgy hly =>
      refine ⟨H, ?_, xrun he⟩
      have : Stp Γ base y E H (bindD E y.dst (.tup [])) H .none := .skip hgy hly
      exact this
    | @op q u H2 fy hgy hey hq =>
      have yrun : ∀ {Ha Hb : Heap}, y.op.ev Γ base E Ha = some ⟨q, u, Hb, fy⟩ → Stp Γ base y E Ha (bindD E y.dst u) Hb fy := fun h => .op hgy h hq
      have effy := eff hey
      cases effx with
      | none h1 h2 => subst h1; exact ⟨_, yrun hey, xrun (h2 _)⟩
      | ex b h1 h0 h2 =>
        subst h1
        cases effy with
        | none k1 k2 => subst k1; exact ⟨_, yrun (k2 _), xrun (h2 _ h0)⟩
        | ex c k1 k0 k2 => subst k1; exact ⟨_, yrun hey, xrun (h2 _ h0)⟩
        | rd c r k1 k2 => subst k1; exact ⟨_, yrun hey, xrun (h2 _ h0)⟩
        | rdall k1 => subst k1; exact ⟨_, yrun hey, xrun (h2 _ h0)⟩
        | st c r u' k1 k2 =>
          refine ⟨_, yrun hey, xrun (h2 _ ?_)⟩
          obtain ⟨t, n, f, i, q', u2, hb, _, _, rfl⟩ := wr_spec k1
          rw [isRow_set (x := (t, .row true n (updF f i u2))) hb rfl]; exact h0
        | al c t0 z k0 k1 k2 k3 =>
          refine ⟨_, yrun hey, xrun (h2 _ ?_)⟩
          subst k2
          rw [nth_setNth _ _ _ _ _ k0]
          split
          · exact k1
          · exact h0
        | all => cases hok
        | mk bl k1 k2 => cases hok
        | sets ups rs k1 k2 k3 =>
          subst k1
          simp only [FP.okB, Bool.not_eq_true'] at hok
          exact ⟨_, yrun hey, xrun (h2 _ (by rw [setAll_ne (inL_mem hok)]; exact h0))⟩
      | rd b r h1 h2 =>
        subst h1
        cases effy with
        | none k1 k2 => subst k1; exact ⟨_, yrun (k2 _), xrun (h2 _ rfl)⟩
        | ex c k1 k0 k2 => subst k1; exact ⟨_, yrun hey, xrun (h2 _ rfl)⟩
        | rd c r' k1 k2 => subst k1; exact ⟨_, yrun hey, xrun (h2 _ rfl)⟩
        | rdall k1 => subst k1; exact ⟨_, yrun hey, xrun (h2 _ rfl)⟩
        | st c r' u' k1 k2 =>
          refine ⟨_, yrun hey, xrun (h2 _ (rd_wr_off k1 ?_))⟩
          simp only [FP.okB, Bool.or_eq_true, Bool.not_eq_true'] at hok
          exact hok.imp (fun h e => by subst e; simp at h) id
        | al c t0 z k0 k1 k2 k3 =>
          refine ⟨_, yrun hey, xrun (h2 _ ?_)⟩
          subst k2
          have hne : b ≠ c := by
            simp only [FP.okB, Bool.or_eq_true, Bool.not_eq_true'] at hok
            rcases hok with h | h
            · exact fun e => by subst e; simp at h
            · cases r <;> simp [pathOff] at h
          simp only [Heap.rd, nth_set_ne _ _ _ _ (fun h => hne h.symm)]
        | all => cases hok
        | mk bl k1 k2 => cases hok
        | sets ups rs k1 k2 k3 =>
          subst k1
          simp only [FP.okB, Bool.not_eq_true'] at hok
          exact ⟨_, yrun hey, xrun (h2 _ (by simp only [Heap.rd, setAll_ne (inL_mem hok)]))⟩
      | rdall h1 =>
        subst h1
        cases effy with
        | none k1 k2 => subst k1; exact ⟨_, yrun (k2 _), xrun he⟩
        | ex c k1 k0 k2 => subst k1; exact ⟨_, yrun hey, xrun he⟩
        | rd c r' k1 k2 => subst k1; exact ⟨_, yrun hey, xrun he⟩
        | rdall k1 => subst k1; exact ⟨_, yrun hey, xrun he⟩
        | st c r' u' k1 k2 => cases hok
        | al c t0 z k0 k1 k2 k3 => cases hok
        | all => cases hok
        | mk bl k1 k2 => cases hok
        | sets ups rs k1 k2 k3 => cases hok
      | st b r ux h1 h2 =>
        cases effy with
        | none k1 k2 => subst k1; exact ⟨_, yrun (k2 _), xrun he⟩
        | ex c k1 k0 k2 =>
          subst k1
          obtain ⟨t, n, f, i, q', u2, hb, _, _, rfl⟩ := wr_spec h1
          rw [isRow_set (x := (t, .row true n (updF f i u2))) hb rfl] at k0
          exact ⟨_, yrun (k2 _ k0), xrun he⟩
        | rd c r' k1 k2 =>
          subst k1
          refine ⟨_, yrun (k2 _ ?_), xrun he⟩
          refine (rd_wr_off h1 ?_).symm
          simp only [FP.okB, Bool.or_eq_true, Bool.not_eq_true'] at hok
          exact hok.imp (fun h e => by subst e; simp at h) pathOff_symm
        | rdall k1 => cases hok
        | st c r' u' k1 k2 =>
          simp only [FP.okB, Bool.or_eq_true, Bool.not_eq_true'] at hok
          obtain ⟨H1', a, b⟩ := wr_wr_off h1 k1 (hok.imp (fun h e => by subst e; simp at h) id)
          exact ⟨H1', yrun (k2 _ _ a), xrun (h2 _ _ b)⟩
        | al c t0 z k0 k1 k2 k3 =>
          obtain ⟨t, n, f, i, q', u2, hb, rfl, hu2, rfl⟩ := wr_spec h1
          have hne : b ≠ c := by
            rintro rfl
            rw [nth_set_eq hb] at k0; cases k0
          rw [nth_set_ne _ _ _ _ hne] at k0
          subst k2
          refine ⟨_, yrun (k3 _ _ k0), xrun (h2 _ _ ?_)⟩
          rw [wr_mk (by rw [nth_set_ne _ _ _ _ (fun e => hne e.symm)]; exact hb) hu2, setNth_comm _ _ _ _ _ hne]
        | all => cases hok
        | mk bl k1 k2 => cases hok
        | sets ups rs k1 k2 k3 =>
          subst k1
          simp only [FP.okB, Bool.and_eq_true, Bool.not_eq_true'] at hok
          have hbr := inL_mem hok.2
          obtain ⟨t, n, f, i, q', u2, hb, _, _, he⟩ := wr_spec h1
          refine ⟨_, yrun (k3 _ (fun c hc => ?_)), xrun (h2 _ _ (wr_setAll h1 (inL_mem hok.1)))⟩
          rw [he, nth_set_ne _ _ _ _ (by rintro rfl; exact hbr hc)]
      | al b t0 z h0 h1 h2 h3 =>
        cases effy with
        | none k1 k2 => subst k1; exact ⟨_, yrun (k2 _), xrun he⟩
        | ex c k1 k0 k2 =>
          subst k1; subst h2
          have hne : c ≠ b := by
            simp only [FP.okB, List.isEmpty_nil, Bool.not_true, Bool.or_false, Bool.not_eq_true'] at hok
            exact fun e => by subst e; simp at hok
          rw [nth_set_ne _ _ _ _ (fun e => hne e.symm)] at k0
          exact ⟨_, yrun (k2 _ k0), xrun he⟩
        | rd c r' k1 k2 =>
          subst k1; subst h2
          have hne : b ≠ c := by
            simp only [FP.okB, Bool.or_eq_true, Bool.not_eq_true'] at hok
            rcases hok with h | h
            · exact fun e => by subst e; simp at h
            · simp [pathOff] at h
          refine ⟨_, yrun (k2 _ ?_), xrun he⟩
          simp only [Heap.rd, nth_set_ne _ _ _ _ hne]
        | rdall k1 => cases hok
        | st c r' u' k1 k2 =>
          subst h2
          obtain ⟨t, n, f, i, q', u2, hb, rfl, hu2, rfl⟩ := wr_spec k1
          have hne : b ≠ c := by
            simp only [FP.okB, Bool.or_eq_true, Bool.not_eq_true'] at hok
            rcases hok with h | h
            · exact fun e => by subst e; simp at h
            · simp [pathOff] at h
          rw [nth_set_ne _ _ _ _ hne] at hb
          refine ⟨_, yrun (k2 _ _ (wr_mk hb hu2)), ?_⟩
          have := h3 (setNth H c (t, .row true n (updF f i u2))) t0 (by rw [nth_set_ne _ _ _ _ (fun e => hne e.symm)]; exact h0)
          rw [setNth_comm _ _ _ _ _ (fun e => hne e.symm)] at this
          exact xrun this
        | al c t1 z' k0 k1 k2 k3 =>
          subst h2; subst k2
          have hne : b ≠ c := by
            simp only [FP.okB, Bool.or_eq_true, Bool.not_eq_true'] at hok
            rcases hok with h | h
            · exact fun e => by subst e; simp at h
            · simp [pathOff] at h
          rw [nth_set_ne _ _ _ _ hne] at k0
          refine ⟨_, yrun (k3 _ _ k0), ?_⟩
          have := h3 (setNth H c z') t0 (by rw [nth_set_ne _ _ _ _ (fun e => hne e.symm)]; exact h0)
          rw [setNth_comm _ _ _ _ _ (fun e => hne e.symm)] at this
          exact xrun this
        | all => cases hok
        | mk bl k1 k2 => cases hok
        | sets ups rs k1 k2 k3 =>
          subst h2; subst k1
          simp only [FP.okB, Bool.and_eq_true, Bool.not_eq_true'] at hok
          have hbr := inL_mem hok.2
          refine ⟨_, yrun (k3 _ (fun c hc => ?_)), ?_⟩
          · rw [nth_set_ne _ _ _ _ (by rintro rfl; exact hbr hc)]
          · have := h3 (setAll ups H) t0 (by rw [setAll_ne (inL_mem hok.1)]; exact h0)
            rw [setAll_set (inL_mem hok.1)] at this
            exact xrun this
      | all =>
        cases effy with
        | none k1 k2 => subst k1; exact ⟨_, yrun (k2 _), xrun he⟩
        | _ => cases hok
      | mk bl h1 h2 =>
        subst h1
        have app : ∀ c, c < H.length → nth (H ++ bl) c = nth H c := fun c hc => by rw [nth_append, if_pos hc]
        cases effy with
        | none k1 k2 => subst k1; exact ⟨_, yrun (k2 _), xrun he⟩
        | ex c k1 k0 k2 =>
          subst k1
          have hc : c < H.length := by simpa [FP.okB] using hok
          rw [app c hc] at k0
          exact ⟨_, yrun (k2 _ k0), xrun he⟩
        | rd c r k1 k2 =>
          subst k1
          have hc : c < H.length := by simpa [FP.okB] using hok
          exact ⟨_, yrun (k2 _ (by simp only [Heap.rd, app c hc])), xrun he⟩
        | st c r u' k1 k2 =>
          have hc : c < H.length := by simpa [FP.okB] using hok
          obtain ⟨t, n, f, i, q', u2, hb, rfl, hu2, rfl⟩ := wr_spec k1
          rw [app c hc] at hb
          refine ⟨_, yrun (k2 _ _ (wr_mk hb hu2)), ?_⟩
          have := h2 (setNth H c (t, .row true n (updF f i u2))) (setNth_len _ _ _)
          rw [← setNth_app _ _ _ _ hc] at this
          exact xrun this
        | al c t0 z k0 k1 k2 k3 =>
          have hc : c < H.length := by simpa [FP.okB] using hok
          subst k2
          rw [app c hc] at k0
          refine ⟨_, yrun (k3 _ _ k0), ?_⟩
          have := h2 (setNth H c z) (setNth_len _ _ _)
          rw [← setNth_app _ _ _ _ hc] at this
          exact xrun this
        | _ => cases hok
      | sets ups rs h1 h2 h3 =>
        subst h1
        cases effy with
        | none k1 k2 => subst k1; exact ⟨_, yrun (k2 _), xrun he⟩
        | ex c k1 k0 k2 =>
          subst k1
          simp only [FP.okB, Bool.not_eq_true'] at hok
          rw [setAll_ne (inL_mem hok)] at k0
          exact ⟨_, yrun (k2 _ k0), xrun he⟩
        | rd c r k1 k2 =>
          subst k1
          simp only [FP.okB, Bool.not_eq_true'] at hok
          exact ⟨_, yrun (k2 _ (by simp only [Heap.rd, setAll_ne (inL_mem hok)])), xrun he⟩
        | rdall k1 => cases hok
        | st c r u' k1 k2 =>
          simp only [FP.okB, Bool.and_eq_true, Bool.not_eq_true'] at hok
          have hcr := inL_mem hok.2
          obtain ⟨t, n, f, i, q', u2, hb, rfl, hu2, rfl⟩ := wr_spec k1
          rw [setAll_ne (inL_mem hok.1)] at hb
          refine ⟨_, yrun (k2 _ _ (wr_mk hb hu2)), ?_⟩
          rw [setAll_set (inL_mem hok.1)]
          exact xrun (h3 _ (fun d hd => by rw [nth_set_ne _ _ _ _ (by rintro rfl; exact hcr hd)]))
        | al c t0 z k0 k1 k2 k3 =>
          simp only [FP.okB, Bool.and_eq_true, Bool.not_eq_true'] at hok
          have hcr := inL_mem hok.2
          rw [setAll_ne (inL_mem hok.1)] at k0
          subst k2
          refine ⟨_, yrun (k3 _ _ k0), ?_⟩
          rw [setAll_set (inL_mem hok.1)]
          exact xrun (h3 _ (fun d hd => by rw [nth_set_ne _ _ _ _ (by rintro rfl; exact hcr hd)]))
        | all => cases hok
        | mk bl k1 k2 => cases hok
        | sets vps rs' k1 k2 k3 =>
          subst k1
          simp only [FP.okB, Bool.and_eq_true, List.all_eq_true, Bool.not_eq_true'] at hok
          have d1 : ∀ b ∈ ups.map Prod.fst, b ∉ rs' := fun b hb => inL_mem (hok.1 b hb)
          have d2 : ∀ b ∈ vps.map Prod.fst, b ∉ rs := fun b hb => inL_mem (hok.2 b hb)
          refine ⟨_, yrun (k3 H (fun b hb => ?_)), ?_⟩
          · rw [setAll_ne (fun h => d1 b h hb)]
          · rw [setAll_comm (fun b hb h => d2 b hb (h2 b h))]
            exact xrun (h3 _ (fun b hb => by rw [setAll_ne (fun h => d2 b h hb)]))

/-! Try# a run of the operations in some order -/
inductive DR (Γ : List (Nat × Con)) (base : Nat) (oprs : List Opr) (fpf : Nat → FP) : List Nat → Env → Heap → Env → Heap → Prop where
  | nil {E : Env} {H : Heap} : DR Γ base oprs fpf [] E H E H
  | cons {i : Nat} {l : List Nat} {o : Opr} {E E1 E' : Env} {H H1 H' : Heap} : nth oprs i = some o → Stp Γ base o E H E1 H1 (fpf i) → DR Γ base oprs fpf l E1 H1 E' H' → DR Γ base oprs fpf (i :: l) E H E' H'

theorem EqE.refl (E : Env) : EqE E E := fun _ => rfl
theorem EqE.symm {E E' : Env} (h : EqE E E') : EqE E' E := fun t => (h t).symm
theorem EqE.trans {E E' E'' : Env} (h : EqE E E') (k : EqE E' E'') : EqE E E'' := fun t => (h t).trans (k t)

theorem DR.env {Γ : List (Nat × Con)} {base : Nat} {oprs : List Opr} {fpf : Nat → FP} {l : List Nat} {E E1 : Env} {H H1 : Heap} (h : DR Γ base oprs fpf l E H E1 H1) : ∀ {E' : Env}, EqE E E' → ∃ E1', DR Γ base oprs fpf l E' H E1' H1 ∧ EqE E1' E1 := by
  induction h with
  | nil => exact fun {E'} hE => ⟨E', .nil, hE.symm⟩
  | cons ho hs _ ih =>
    intro E' hE
    obtain ⟨v, rfl, hs'⟩ := hs.env (fun t _ => hE t)
    obtain ⟨E1', hd, he⟩ := ih (hE.bindD _ v)
    exact ⟨E1', .cons ho hs' hd, he⟩

theorem move_front {Γ : List (Nat × Con)} {base : Nat} {oprs : List Opr} {fpf : Nat → FP} {i : Nat} {ys : List Nat} : ∀ (xs : List Nat) {E E1 : Env} {H H1 : Heap}, DR Γ base oprs fpf (xs ++ i :: ys) E H E1 H1 →
    (∀ x ∈ xs, ∀ ox oi, nth oprs x = some ox → nth oprs i = some oi → indep ox oi = true ∧ FP.okB (fpf x) (fpf i) = true) → ∃ E1', DR Γ base oprs fpf (i :: (xs ++ ys)) E H E1' H1 ∧ EqE E1' E1
  | [], E, E1, H, H1, h, _ => ⟨E1, h, .refl _⟩
  | x :: xs, E, E1, H, H1, h, hp => by
    cases h with
    | @cons _ _ ox _ Ea _ _ Ha _ hox hsx hr =>
      obtain ⟨E2, hd, he⟩ := move_front xs hr (fun z hz => hp z (List.mem_cons_of_mem _ hz))
      cases hd with
      | @cons _ _ oi _ Eb _ _ Hb _ hoi hsi hr2 =>
        obtain ⟨h1, h2⟩ := hp x (by simp) ox oi hox hoi
        obtain ⟨Ea', Ha', Eb', k1, k2, k3⟩ := swap hsx hsi h1 h2
        obtain ⟨E3, hd3, he3⟩ := hr2.env k3.symm
        exact ⟨E3, .cons hoi k1 (.cons hox k2 hd3), he3.trans he⟩

def mask (o : Oper) (acc : List Nat) : Nat :=
  o.after.toList.foldl (fun s e => if Region.binds .any e then s ||| 2 ^ e.on ||| (acc[e.on]?).getD 0 else s) 0

def masks : List Oper → List Nat → List Nat
  | [], acc => acc
  | o :: os, acc => masks os (acc ++ [mask o acc])

theorem mask_fold (acc : List Nat) : ∀ (es : List Edge) (s x : Nat), (es.foldl (fun s e => if Region.binds .any e then s ||| 2 ^ e.on ||| (acc[e.on]?).getD 0 else s) s).testBit x = true →
    s.testBit x = true ∨ ∃ e ∈ es, Region.binds .any e = true ∧ (x = e.on ∨ ((acc[e.on]?).getD 0).testBit x = true)
  | [], s, x, h => .inl h
  | e :: es, s, x, h => by
    simp only [List.foldl_cons] at h
    rcases mask_fold acc es _ x h with h | ⟨e', he', h⟩
    · by_cases hb : Region.binds .any e = true
      · rw [if_pos hb, Nat.testBit_or, Nat.testBit_or, Bool.or_eq_true, Bool.or_eq_true] at h
        rcases h with (h | h) | h
        · exact .inl h
        · rw [Nat.testBit_two_pow] at h
          exact .inr ⟨e, by simp, hb, .inl (by simpa using h : e.on = x).symm⟩
        · exact .inr ⟨e, by simp, hb, .inr h⟩
      · rw [if_neg hb] at h; exact .inl h
    · exact .inr ⟨e', List.mem_cons_of_mem _ he', h⟩

theorem mask_bit {o : Oper} {acc : List Nat} {x : Nat} (h : (mask o acc).testBit x = true) : ∃ e ∈ o.after.toList, Region.binds .any e = true ∧ (x = e.on ∨ ((acc[e.on]?).getD 0).testBit x = true) := by
  rcases mask_fold acc _ 0 x h with h | h
  · simp at h
  · exact h

theorem masks_pre : ∀ (os : List Oper) (acc : List Nat), ∃ r, masks os acc = acc ++ r ∧ r.length = os.length
  | [], acc => ⟨[], by simp [masks], rfl⟩
  | o :: os, acc => by
    obtain ⟨r, h1, h2⟩ := masks_pre os (acc ++ [mask o acc])
    exact ⟨mask o acc :: r, by simp [masks, h1], by simp [h2]⟩

theorem masks_at : ∀ (os : List Oper) (acc : List Nat) (k : Nat) (o : Oper), os[k]? = some o → ∃ acc', (masks os acc)[acc.length + k]? = some (mask o acc') ∧ ∀ j, (acc'[j]?).getD 0 = if j < acc.length + k then ((masks os acc)[j]?).getD 0 else 0
  | [], acc, k, o, h => by simp at h
  | o' :: os, acc, 0, o, h => by
    simp at h; subst h
    obtain ⟨r, h1, h2⟩ := masks_pre os (acc ++ [mask o' acc])
    refine ⟨acc, by simp [masks, h1], fun j => ?_⟩
    simp only [masks, h1]
    split
    · rename_i hj; rw [List.getElem?_append_left (by simp; omega), List.getElem?_append_left (by omega)]
    · rename_i hj; rw [List.getElem?_eq_none (by omega)]; rfl
  | o' :: os, acc, k + 1, o, h => by
    obtain ⟨acc', h1, h2⟩ := masks_at os (acc ++ [mask o' acc]) k o (by simpa using h)
    have e : (acc ++ [mask o' acc]).length + k = acc.length + (k + 1) := by simp; omega
    rw [e] at h1 h2
    exact ⟨acc', h1, h2⟩

/-- which ones ahead of each need not be ahead -/
def unOf (ms : List Nat) : List (List Nat) := (List.range ms.length).map fun j => (List.range j).filter fun i => !((ms[j]?).getD 0).testBit i

def edgesOk : List Oper → Nat → Bool
  | [], _ => true
  | o :: os, j => o.after.toList.all (fun e => !Region.binds .any e || Nat.blt e.on j) && edgesOk os (j + 1)

theorem edgesOk_at : ∀ {os : List Oper} {j : Nat}, edgesOk os j = true → ∀ k o e, os[k]? = some o → e ∈ o.after.toList → Region.binds .any e = true → e.on < j + k
  | [], _, _, k, o, e, h, _, _ => by simp at h
  | o' :: os, j, h, 0, o, e, ho, he, hb => by
    simp at ho; subst ho
    simp only [edgesOk, Bool.and_eq_true] at h
    have := List.all_eq_true.1 h.1 e he
    simp [hb] at this; omega
  | o' :: os, j, h, k + 1, o, e, ho, he, hb => by
    simp only [edgesOk, Bool.and_eq_true] at h
    have := edgesOk_at h.2 k o e (by simpa using ho) he hb
    omega

def pairsOk (un : List (List Nat)) (oprs : List Opr) : Bool :=
  (List.range oprs.length).all fun j => ((nth un j).getD []).all fun i => match nth oprs i, nth oprs j with
    | some x, some y => indep x y
    | _, _ => false

section
variable {P : Program} {N : Nat} {ρ0 : Rho} {H0 : Heap} {w0 : World}

def CompO (P : Program) (N : Nat) (ops : Array Oper) (o : Oper) (opr : Opr) : Prop :=
  (∃ s, compOp P s o.op = some opr.op) ∧ opr.dst = o.dst ∧ dstOk N o.dst = true ∧
    ((o.guard = none ∧ opr.guard = none) ∨ ∃ j want g, o.guard = some (j, want) ∧ (ops[j]?).bind (·.dst) = some g ∧ opr.guard = some (g, want))

theorem compOprs_at {ops : Array Oper} : ∀ {os : List Oper} {s : Nat} {l : List Opr}, compOprs P N ops s os = some l → l.length = os.length ∧ ∀ k o, os[k]? = some o → ∃ opr, nth l k = some opr ∧ CompO P N ops o opr
  | [], s, l, h => by simp [compOprs] at h; subst h; exact ⟨rfl, by simp⟩
  | o :: os, s, l, h => by
    simp only [compOprs] at h
    split at h
    · rename_i op l' h1 h2
      obtain ⟨k1, k2⟩ := compOprs_at h2
      split at h
      · rename_i hd
        have mk : ∀ (opr : Opr), CompO P N ops o opr → (opr :: l').length = (o :: os).length ∧ ∀ k o', (o :: os)[k]? = some o' → ∃ opr', nth (opr :: l') k = some opr' ∧ CompO P N ops o' opr' := by
          intro opr hc
          refine ⟨by simp [k1], fun k o' hk => ?_⟩
          cases k with
          | zero => simp at hk; subst hk; exact ⟨opr, rfl, hc⟩
          | succ k => exact k2 k o' (by simpa using hk)
        split at h
        · rename_i hg
          cases h
          exact mk _ ⟨⟨s, h1⟩, rfl, hd, .inl ⟨hg, rfl⟩⟩
        · rename_i j want hg
          split at h
          · rename_i g hj
            cases h
            exact mk _ ⟨⟨s, h1⟩, rfl, hd, .inr ⟨j, want, g, hg, hj, rfl⟩⟩
          · cases h
      · cases h
    · cases h

theorem St.eqE {ρ : Rho} {H : Heap} {w : World} {E E' : Env} {a : Act} (h : St P N ρ0 H0 w0 ρ H w E a) (e : EqE E E') : St P N ρ0 H0 w0 ρ H w E' a :=
  ⟨h.step, fun t v hv => h.env t v (by rw [e t]; exact hv), h.size, h.defers⟩

theorem any_sound {Γ : List (Nat × Con)} (hΓ : Known0 P Γ) {ops : Array Oper} {oprs : List Opr} {base : Nat} {fpf : Nat → FP} {Q : Exit → Act → World → Prop} {E1 : Env} {H1 : Heap}
    (hc : ∀ i o, ops[i]? = some o → ∃ opr, nth oprs i = some opr ∧ CompO P N ops o opr) (m : Nat → Nat)
    (hm : ∀ i o, ops[i]? = some o → ∀ x, (m i).testBit x = true → ∃ e ∈ o.after.toList, Region.binds .any e = true ∧ (x = e.on ∨ (e.on < i ∧ (m e.on).testBit x = true)))
    (hpairs : ∀ j i oi oj, j < ops.size → i < j → (m j).testBit i = false → nth oprs i = some oi → nth oprs j = some oj → indep oi oj = true ∧ FP.okB (fpf i) (fpf j) = true)
    (hedge : ∀ j o e, ops[j]? = some o → e ∈ o.after.toList → Region.binds .any e = true → e.on < j)
    (hQ : ∀ ρ w a E, EqE E E1 → St P N ρ0 H0 w0 ρ H1 w E a → Q .normal a w) :
    ∀ (fuel : Nat) (listed : Array Bool) (L : List Nat) (E : Env) (H : Heap) (ρ : Rho) (w : World) (a : Act), listed.size = ops.size → L.Pairwise (· < ·) → (∀ i, i < ops.size → (listed.getD i true = false ↔ i ∈ L)) → (∀ i ∈ L, i < ops.size) →
      L.length = fuel → (∀ i, i < ops.size → i ∉ L → ∀ x, (m i).testBit x = true → x ∉ L) → (∃ E1', DR Γ base oprs fpf L E H E1' H1 ∧ EqE E1' E1) → St P N ρ0 H0 w0 ρ H w E a → wpAny P .any ops Q fuel listed a w := by
  intro fuel
  induction fuel with
  | zero =>
    intro listed L E H ρ w a hsz hso hl hlt hlen hcl hd hs
    have : L = [] := List.length_eq_zero_iff.1 hlen
    subst this
    obtain ⟨E1', hd, he⟩ := hd
    cases hd
    refine ⟨?_, hQ ρ w a E he hs⟩
    unfold Region.ready
    rw [List.filter_eq_nil_iff]
    intro i hi
    have hi := List.mem_range.1 hi
    have : listed.getD i true = true := by
      cases hb : listed.getD i true with
      | true => rfl
      | false => exact absurd ((hl i hi).1 hb) (by simp)
    simp only [this, Bool.not_true, Bool.false_and, Bool.false_eq_true, not_false_eq_true]
  | succ fuel ih =>
    intro listed L E H ρ w a hsz hso hl hlt hlen hcl hd hs
    have inL : ∀ j, j < ops.size → (listed.getD j false = true ↔ j ∉ L) := by
      intro j hj
      have h1 : listed.getD j false = listed.getD j true := by simp [Array.getD, hsz, hj]
      rw [h1]
      constructor
      · intro h hm'; rw [(hl j hj).2 hm'] at h; cases h
      · intro h
        cases hb : listed.getD j true with
        | true => rfl
        | false => exact absurd ((hl j hj).1 hb) h
    refine ⟨fun hnil => ?_, fun i hi => ?_⟩
    · exfalso
      cases L with
      | nil => simp at hlen
      | cons i L' =>
        have hi := hlt i (by simp)
        have hmin : ∀ j ∈ i :: L', i ≤ j := by
          intro j hj
          rcases List.mem_cons.1 hj with rfl | hj
          · exact Nat.le_refl _
          · exact Nat.le_of_lt ((List.pairwise_cons.1 hso).1 j hj)
        have : i ∈ Region.ready .any ops listed := by
          unfold Region.ready
          rw [List.mem_filter]
          refine ⟨List.mem_range.2 hi, ?_⟩
          have h0 : listed.getD i true = false := (hl i hi).2 (by simp)
          have hoi : ops[i]? = some ops[i] := by simp [hi]
          simp only [h0, Bool.not_false, Bool.true_and, hoi, Option.map_some, Option.getD_some]
          rw [← Array.all_toList]
          rw [List.all_eq_true]
          intro e he
          cases hb : Region.binds .any e with
          | false => simp
          | true =>
            have hlt' := hedge i _ e hoi he hb
            have : e.on ∉ i :: L' := fun h => by have := hmin _ h; omega
            simp [(inL e.on (by omega)).2 this]
        rw [hnil] at this; simp at this
    · unfold Region.ready at hi
      rw [List.mem_filter] at hi
      obtain ⟨hin, hr⟩ := hi
      have hin := List.mem_range.1 hin
      have hoi : ops[i]? = some ops[i] := by simp [hin]
      generalize ops[i] = o at hoi
      simp only [hoi, Option.map_some, Option.getD_some, Bool.and_eq_true, Bool.not_eq_true'] at hr
      obtain ⟨h0, hpre⟩ := hr
      have hiL := (hl i hin).1 h0
      obtain ⟨xs, ys, rfl⟩ := List.append_of_mem hiL
      rw [← Array.all_toList, List.all_eq_true] at hpre
      have hpreds : ∀ x, (m i).testBit x = true → x ∉ xs ++ i :: ys := by
        intro x hx
        obtain ⟨e, he, hb, hor⟩ := hm i o hoi x hx
        have := hpre e he
        simp only [hb, Bool.not_true, Bool.false_or] at this
        have hlt' := hedge i o e hoi he hb
        have hnot := (inL e.on (by omega)).1 this
        rcases hor with rfl | ⟨_, hx'⟩
        · exact hnot
        · exact hcl e.on (by omega) hnot x hx'
      have hxlt : ∀ x ∈ xs, x < i := fun x hx => (List.pairwise_append.1 hso).2.2 x hx i (by simp)
      obtain ⟨E1', hd, he⟩ := hd
      obtain ⟨E2, hd2, he2⟩ := move_front xs hd (fun x hx ox oi hox hoi' => by
        refine hpairs i x ox oi hin (hxlt x hx) ?_ hox hoi'
        cases hb : (m i).testBit x with
        | false => rfl
        | true => exact absurd (by simp [hx]) (hpreds x hb))
      have ih' := fun E H ρ w a => ih (listed.setIfInBounds i true) (xs ++ ys) E H ρ w a (by simp [hsz]) (by
          rw [List.pairwise_append] at hso ⊢
          exact ⟨hso.1, (List.pairwise_cons.1 hso.2.1).2, fun x hx y hy => hso.2.2 x hx y (List.mem_cons_of_mem _ hy)⟩) (by
          intro j hj
          have hnd : i ∉ xs ∧ i ∉ ys := by
            rw [List.pairwise_append] at hso
            refine ⟨fun h => by have := hxlt i h; omega, fun h => by have := (List.pairwise_cons.1 hso.2.1).1 i h; omega⟩
          by_cases e : i = j
          · subst e
            simp only [Array.getD_eq_getD_getElem?, Array.getElem?_setIfInBounds_self_of_lt (by omega : i < listed.size), Option.getD_some]
            simp [hnd.1, hnd.2]
          · have := hl j hj
            simp only [Array.getD_eq_getD_getElem?] at this ⊢
            rw [Array.getElem?_setIfInBounds_ne e, this]
            simp only [List.mem_append, List.mem_cons]
            constructor
            · rintro (h | h | h)
              · exact .inl h
              · exact absurd h.symm e
              · exact .inr h
            · rintro (h | h)
              · exact .inl h
              · exact .inr (.inr h)) (fun j hj => hlt j (by simp at hj ⊢; rcases hj with h | h <;> simp [h])) (by simp at hlen ⊢; omega) (by
          intro j hj hjn x hx
          by_cases e : j = i
          · subst e
            have := hpreds x hx
            intro h; exact this (by simp at h ⊢; rcases h with h | h <;> simp [h])
          · have := hcl j hj (by simp at hjn ⊢; exact ⟨hjn.1, e, hjn.2⟩) x hx
            intro h; exact this (by simp at h ⊢; rcases h with h | h <;> simp [h]))
      obtain ⟨opr, hopr, ⟨s, hco⟩, hdst, hdok, hgd⟩ := hc i o hoi
      cases hd2 with
      | @cons _ _ o2 _ Ea _ _ Ha _ ho2 hst hrest =>
        rw [hopr] at ho2; cases ho2
        unfold wpOp
        simp only [hoi]
        generalize hfp : fpf i = fp at hst
        cases hst with
        | @op p v _ _ hg hev hp =>
          have hw : Region.wanted o (yielded ops a.tmps) = true := by
            rcases hgd with ⟨g1, _⟩ | ⟨j, want, g, g1, g2, g3⟩
            · simp [Region.wanted, g1]
            · rw [wanted_of hs g1 g2 (hg g want g3)]; simp
          simp only [hw, if_true]
          refine .inl (ev_sound hΓ hco hev hp hs.env hs.step.rel _ _ (fun ρ' w' st wf => ?_))
          have hs' := hs.put (d := opr.dst) st wf (by rw [hdst]; exact hdok)
          rw [hdst] at hs' hrest
          exact ih' _ _ ρ' w' _ ⟨E2, hrest, he2.trans he⟩ hs'
        | @skip g want hg hlk =>
          rcases hgd with ⟨_, g1⟩ | ⟨j, want', g', g1, g2, g3⟩
          · rw [g1] at hg; cases hg
          · rw [g3] at hg; cases hg
            have hw : Region.wanted o (yielded ops a.tmps) = false := by
              rcases hlk with hlk | hlk
              · rw [wanted_of hs g1 g2 hlk]; cases want <;> rfl
              · exact wanted_off hs g1 g2 hlk
            simp only [hw, Bool.false_eq_true, if_false]
            have hs' := hs.put (v := .tup []) (d := opr.dst) (Step.refl hs.step.rel) trivial (by rw [hdst]; exact hdok)
            rw [hdst] at hs' hrest
            exact ih' _ _ ρ w _ ⟨E2, hrest, he2.trans he⟩ (by simpa [conc, vals, undef] using hs')

theorem KnOk.eqE {K : Kn} {E E' : Env} (h : KnOk K E) (e : EqE E E') : KnOk K E' := fun t b hb => by rw [← e t]; exact h t b hb

/-- what a run in the text's order has done -/
theorem runOps_dr {Γ : List (Nat × Con)} {base : Nat} {F : Env → Kn → Heap → List FP → Prop} {oprs : List Opr} : ∀ (l : List Opr) (k : Nat) (E : Env) (K : Kn) (H : Heap) (fps : List FP), (∀ j, nth oprs (k + j) = nth l j) → fps.length = k → KnOk K E → runOps Γ base F l E K H fps →
    ∃ E1 K1 H1 fs, (∀ fpf : Nat → FP, (∀ j, j < l.length → fpf (k + j) = (nth fs (l.length - 1 - j)).getD .none) → DR Γ base oprs fpf ((List.range l.length).map (k + ·)) E H E1 H1) ∧ KnOk K1 E1 ∧ fs.length = l.length ∧ F E1 K1 H1 (fs ++ fps)
  | [], k, E, K, H, fps, hl, hk, hK, h => ⟨E, K, H, [], fun _ _ => .nil, hK, rfl, h⟩
  | o :: l, k, E, K, H, fps, hl, hk, hK, h => by
    have ho : nth oprs k = some o := by have := hl 0; simpa [nth] using this
    have tail : ∀ {E' : Env} {K' : Kn} {H' : Heap} {fp : FP}, KnOk K' E' → Stp Γ base o E H E' H' fp → runOps Γ base F l E' K' H' (fp :: fps) →
        ∃ E1 K1 H1 fs, (∀ fpf : Nat → FP, (∀ j, j < (o :: l).length → fpf (k + j) = (nth fs ((o :: l).length - 1 - j)).getD .none) → DR Γ base oprs fpf ((List.range (o :: l).length).map (k + ·)) E H E1 H1) ∧ KnOk K1 E1 ∧ fs.length = (o :: l).length ∧ F E1 K1 H1 (fs ++ fps) := by
      intro E' K' H' fp he hs hr
      obtain ⟨E1, K1, H1, fs, h1, h2, h3, h4⟩ := runOps_dr l (k + 1) E' K' H' (fp :: fps) (fun j => by have := hl (j + 1); rw [show k + 1 + j = k + (j + 1) from by omega]; simpa [nth] using this) (by simp [hk]) he hr
      refine ⟨E1, K1, H1, fs ++ [fp], fun fpf hf => ?_, h2, by simp [h3], by simpa using h4⟩
      rw [List.length_cons, List.range_succ_eq_map, List.map_cons, List.map_map]
      have hf0 : fpf k = fp := by
        have := hf 0 (by simp)
        rw [Nat.add_zero] at this
        rw [this, nth_eq]
        simp [h3]
      refine .cons (E1 := E') (H1 := H') ho (by rw [Nat.add_zero, hf0]; exact hs) ?_
      have := h1 fpf (fun j hj => by
        have := hf (j + 1) (by simp; omega)
        rw [show k + 1 + j = k + (j + 1) from by omega, this, nth_eq, nth_eq]
        congr 1
        simp only [List.length_cons, Nat.add_sub_cancel]
        rw [List.getElem?_append_left (by omega), show l.length - (j + 1) = l.length - 1 - j from by omega])
      have e : (List.range l.length).map ((k + ·) ∘ Nat.succ) = (List.range l.length).map (k + 1 + ·) := by
        apply List.map_congr_left; intro j _; simp only [Function.comp]; omega
      rw [e]; exact this
    have doIt : ∀ {K : Kn}, KnOk K E → (∀ g want, o.guard = some (g, want) → lk E g = some (.bool want)) → (match (resK K o.op).ev Γ base E H with | some ⟨p, v, H', fp⟩ => pand p (runOps Γ base F l (bindD E o.dst v) (bindK K o.dst (kn base K (resK K o.op))) H' (fp :: fps)) | none => False) →
        ∃ E1 K1 H1 fs, (∀ fpf : Nat → FP, (∀ j, j < (o :: l).length → fpf (k + j) = (nth fs ((o :: l).length - 1 - j)).getD .none) → DR Γ base oprs fpf ((List.range (o :: l).length).map (k + ·)) E H E1 H1) ∧ KnOk K1 E1 ∧ fs.length = (o :: l).length ∧ F E1 K1 H1 (fs ++ fps) := by
      intro K hK hg h
      split at h
      · rename_i p v H' fp hev
        have h := pand_iff.1 h
        exact tail (hK.bind (fun c hc => kn_ev hK hev hc)) (.op hg (resolve_ev hK hev) h.1) h.2
      · exact h.elim
    have skipIt : ∀ {K : Kn} {g : Nat} {want : Bool}, KnOk K E → o.guard = some (g, want) → (lk E g = some (.bool (!want)) ∨ lk E g = some (.tup [])) → runOps Γ base F l (bindD E o.dst (.tup [])) (bindK K o.dst none) H (.none :: fps) →
        ∃ E1 K1 H1 fs, (∀ fpf : Nat → FP, (∀ j, j < (o :: l).length → fpf (k + j) = (nth fs ((o :: l).length - 1 - j)).getD .none) → DR Γ base oprs fpf ((List.range (o :: l).length).map (k + ·)) E H E1 H1) ∧ KnOk K1 E1 ∧ fs.length = (o :: l).length ∧ F E1 K1 H1 (fs ++ fps) :=
      fun hK hg hl h => tail (hK.bind (fun c hc => by cases hc)) (.skip hg hl) h
    simp only [runOps] at h
    split at h
    · rename_i hgd
      exact doIt hK (fun g want hg => by rw [hgd] at hg; cases hg) h
    · rename_i g want hgd
      split at h
      · rename_i b hb
        have hl := knO_ev hK hb
        have hg : ∀ w', b = w' → want = w' → (∀ g' want', o.guard = some (g', want') → lk E g' = some (.bool want')) := fun w' h1 h2 g' want' hg => by
          rw [hgd] at hg; cases hg; subst h1; subst h2; exact hl
        split at h
        · exact doIt hK (hg true rfl rfl) h
        · exact doIt hK (hg false rfl rfl) h
        · exact skipIt hK hgd (.inl hl) h
        · exact skipIt hK hgd (.inl hl) h
      · split at h
        · rename_i b hb
          by_cases e : b = want
          · subst e
            exact doIt (hK.know hb) (fun g' want' hg => by rw [hgd] at hg; cases hg; exact hb) (h.1 rfl)
          · have e' : b = !want := by cases b <;> cases want <;> simp_all
            exact skipIt (hK.know (by rw [← e']; exact hb)) hgd (.inl (by rw [← e']; exact hb)) (h.2 e')
        · rename_i hb
          exact skipIt hK hgd (.inr hb) h
        · exact h.elim

theorem BlkRel.drew {ρ : Rho} {w : World} {b : Nat} {t : TypeId} {B : Blk} (h : BlkRel P ρ w b t B) : BlkRel P ρ { w with drawn := w.drawn + 1 } b t B := by
  cases B <;> exact h

/-- a region in whatever order -/
theorem region_any {Γ : List (Nat × Con)} (hΓ : Known0 P Γ) {ops : Array Oper} {oprs : List Opr} {base : Nat} {F : Env → Kn → Heap → List FP → Prop} {Q : Exit → Act → World → Prop} {E : Env} {K : Kn} {H : Heap} {ρ : Rho} {w : World} {a : Act} {id : Nat}
    (hmix : P.follows .mixedOrders = true) (hc : compOprs P N ops 0 ops.toList = some oprs) (he : edgesOk ops.toList 0 = true) (hp : pairsOk (unOf (masks ops.toList [])) oprs = true)
    (hQ : ∀ ρ H w E K a fps, St P N ρ0 H0 w0 ρ H w E a → KnOk K E → F E K H fps → Q .normal a w) (hs : St P N ρ0 H0 w0 ρ H w E a) (hK : KnOk K E)
    (hr : runOps Γ base (fun E K H fps => fpsOk oprs.length (unOf (masks ops.toList [])) fps = true ∧ F E K H fps) oprs E K H []) : (Code.region id ops true).wp P Q a w := by
  obtain ⟨hlen, hat⟩ := compOprs_at hc
  have hlen' : oprs.length = ops.size := by rw [hlen, Array.length_toList]
  obtain ⟨E1, K1, H1, fs, h1, h2, h3, h4, h5⟩ := runOps_dr oprs 0 E K H [] (fun j => by rw [Nat.zero_add]) rfl hK hr
  rw [List.append_nil] at h4 h5
  let fpf : Nat → FP := fun j => (nth fs (oprs.length - 1 - j)).getD .none
  have hdr := h1 fpf (fun j hj => by rw [Nat.zero_add])
  have hmap : (List.range oprs.length).map (0 + ·) = List.range ops.size := by
    rw [hlen']; simp
  rw [hmap] at hdr
  have hs1 : St P N ρ0 H0 w0 ρ H { w with drawn := w.drawn + 1 } E a :=
    ⟨⟨⟨fun b t B hb hν => BlkRel.drew (hs.step.rel.blk b t B hb hν), hs.step.rel.inj, hs.step.rel.lt, hs.step.rel.nul, hs.step.rel.wf, hs.step.rel.wfm⟩, hs.step.ext, hs.step.agr, hs.step.os, hs.step.tape, hs.step.output, hs.step.size, hs.step.keep, hs.step.new⟩, hs.env, hs.size, hs.defers⟩
  let ms := masks ops.toList []
  have hmslen : ms.length = ops.size := by
    obtain ⟨r, e1, e2⟩ := masks_pre ops.toList []
    show (masks ops.toList []).length = _
    rw [e1, List.nil_append, e2, Array.length_toList]
  refine wp_region_any hmix (any_sound (base := base) (fpf := fpf) hΓ (fun i o ho => hat i o (by simpa using ho)) (fun i => (ms[i]?).getD 0) ?_ ?_ ?_ (fun ρ w a E e st => hQ ρ H1 w E1 K1 a fs (st.eqE e) h2 h5)
    ops.size _ (List.range ops.size) E H ρ _ a (by simp) List.pairwise_lt_range (fun i hi => by simp [hi]) (fun i hi => List.mem_range.1 hi) (by simp) (fun i hi hn => absurd (List.mem_range.2 hi) hn) ⟨E1, hdr, .refl _⟩ hs1)
  · intro i o ho x hx
    obtain ⟨acc', k1, k2⟩ := masks_at ops.toList [] i o (by simpa using ho)
    simp only [List.length_nil, Nat.zero_add] at k1 k2
    have hx : (mask o acc').testBit x = true := by
      have : (ms[i]?).getD 0 = mask o acc' := by show ((masks ops.toList [])[i]?).getD 0 = _; rw [k1]; rfl
      rw [← this]; exact hx
    obtain ⟨e, he1, he2, hor⟩ := mask_bit hx
    refine ⟨e, he1, he2, hor.imp _root_.id (fun h => ?_)⟩
    rw [k2] at h
    split at h
    · rename_i hlt; exact ⟨hlt, h⟩
    · simp at h
  · intro j i oi oj hj hij hb hoi hoj
    have hun : nth (unOf ms) j = some ((List.range j).filter fun i => !((ms[j]?).getD 0).testBit i) := by
      rw [nth_eq]; simp [unOf, hmslen, hj]
    have himem : i ∈ (List.range j).filter fun i => !((ms[j]?).getD 0).testBit i := by
      rw [List.mem_filter]; exact ⟨List.mem_range.2 hij, by simp [hb]⟩
    constructor
    · have := List.all_eq_true.1 hp j (List.mem_range.2 (by omega))
      rw [show nth (unOf (masks ops.toList [])) j = _ from hun] at this
      have := List.all_eq_true.1 this i himem
      rw [hoi, hoj] at this
      exact this
    · unfold fpsOk at h4
      have := List.all_eq_true.1 h4 j (List.mem_range.2 (by omega))
      rw [show nth (unOf (masks ops.toList [])) j = _ from hun] at this
      have hfj : ∃ y, nth fs (oprs.length - 1 - j) = some y := by
        rw [nth_eq]; exact ⟨_, List.getElem?_eq_getElem (by omega)⟩
      obtain ⟨y, hy⟩ := hfj
      rw [hy] at this
      simp only at this
      have := List.all_eq_true.1 this i himem
      have hfi : ∃ x, nth fs (oprs.length - 1 - i) = some x := by
        rw [nth_eq]; exact ⟨_, List.getElem?_eq_getElem (by omega)⟩
      obtain ⟨x, hx⟩ := hfi
      rw [hx] at this
      show FP.okB ((nth fs (oprs.length - 1 - i)).getD .none) ((nth fs (oprs.length - 1 - j)).getD .none) = true
      rw [hx, hy]; exact this
  · intro j o e ho he1 hb
    have := edgesOk_at he j o e (by simpa using ho) he1 hb
    omega

end
end Dd
