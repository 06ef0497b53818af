/- The model's operations, compiled; and that the evaluator is right about them. -/
import Derived.Test.YthjljdbelnakfaaDB
namespace Dd
open Go Go.RowKit
set_option linter.unusedVariables false
set_option linter.unusedSimpArgs false

def zeroOk (P : Program) (t : TypeId) : Option V :=
  match P.info? t with
  | none => none
  | some i => match i.zero, zeroV P 40 t with
    | some zv, some z => match eat z zv.cells.toList with
      | some [] => if fitB P z t then some z else none
      | _ => none
    | _, _ => none

theorem zeroOk_spec {P : Program} {t : TypeId} {z : V} (h : zeroOk P t = some z) : ∃ i zv, P.info? t = some i ∧ i.zero = some zv ∧ fitB P z t = true ∧ eat z zv.cells.toList = some [] := by
  unfold zeroOk at h
  split at h
  · cases h
  · rename_i i hi
    split at h
    · rename_i zv z' h1 h2
      split at h
      · rename_i h3
        split at h
        · rename_i h4; cases h; exact ⟨i, zv, hi, h1, h4, h3⟩
        · cases h
      · cases h
    · cases h

/-- the kinds of a struct's fields -/
def tagsOf (P : Program) : List Field → Option (List (TypeId × Tk))
  | [] => some []
  | f :: fs => match tkOf (P.underlying f.type), tagsOf P fs with
    | some tk, some l => if tyOk P f.type then some ((f.type, tk) :: l) else none
    | _, _ => none

theorem tagsOf_at {P : Program} : ∀ {fs : List Field} {l : List (TypeId × Tk)}, tagsOf P fs = some l → ∀ i t tk, nth l i = some (t, tk) → ∃ f, fs[i]? = some f ∧ f.type = t ∧ tkOf (P.underlying t) = some tk ∧ tyOk P t = true
  | [], l, h, i, t, tk, hn => by simp [tagsOf] at h; subst h; simp [nth] at hn
  | f :: fs, l, h, i, t, tk, hn => by
    simp only [tagsOf] at h
    split at h
    · rename_i tk' l' h1 h2
      split at h
      · rename_i h3
        cases h
        cases i with
        | zero => simp [nth] at hn; obtain ⟨rfl, rfl⟩ := hn; exact ⟨f, by simp, rfl, h1, h3⟩
        | succ i => obtain ⟨g, hg⟩ := tagsOf_at h2 i t tk (by simpa [nth] using hn); exact ⟨g, by simpa using hg.1, hg.2⟩
      · cases h
    · cases h

def infoOf (P : Program) : List Field → Option (List (Nat × Nat))
  | [] => some []
  | f :: fs => match P.info? f.type, infoOf P fs with
    | some i, some l => some ((f.offset, i.size) :: l)
    | _, _ => none

theorem infoOf_mapM {P : Program} : ∀ {fs : List Field} {l : List (Nat × Nat)}, infoOf P fs = some l → fs.mapM (fun f => (P.info? f.type).map fun i => (f.offset, i.size)) = some l
  | [], l, h => by simp [infoOf] at h; subst h; simp
  | f :: fs, l, h => by
    simp only [infoOf] at h
    split at h
    · rename_i i l' h1 h2
      cases h
      have := infoOf_mapM h2
      simp [List.mapM_cons, h1, this]
    · cases h

theorem infoOf_at {P : Program} : ∀ {fs : List Field} {l : List (Nat × Nat)}, infoOf P fs = some l → ∀ (i : Nat) (f : Field), fs[i]? = some f → l[i]? = some (f.offset, P.cellsOf f.type)
  | [], l, h, i, f, hf => by simp at hf
  | g :: fs, l, h, i, f, hf => by
    simp only [infoOf] at h
    split at h
    · rename_i j l' h1 h2
      cases h
      cases i with
      | zero => simp at hf; subst hf; simp [Program.cellsOf, h1]
      | succ i => simpa using infoOf_at h2 i f (by simpa using hf)
    · cases h

/-- may values of this type be held against each other here? -/
def eqKind (P : Program) (t : TypeId) : Tk → Bool
  | .agg => eqT P 30 t && !P.eqGuardType P.depth t
  | .bool | .str | .ptr | .sl => true
  | _ => false

def ofOpt : Option Operand → Option (Option O)
  | none => some none
  | some x => match ofOperand x with
    | some y => some (some y)
    | none => none

/-- the zero value of a type that is not an interface -/
def zeroC (P : Program) (t : TypeId) : Option V :=
  match P.underlying t with
  | some (.interface _) => none
  | some _ => if isAggT P t then none else match (P.info? t).bind (·.zero) with
    | some (.agg _) => none
    | _ => zeroOk P t
  | none => none

def compOp (P : Program) (slot : Nat) : Op → Option Op1
  | .buildSlice T n ps => match P.underlying T, ofParts ps.toList with
    | some (.slice t), some ps' => match P.info? t, tkOf (P.underlying t), zeroOk P t with
      | some i, some tk, some z => if tyOk P t && ps.toList.all (fun x => decide (x.1 < n)) && Nat.ble (n * i.size) 16777216 then some (.bslice slot t n tk z ps') else none
      | _, _, _ => none
    | _, _ => none
  | .makeSlice T l c => match P.underlying T, ofOperand l, ofOperand c with
    | some (.slice t), some l', some c' => match P.info? t, zeroOk P t with
      | some i, some z => some (.mslice slot t i.bytes z l' c')
      | _, _ => none
    | _, _, _ => none
  | .slice T x lo hi mx => match mx with
    | some _ => none
    | none => match P.underlying T, ofOperand x, ofOpt lo, ofOpt hi with
      | some (.slice t), some x', some lo', some hi' => match P.info? t with
        | some i => some (.slc t i.size x' lo' hi')
        | none => none
      | _, _, _, _ => none
  | .typeAssert x _ t ok => match ok with
    | false => none
    | true => match ofOperand x, zeroC P t with
      | some x', some z => some (.tassert t z x')
      | _, _ => none
  | .move x => (ofOperand x).map .mov
  | .assign x => (ofOperand x).map .mov
  | .pick c x y => match ofOperand c, ofOperand x, ofOperand y with
    | some c, some x, some y => some (.pick c x y)
    | _, _, _ => none
  | .alloc t => (zeroOk P t).map (.alloc slot t)
  | .box t x => match ofOperand x, tkOf (P.underlying t) with
    | some x, some tk => if tyOk P t then some (.box slot t tk x) else none
    | _, _ => none
  | .build t ps => match P.underlying t, zeroOk P t, ofParts ps.toList with
    | some (.struct fs), some z, some ps' => match tagsOf P fs.toList, infoOf P fs.toList with
      | some tags, some _ => some (.build t false tags z ps')
      | _, _ => none
    | some (.array n e), some z, some ps' => match tkOf (P.underlying e), P.info? e with
      | some tk, some _ => if tyOk P e && ps.toList.all (fun x => decide (x.1 < n)) then some (.build t true [(e, tk)] z ps') else none
      | _, _ => none
    | _, _, _ => none
  | .load t x => match ofOperand x with
    | some x => if tyOk P t then some (.load t x) else none
    | none => none
  | .store t x y => match ofOperand x, ofOperand y, tkOf (P.underlying t) with
    | some x, some y, some tk => if tyOk P t then some (.store t tk x y) else none
    | _, _, _ => none
  | .nilCheck x => (ofOperand x).map .nilCheck
  | .fieldAddr s x k => match P.underlying s, ofOperand x with
    | some (.struct fs), some x => match fs[k]? with
      | some f => if P.cellsOf f.type = 0 then none else some (.fieldAddr s x k f.offset f.type)
      | none => none
    | _, _ => none
  | .field s x k => match P.underlying s, ofOperand x with
    | some (.struct fs), some x => match fs[k]? with
      | some f => if tyOk P f.type then some (.field s x k) else none
      | none => none
    | _, _ => none
  | .indexAddr s x i => match P.underlying s, ofOperand x, ofOperand i with
    | some (.array n e), some x, some i => if (P.info? e).isSome then some (.arrAddr s n (P.cellsOf e) e x i) else none
    | some (.slice e), some x, some i => if (P.info? e).isSome then some (.slAddr e (P.cellsOf e) x i) else none
    | _, _, _ => none
  | .index s x i => match P.underlying s, ofOperand x, ofOperand i with
    | some (.array n e), some x, some i => if tyOk P e then some (.index s n x i) else none
    | _, _, _ => none
  | .binOp op t x y _ => match ofOperand x, ofOperand y, tkOf (P.underlying t) with
    | some x, some y, some tk => match tk with
      | .int _ => match op with
        | .shl | .shr => some (.sh op x y)
        | _ => some (.bin op x y)
      | tk => if tyOk P t && eqKind P t tk then (match op with
            | .eql => some (.eqv t tk false x y)
            | .neq => some (.eqv t tk true x y)
            | _ => none) else none
    | _, _, _ => none
  | .unOp op _ x => (ofOperand x).map (.un op)
  | .convert s d x => match P.underlying s, P.underlying d, ofOperand x with
    | some _, some (.int k), some x => some (.conv k x)
    | _, _, _ => none
  | .makeInterface t x => match ofOperand x with
    | some x => if P.concrete t then some (.mkIface t x) else none
    | none => none
  | .makeFunc (.func f) x c => match ofOperands x.toList, ofOperands c.toList with
    | some x, some c => some (.mkFunc f x c)
    | _, _ => none
  | .extract x i => (ofOperand x).map fun x => .extract x i
  | .call c => match c.callee with
    | .value (.func f) => (ofOperands c.args.toList).map (.call f)
    | .value x => match ofOperand x, ofOperands c.args.toList with
      | some x, some l => some (.callv x l)
      | _, _ => none
    | .builtin .min => match c.args.toList with
      | [x, y] => match ofOperand x, ofOperand y with
        | some x, some y => some (.mn x y)
        | _, _ => none
      | _ => none
    | .builtin .max => match c.args.toList with
      | [x, y] => match ofOperand x, ofOperand y with
        | some x, some y => some (.mx x y)
        | _, _ => none
      | _ => none
    | .builtin .append => match c.args.toList, c.argTypes.toList with
      | [x, y], [T, T2] => match P.underlying T, ofOperand x, ofOperand y with
        | some (.slice t), some x', some y' => match P.info? t, zeroOk P t with
          | some i, some z => if Nat.beq T T2 && fitB P z t then some (.append slot t i.bytes x' y') else none
          | _, _ => none
        | _, _, _ => none
      | _, _ => none
    | .builtin .len => match c.args.toList, c.argTypes.toList with
      | [x], [t] => match ofOperand x, P.underlying t with
        | some x, some (.slice _) => some (.len false x)
        | some x, some .string => some (.len true x)
        | _, _ => none
      | _, _ => none
    | _ => none
  | _ => none

section
variable {P : Program} {ρ : Rho} {H : Heap} {w : World} {E : Env} {a : Act}

theorem ofOpt_eval (hE : ERel P ρ H E a.tmps) : ∀ {x : Option Operand} {x' : Option O} {v : Option V}, ofOpt x = some x' → evo E x' = some v → x.map a.eval = v.map (conc ρ)
  | none, x', v, h, hv => by simp [ofOpt] at h; subst h; simp [evo] at hv; subst hv; rfl
  | some x, x', v, h, hv => by
    simp only [ofOpt] at h
    split at h
    · rename_i y hy
      cases h
      simp only [evo] at hv
      split at hv
      · rename_i u hu; cases hv
        simp [(ofOperand_eval hy hu hE).1]
      · cases hv
    · cases h

theorem place_field {t : TypeId} {fs : Array Field} {k : Nat} {f : Field} (hu : P.underlying t = some (.struct fs)) (hf : fs[k]? = some f) : place P t [k] = some (f.offset, f.type) := by
  simp [place, hu, hf]

set_option maxHeartbeats 1000000 in
theorem ev_sound {Γ : List (Nat × Con)} (hΓ : Known0 P Γ) {o : Oper} {o1 : Op1} {slot base : Nat} {p : Pre} {v : V} {H' : Heap} {fp : FP} (hc : compOp P slot o.op = some o1) (he : o1.ev Γ base E H = some ⟨p, v, H', fp⟩) (hp : Pre.ok p)
    (hE : ERel P ρ H E a.tmps) (hR : HRel P ρ H w) : Does P o a w ρ H v H' := by
  have conEv_spec : ∀ {c : Con} {vs : List V} {r : Res}, conEv c vs H = some r → c.d vs H = some (r.pre, r.v, r.h) := by
    intro c vs r h
    cases c with
    | pure F =>
      simp only [conEv] at h
      split at h
      · rename_i q u hq; cases h; simp [Con.d, hq]
      · cases h
    | read F =>
      simp only [conEv] at h
      split at h
      · rename_i q u hq; cases h; simp [Con.d, hq]
      · cases h
    | heap D =>
      simp only [conEv] at h
      split at h
      · rename_i q u H1 hq; cases h; simp [Con.d, hq]
      · cases h
    | mk F =>
      simp only [conEv] at h
      split at h
      · rename_i q u bl hq; cases h; simp [Con.d, hq]
      · cases h
    | rdp F =>
      simp only [conEv] at h
      split at h
      · rename_i b q G hq
        split at h
        · rename_i u hu
          split at h
          · rename_i q2 u2 hG; cases h; simp [Con.d, hq, hu, hG]
          · cases h
        · cases h
      · cases h
    | inl ir np rs => simp [conEv] at h
  cases hop : o.op <;> rw [hop] at hc <;> simp only [compOp] at hc <;> try (cases hc; done)
  case move x =>
    simp only [Option.map_eq_some_iff] at hc
    obtain ⟨x', hx, rfl⟩ := hc
    simp only [Op1.ev] at he
    split at he
    · rename_i u hu; cases he; exact does_move (.inl hop) hx hu hE hR
    · cases he
  case buildSlice T n ps =>
    split at hc
    · rename_i t ps' hu hps
      split at hc
      · rename_i i tk z hi hk hz
        split at hc
        · rename_i hcond
          cases hc
          simp only [Bool.and_eq_true] at hcond
          obtain ⟨⟨hty, hall⟩, hbig⟩ := hcond
          obtain ⟨i', zv, z1, z2, z3, z4⟩ := zeroOk_spec hz
          rw [hi] at z1; cases z1
          simp only [Op1.ev] at he
          split at he
          · rename_i t0 vs hb hvs
            cases htag : tagsB true [(t, tk)] vs <;> simp only [htag, cond_true, cond_false] at he
            · cases he
            · cases he
              obtain ⟨k1, k2, k3⟩ := evp_eval hE hps hvs
              refine does_bslice hop hu hi z2 z3 z4 (Nat.le_of_ble_eq_true hbig) hty hk k1 (fun x hx => ?_) hb hR
              obtain ⟨t', tk', n1, n2⟩ := tagsB_at htag x hx
              simp [nth] at n1
              obtain ⟨rfl, rfl⟩ := n1
              refine ⟨?_, n2, k2 x hx⟩
              have : x.1 ∈ vs.map (·.1) := List.mem_map.2 ⟨x, hx, rfl⟩
              rw [k3] at this
              obtain ⟨y, hy, hyx⟩ := List.mem_map.1 this
              have := List.all_eq_true.1 hall y hy
              simp at this; omega
          · cases he
        · cases hc
      · cases hc
    · cases hc
  case makeSlice T l c =>
    split at hc
    · rename_i t l' c' hu hl hcc
      split at hc
      · rename_i i z hi hz
        cases hc
        obtain ⟨i', zv, z1, z2, z3, z4⟩ := zeroOk_spec hz
        rw [hi] at z1; cases z1
        simp only [Op1.ev] at he
        split at he
        · rename_i t0 kl ln kc cn hb e1 e2
          cases he
          obtain ⟨k1, _⟩ := ofOperand_eval hl e1 hE
          obtain ⟨k2, _⟩ := ofOperand_eval hcc e2 hE
          exact does_mslice (kl := kl) (kc := kc) hop hu hi z2 z3 z4 (by rw [k1]; simp [conc]) (by rw [k2]; simp [conc]) hp hb hR
        · cases he
      · cases hc
    · cases hc
  case slice T x lo hi mx =>
    cases mx with
    | some _ => cases hc
    | none =>
      simp only at hc
      split at hc
      · rename_i t x' lo' hi' hu hx hlo hhi
        split at hc
        · rename_i i hi2
          cases hc
          simp only [Op1.ev] at he
          split at he
          · rename_i b bs off pre st n cap t' lv hv e1 e2 e3
            split at he
            · rename_i lz hz b1 b2
              cases hb : (Nat.beq t t' && isRow (nth H b)) <;> simp only [hb, cond_true, cond_false] at he
              · cases he
              · rw [Bool.and_eq_true] at hb
                have := beq_eq hb.1; subst this
                cases he
                obtain ⟨k1, k2⟩ := ofOperand_eval hx e1 hE
                exact does_slc hop hu hi2 k1 k2 (ofOpt_eval hE hlo e2) (ofOpt_eval hE hhi e3) b1 b2 hp hb.2 hR
            · cases he
          · cases he
        · cases hc
      · cases hc
  case typeAssert x xt t ok =>
    cases ok with
    | false => cases hc
    | true =>
      simp only at hc
      split at hc
      · rename_i x' z hx hz
        cases hc
        unfold zeroC at hz
        split at hz
        · cases hz
        · rename_i d hd hu
          split at hz
          · cases hz
          · rename_i hag
            split at hz
            · cases hz
            · rename_i hna
              obtain ⟨i, zv, z1, z2, z3, z4⟩ := zeroOk_spec hz
              have hfit := fitB_fit P z t z3
              have hsc : cl ρ z = [conc ρ z] := scalar_conc hfit (by simpa using hag)
              have hcl := eat_cells ρ z _ _ z4
              rw [List.append_nil, hsc] at hcl
              simp only [Op1.ev] at he
              split at he
              · rename_i t' u e1
                cases he
                obtain ⟨k1, k2⟩ := ofOperand_eval hx e1 hE
                refine does_tassert hop hu (fun m hm => hd m hm) z1 z2 ?_ (eat_wf z t _ _ z4 hfit) k1 k2 hR
                cases zv <;> simp [Value.cells] at hcl <;> try exact hcl
                rename_i cs
                exact absurd (by rw [z1]; exact z2) (hna cs)
              · cases he
        · cases hz
      · cases hc
  case assign x =>
    simp only [Option.map_eq_some_iff] at hc
    obtain ⟨x', hx, rfl⟩ := hc
    simp only [Op1.ev] at he
    split at he
    · rename_i u hu; cases he; exact does_move (.inr hop) hx hu hE hR
    · cases he
  case pick c x y =>
    split at hc
    · rename_i c' x' y' h1 h2 h3
      cases hc
      simp only [Op1.ev] at he
      split at he
      · rename_i bv e1
        obtain ⟨k1, _⟩ := ofOperand_eval h1 e1 hE
        cases bv with
        | true =>
          simp only [cond_true] at he
          split at he
          · rename_i u e2; cases he
            obtain ⟨k2, w2⟩ := ofOperand_eval h2 e2 hE
            exact does_pick (b := true) hop (by rw [k1]; simp [conc]) (by simpa using k2) w2 hR
          · cases he
        | false =>
          simp only [cond_false] at he
          split at he
          · rename_i u e3; cases he
            obtain ⟨k3, w3⟩ := ofOperand_eval h3 e3 hE
            exact does_pick (b := false) hop (by rw [k1]; simp [conc]) (by simpa using k3) w3 hR
          · cases he
      · cases he
    · cases hc
  case alloc t =>
    simp only [Option.map_eq_some_iff] at hc
    obtain ⟨z, hz, rfl⟩ := hc
    obtain ⟨i, zv, z1, z2, z3, z4⟩ := zeroOk_spec hz
    simp only [Op1.ev] at he
    split at he
    · rename_i t0 hb; cases he
      exact does_alloc hop z1 z2 z3 z4 hb hR
    · cases he
  case box t x =>
    split at hc
    · rename_i x' tk hx hk
      split at hc
      · rename_i ht
        cases hc
        simp only [Op1.ev] at he
        split at he
        · rename_i t0 u hb hu
          cases htag : tagB t tk u <;> simp only [htag, cond_true, cond_false] at he
          · cases he
          · cases he
            obtain ⟨k1, k2⟩ := ofOperand_eval hx hu hE
            exact does_box hop ht k1 k2 hk htag hb hR
        · cases he
      · cases hc
    · cases hc
  case build t ps =>
    split at hc
    · rename_i fs z ps' hu hz hps
      split at hc
      · rename_i tags info ht hi
        cases hc
        obtain ⟨i, zv, z1, z2, z3, z4⟩ := zeroOk_spec hz
        simp only [Op1.ev] at he
        split at he
        · rename_i vs hvs
          cases htag : tagsB false tags vs <;> simp only [htag, cond_true, cond_false] at he
          · cases he
          · split at he
            · rename_i u hbv
              cases he
              obtain ⟨k1, k2, k3⟩ := evp_eval hE hps hvs
              refine does_build (i := i) (zv := zv) (pl := (info.toArray[·]?)) hop z1 z2 z3 z4 (fun qs => ?_) k1 (fun x hx => ?_) hbv (by simp [isAggT, hu]) hR
              · simp [Program.built, z1, hu, z2, infoOf_mapM hi]
              · obtain ⟨t', tk, n1, n2⟩ := tagsB_at htag x hx
                obtain ⟨f, f1, f2, f3, f4⟩ := tagsOf_at ht x.1 t' tk (by simpa using n1)
                subst f2
                have f1' : fs[x.1]? = some f := by simpa using f1
                refine ⟨f.offset, f.type, place_field hu f1', ?_, tag_fit f4 f3 (k2 x hx) n2, k2 x hx⟩
                simpa using infoOf_at hi x.1 f f1
            · cases he
        · cases he
      · cases hc
    · rename_i n e z ps' hu hz hps
      split at hc
      · rename_i tk ie hk hie
        split at hc
        · rename_i hcond
          cases hc
          rw [Bool.and_eq_true] at hcond
          obtain ⟨hty, hall⟩ := hcond
          obtain ⟨i, zv, z1, z2, z3, z4⟩ := zeroOk_spec hz
          have hce : P.cellsOf e = ie.size := by simp [Program.cellsOf, hie]
          simp only [Op1.ev] at he
          split at he
          · rename_i vs hvs
            cases htag : tagsB true [(e, tk)] vs <;> simp only [htag, cond_true, cond_false] at he
            · cases he
            · split at he
              · rename_i u hbv
                cases he
                obtain ⟨k1, k2, k3⟩ := evp_eval hE hps hvs
                refine does_build (i := i) (zv := zv) (pl := fun j => some (j * ie.size, ie.size)) hop z1 z2 z3 z4 (fun qs => ?_) k1 (fun x hx => ?_) hbv (by simp [isAggT, hu]) hR
                · simp [Program.built, z1, hu, z2, hie]
                · obtain ⟨t', tk', n1, n2⟩ := tagsB_at htag x hx
                  simp [nth] at n1
                  obtain ⟨rfl, rfl⟩ := n1
                  have hin : x.1 < n := by
                    have : x.1 ∈ vs.map (·.1) := List.mem_map.2 ⟨x, hx, rfl⟩
                    rw [k3] at this
                    obtain ⟨y, hy, hyx⟩ := List.mem_map.1 this
                    have := List.all_eq_true.1 hall y hy
                    simp at this; omega
                  exact ⟨x.1 * P.cellsOf e, e, by simp [place, hu, hin], by rw [hce], tag_fit hty hk (k2 x hx) n2, k2 x hx⟩
              · cases he
          · cases he
        · cases hc
      · cases hc
    · cases hc
  case load t x =>
    split at hc
    · rename_i x' hx
      split at hc
      · rename_i ht
        cases hc
        simp only [Op1.ev] at he
        split at he
        · rename_i b off q t' hu
          cases hb : Nat.beq t t' <;> simp only [hb, cond_true, cond_false] at he
          · cases he
          · have := beq_eq hb; subst this
            split at he
            · rename_i u hrd
              cases he
              obtain ⟨k1, k2⟩ := ofOperand_eval hx hu hE
              exact does_load hop ht k1 k2 hrd hR
            · cases he
        · cases he
      · cases hc
    · cases hc
  case store t x y =>
    split at hc
    · rename_i x' y' tk hx hy hk
      split at hc
      · rename_i ht
        cases hc
        simp only [Op1.ev] at he
        split at he
        · rename_i b off q t' u hu hv
          cases hb : (Nat.beq t t' && tagB t tk u) <;> simp only [hb, cond_true, cond_false] at he
          · cases he
          · rw [Bool.and_eq_true] at hb
            have := beq_eq hb.1; subst this
            split at he
            · rename_i H1 hwr
              cases he
              obtain ⟨k1, k2⟩ := ofOperand_eval hx hu hE
              obtain ⟨k3, k4⟩ := ofOperand_eval hy hv hE
              exact does_store hop ht k1 k2 k3 k4 hk hb.2 hwr hR
            · cases he
        · cases he
      · cases hc
    · cases hc
  case nilCheck x =>
    simp only [Option.map_eq_some_iff] at hc
    obtain ⟨x', hx, rfl⟩ := hc
    simp only [Op1.ev] at he
    split at he
    · rename_i b off q t' hu
      cases he
      obtain ⟨k1, k2⟩ := ofOperand_eval hx hu hE
      exact does_nilCheck hop k1 k2 hR
    · cases he
  case fieldAddr s x k =>
    split at hc
    · rename_i fs x' hu hx
      split at hc
      · rename_i f hf
        split at hc
        · cases hc
        · rename_i h0
          cases hc
          simp only [Op1.ev] at he
          split at he
          · rename_i b off q t' hv
            cases hb : Nat.beq s t' <;> simp only [hb, cond_true, cond_false] at he
            · cases he
            · have := beq_eq hb; subst this
              cases he
              obtain ⟨k1, k2⟩ := ofOperand_eval hx hv hE
              exact does_fieldAddr hop hu hf h0 k1 k2 hR
          · cases he
      · cases hc
    · cases hc
  case field s x k =>
    split at hc
    · rename_i fs x' hu hx
      split at hc
      · rename_i f hf
        split at hc
        · rename_i ht
          cases hc
          simp only [Op1.ev] at he
          split at he
          · rename_i t' ps hv
            cases hb : Nat.beq s t' <;> simp only [hb, cond_true, cond_false] at he
            · cases he
            · have := beq_eq hb; subst this
              split at he
              · rename_i u hn
                cases he
                obtain ⟨k1, k2⟩ := ofOperand_eval hx hv hE
                exact does_field hop hu hf ht k1 k2 hn hR
              · cases he
          · cases he
        · cases hc
      · cases hc
    · cases hc
  case indexAddr s x i =>
    split at hc
    · rename_i n e x' i' hu hx hi
      split at hc
      · rename_i hie
        cases hc
        simp only [Op1.ev] at he
        split at he
        · rename_i b off q t' k z hv hz
          cases hb : Nat.beq s t' <;> simp only [hb, cond_true, cond_false] at he
          · cases he
          · have := beq_eq hb; subst this
            cases he
            obtain ⟨k1, k2⟩ := ofOperand_eval hx hv hE
            obtain ⟨k3, _⟩ := ofOperand_eval hi hz hE
            exact does_arrAddr (k := k) hop hu hie k1 (by rw [k3]; simp [conc]) hp k2 hR
        · cases he
      · cases hc
    · rename_i e x' i' hu hx hi
      split at hc
      · rename_i hie
        cases hc
        simp only [Op1.ev] at he
        split at he
        · rename_i b bs off pre start ln cap t' k z hv hz
          cases hb : (Nat.beq e t' && isRow (nth H b)) <;> simp only [hb, cond_true, cond_false] at he
          · cases he
          · rw [Bool.and_eq_true] at hb
            have := beq_eq hb.1; subst this
            cases he
            obtain ⟨k1, k2⟩ := ofOperand_eval hx hv hE
            obtain ⟨k3, _⟩ := ofOperand_eval hi hz hE
            have hrow : ∃ t n f r, nth H b = some (t, .row r n f) := by
              have h2 := hb.2
              unfold isRow at h2
              split at h2
              · rename_i t1 r n f hb'; exact ⟨t1, n, f, r, hb'⟩
              · cases h2
            exact does_slAddr (k := k) hop hu hie k1 (by rw [k3]; simp [conc]) hp k2 hrow hR
        · cases he
      · cases hc
    · cases hc
  case index s x i =>
    split at hc
    · rename_i n e x' i' hu hx hi
      split at hc
      · rename_i ht
        cases hc
        simp only [Op1.ev] at he
        split at he
        · rename_i t' n' f k z hv hz
          cases hb : (Nat.beq s t' && Nat.beq n n') <;> simp only [hb, cond_true, cond_false] at he
          · cases he
          · rw [Bool.and_eq_true] at hb
            have h1 := beq_eq hb.1; have h2 := beq_eq hb.2; subst h1 h2
            cases he
            obtain ⟨k1, k2⟩ := ofOperand_eval hx hv hE
            obtain ⟨k3, _⟩ := ofOperand_eval hi hz hE
            exact does_index (k := k) hop hu ht k1 (by rw [k3]; simp [conc]) hp k2 hR
        · cases he
      · cases hc
    · cases hc
  case binOp op t x y t2 =>
    split at hc
    · rename_i x' y' tk hx hy hk
      have bin_case : ∀ {q : Pre} {u : V} {k k' : IntKind} {m n : Int}, x'.ev E = some (.int k m) → y'.ev E = some (.int k' n) → kb k k' = true → binI op k m n = some (q, u) → Pre.ok q → Does P o a w ρ H u H := by
        intro q u k k' m n e1 e2 e3 e4 hq
        have := kb_eq e3; subst this
        obtain ⟨k1, _⟩ := ofOperand_eval hx e1 hE
        obtain ⟨k2, _⟩ := ofOperand_eval hy e2 hE
        exact does_bin hop (by rw [k1]; simp [conc]) (by rw [k2]; simp [conc]) e4 hq hR
      have sh_case : ∀ {q : Pre} {u : V} {k k' : IntKind} {m n : Int}, x'.ev E = some (.int k m) → y'.ev E = some (.int k' n) → shI op k m n = some (q, u) → Pre.ok q → Does P o a w ρ H u H := by
        intro q u k k' m n e1 e2 e4 hq
        obtain ⟨k1, _⟩ := ofOperand_eval hx e1 hE
        obtain ⟨k2, _⟩ := ofOperand_eval hy e2 hE
        exact does_sh (k' := k') hop (by rw [k1]; simp [conc]) (by rw [k2]; simp [conc]) e4 hq hR
      split at hc
      · split at hc
        all_goals
          cases hc
          simp only [Op1.ev] at he
          split at he
          · rename_i k m k' n e1 e2
            first
              | (split at he
                 · rename_i q u e4; cases he; exact sh_case e1 e2 e4 hp
                 · cases he)
              | (cases hb : kb k k' <;> simp only [hb, cond_true, cond_false] at he
                 · cases he
                 · split at he
                   · rename_i q u e4; cases he; exact bin_case e1 e2 hb e4 hp
                   · cases he)
          · cases he
      · split at hc
        · rename_i hcond
          rw [Bool.and_eq_true] at hcond
          obtain ⟨ht, hkind⟩ := hcond
          have hdo : ∀ {ng : Bool}, ((op = .eql ∧ ng = false) ∨ (op = .neq ∧ ng = true)) → o1 = .eqv t tk ng x' y' → Does P o a w ρ H v H' := by
            intro ng hng ho1
            subst ho1
            simp only [Op1.ev] at he
            split at he
            · rename_i u1 u2 e1 e2
              cases hb : (tagB t tk u1 && tagB t tk u2) <;> simp only [hb, cond_true, cond_false] at he
              · cases he
              · rw [Bool.and_eq_true] at hb
                cases he
                obtain ⟨k1, k2⟩ := ofOperand_eval hx e1 hE
                obtain ⟨k3, k4⟩ := ofOperand_eval hy e2 hE
                refine does_eqv hop hng ht hk ?_ k1 k3 k2 k4 hb.1 hb.2 hp hR
                unfold eqKind at hkind
                split at hkind
                · simp only [Bool.and_eq_true] at hkind
                  exact .inl ⟨rfl, hkind.1, by simpa using hkind.2⟩
                · exact .inr (.inl rfl)
                · exact .inr (.inr (.inl rfl))
                · exact .inr (.inr (.inr (.inl rfl)))
                · exact .inr (.inr (.inr (.inr rfl)))
                · cases hkind
            · cases he
          split at hc
          · cases hc; exact hdo (.inl ⟨rfl, rfl⟩) rfl
          · cases hc; exact hdo (.inr ⟨rfl, rfl⟩) rfl
          · cases hc
        · cases hc
    · cases hc
  case unOp op t x =>
    simp only [Option.map_eq_some_iff] at hc
    obtain ⟨x', hx, rfl⟩ := hc
    simp only [Op1.ev] at he
    split at he
    · rename_i b e1
      cases he
      obtain ⟨k1, _⟩ := ofOperand_eval hx e1 hE
      exact does_un hop k1 (.inl ⟨rfl, b, rfl, rfl⟩) hR
    · rename_i k n e1
      cases he
      obtain ⟨k1, _⟩ := ofOperand_eval hx e1 hE
      exact does_un hop k1 (.inr ⟨rfl, k, n, rfl, rfl⟩) hR
    · rename_i k n e1
      cases he
      obtain ⟨k1, _⟩ := ofOperand_eval hx e1 hE
      exact does_xor hop (by rw [k1]; simp [conc]) hR
    · cases he
  case convert s d x =>
    split at hc
    · rename_i ds k x' hs hd hx
      cases hc
      simp only [Op1.ev] at he
      split at he
      · rename_i k' n e1
        cases he
        obtain ⟨k1, _⟩ := ofOperand_eval hx e1 hE
        exact does_conv (k' := k') hop hs hd (by rw [k1]; simp [conc]) hR
      · cases he
    · cases hc
  case makeInterface t x =>
    split at hc
    · rename_i x' hx
      split at hc
      · rename_i hcn
        cases hc
        simp only [Op1.ev] at he
        split at he
        · rename_i u e1
          cases he
          obtain ⟨k1, k2⟩ := ofOperand_eval hx e1 hE
          exact does_mkIface hop hcn k1 k2 hR
        · cases he
      · cases hc
    · cases hc
  case makeFunc fn x c =>
    cases fn with
    | func f =>
      simp only at hc
      split at hc
      · rename_i x' c' hx hcc
        cases hc
        simp only [Op1.ev] at he
        split at he
        · rename_i vx vc e1 e2
          cases he
          obtain ⟨k1, k2⟩ := ofOperands_eval hE hx e1
          obtain ⟨k3, k4⟩ := ofOperands_eval hE hcc e2
          exact does_mkFunc hop k1 k3 k2 k4 hR
        · cases he
      · cases hc
    | _ => cases hc
  case extract x i =>
    simp only [Option.map_eq_some_iff] at hc
    obtain ⟨x', hx, rfl⟩ := hc
    simp only [Op1.ev] at he
    split at he
    · rename_i vs e1
      split at he
      · rename_i u hn
        cases he
        obtain ⟨k1, k2⟩ := ofOperand_eval hx e1 hE
        exact does_extract hop k1 k2 hn hR
      · cases he
    · cases he
  case call c =>
    have args2 : ∀ {x y : Operand}, c.args.toList = [x, y] → c.args = #[x, y] := fun h => Array.toList_inj.1 (by simpa using h)
    split at hc
    · rename_i f hcal
      simp only [Option.map_eq_some_iff] at hc
      obtain ⟨xs', hx, rfl⟩ := hc
      simp only [Op1.ev] at he
      split at he
      · rename_i vs con e1 e2
        obtain ⟨k1, k2⟩ := ofOperands_eval hE hx e1
        have := conEv_spec he
        exact does_call hop hcal (hΓ f con e2) k1 k2 this hp hR
      · cases he
    · rename_i x hnf hcal
      split at hc
      · rename_i x' xs' hx hxs
        cases hc
        simp only [Op1.ev] at he
        split at he
        · rename_i f va vc vs e1 e2
          split at he
          · rename_i con e3
            obtain ⟨k0, k00⟩ := ofOperand_eval hx e1 hE
            obtain ⟨k1, k2⟩ := ofOperands_eval hE hxs e2
            have := conEv_spec he
            exact does_callv hop hcal k0 k00.1 k00.2 (hΓ f con e3) k1 k2 this hp hR
          · cases he
        · cases he
      · cases hc
    · rename_i hcal
      split at hc
      · rename_i x y hargs
        split at hc
        · rename_i x' y' hx hy
          cases hc
          simp only [Op1.ev] at he
          split at he
          · rename_i k m k' n e1 e2
            cases hb : kb k k' <;> simp only [hb, cond_true, cond_false] at he
            · cases he
            · have := kb_eq hb; subst this
              cases he
              obtain ⟨k1, _⟩ := ofOperand_eval hx e1 hE
              obtain ⟨k2, _⟩ := ofOperand_eval hy e2 hE
              exact does_minmax hop (args2 hargs) (by rw [k1]; simp [conc]) (by rw [k2]; simp [conc]) (.inl ⟨hcal, rfl⟩) hR
          · cases he
        · cases hc
      · cases hc
    · rename_i hcal
      split at hc
      · rename_i x y hargs
        split at hc
        · rename_i x' y' hx hy
          cases hc
          simp only [Op1.ev] at he
          split at he
          · rename_i k m k' n e1 e2
            cases hb : kb k k' <;> simp only [hb, cond_true, cond_false] at he
            · cases he
            · have := kb_eq hb; subst this
              cases he
              obtain ⟨k1, _⟩ := ofOperand_eval hx e1 hE
              obtain ⟨k2, _⟩ := ofOperand_eval hy e2 hE
              exact does_minmax hop (args2 hargs) (by rw [k1]; simp [conc]) (by rw [k2]; simp [conc]) (.inr ⟨hcal, rfl⟩) hR
          · cases he
        · cases hc
      · cases hc
    · rename_i hcal
      split at hc
      · rename_i x y T T2 hargs htys
        have ha : c.args = #[x, y] := args2 hargs
        have hat : c.argTypes = #[T, T2] := Array.toList_inj.1 (by simpa using htys)
        split at hc
        · rename_i t x' y' hu hx hy
          split at hc
          · rename_i i z hi hz
            split at hc
            · rename_i hcond
              cases hc
              rw [Bool.and_eq_true] at hcond
              have := beq_eq hcond.1; subst this
              obtain ⟨i', zv, z1, z2, z3, z4⟩ := zeroOk_spec hz
              rw [hi] at z1; cases z1
              have hzs : zv.cells.size = i.size := by
                have h1 := eat_cells ρ z _ _ z4
                have h2 := cl_len ρ z t (fitB_fit P z t z3)
                rw [List.append_nil] at h1
                rw [← h1, Array.length_toList] at h2
                rw [h2]; simp [Program.cellsOf, hi]
              simp only [Op1.ev] at he
              split at he
              · rename_i t0 cb bs off st k cap t' hb e1 e2
                split at he
                · rename_i t'' rw' m g hrow
                  cases hbq : (Nat.beq t t' && Nat.beq t t'') <;> simp only [hbq, cond_true, cond_false] at he
                  · cases he
                  · rw [Bool.and_eq_true] at hbq
                    have h1 := beq_eq hbq.1; have h2 := beq_eq hbq.2; subst h1 h2
                    cases he
                    obtain ⟨k1, _⟩ := ofOperand_eval hx e1 hE
                    obtain ⟨k2, kw⟩ := ofOperand_eval hy e2 hE
                    exact does_append_nil hop hcal ha hat hu hi z2 hzs (by rw [k1]; simp [conc]) k2 hrow kw hp.1 hp.2 hb hR
                · cases he
              · rename_i t0 b off0 n tx cb bs off st k cap t' hb e1 e2
                split at he
                · rename_i ty m' f t'' rw' m g hrow1 hrow
                  cases hbq : (Nat.beq t t' && Nat.beq t t'' && Nat.beq t tx && Nat.beq t ty) <;> simp only [hbq, cond_true, cond_false] at he
                  · cases he
                  · simp only [Bool.and_eq_true] at hbq
                    have h1 := beq_eq hbq.1.1.1; have h2 := beq_eq hbq.1.1.2; have h3 := beq_eq hbq.1.2; have h4 := beq_eq hbq.2; subst h1 h2 h3 h4
                    cases he
                    obtain ⟨k1, _⟩ := ofOperand_eval hx e1 hE
                    obtain ⟨k2, kw⟩ := ofOperand_eval hy e2 hE
                    obtain ⟨p1, p2, p3, p4⟩ := hp
                    subst p1
                    exact does_append hop hcal ha hat hu hi z2 hzs k1 p2 hrow1 k2 hrow kw p3 p4 hb hR
                · cases he
              · cases he
            · cases hc
          · cases hc
        · cases hc
      · cases hc
    · rename_i hcal
      split at hc
      · rename_i x t hargs htys
        have ha : c.args = #[x] := Array.toList_inj.1 (by simpa using hargs)
        have hat : c.argTypes = #[t] := Array.toList_inj.1 (by simpa using htys)
        split at hc
        · rename_i x' et hx hu
          cases hc
          simp only [Op1.ev] at he
          split at he
          · rename_i e1 e2
            cases he
            obtain ⟨k1, kw⟩ := ofOperand_eval hx e2 hE
            exact does_len (n := 0) hop ha hat hcal k1 (.inl ⟨hu, .inl ⟨rfl, rfl⟩⟩) kw (fun _ _ _ _ _ _ _ _ h => by cases h) hR
          · rename_i b bs off pre start n cap s e1 e2
            cases hrow : isRow (nth H b) <;> simp only [hrow, cond_true, cond_false] at he
            · cases he
            · cases he
              obtain ⟨k1, kw⟩ := ofOperand_eval hx e2 hE
              exact does_len hop ha hat hcal k1 (.inl ⟨hu, .inr ⟨_, _, _, _, _, _, _, rfl⟩⟩) kw (fun _ _ _ _ _ _ _ _ h => by cases h; exact hrow) hR
          · rename_i s e1 e2; cases e1
          · cases he
        · rename_i x' hx hu
          cases hc
          simp only [Op1.ev] at he
          split at he
          · rename_i e1 e2; cases e1
          · rename_i b bs off pre start n cap s e1 e2; cases e1
          · rename_i s e1 e2
            cases he
            obtain ⟨k1, kw⟩ := ofOperand_eval hx e2 hE
            exact does_len (et := 0) hop ha hat hcal k1 (.inr ⟨hu, s, rfl, rfl⟩) kw (fun _ _ _ _ _ _ _ _ h => by cases h) hR
          · cases he
        · cases hc
      · cases hc
    · cases hc

/-! Try# what is known -/
def KnOk (K : Kn) (E : Env) : Prop := ∀ t b, lk K t = some (some b) → lk E t = some b

theorem knV_ev {K : Kn} {x : O} {v : V} (h : KnOk K E) (hb : knV K x = some v) : x.ev E = some v := by
  cases x with
  | t n =>
    simp only [knV] at hb
    split at hb
    · rename_i b' hl; subst hb; exact h n v hl
    · cases hb
  | k v => simp only [knV] at hb; cases hb; rfl

theorem asB_some {x : Option V} {b : Bool} (h : asB x = some b) : x = some (.bool b) := by
  unfold asB at h
  split at h
  · cases h; rfl
  · cases h

theorem knO_ev {K : Kn} {x : O} {b : Bool} (h : KnOk K E) (hb : knO K x = some b) : x.ev E = some (.bool b) :=
  knV_ev h (asB_some hb)

theorem resolve_ev {Γ : List (Nat × Con)} {K : Kn} {base : Nat} {o : Op1} {r : Res} (h : KnOk K E) (hr : (resK K o).ev Γ base E H = some r) : o.ev Γ base E H = some r := by
  cases o with
  | pick c x y =>
    simp only [resK] at hr
    split at hr
    · rename_i hb
      simp only [Op1.ev, knO_ev h hb, cond_true] at hr ⊢
      exact hr
    · rename_i hb
      simp only [Op1.ev, knO_ev h hb, cond_false] at hr ⊢
      exact hr
    · simp only [Op1.ev] at hr ⊢
      split at hr
      · rename_i b x' y' e1 e2 e3
        cases hr
        rw [e1]
        cases b <;> simp [e2, e3]
      · cases hr
  | _ => exact hr

theorem kn_ev {Γ : List (Nat × Con)} {K : Kn} {base : Nat} {o : Op1} {p : Pre} {v : V} {H' : Heap} {fp : FP} {b : V} (h : KnOk K E) (hr : o.ev Γ base E H = some ⟨p, v, H', fp⟩) (hk : kn base K o = some b) : v = b := by
  unfold kn at hk
  split at hk
  · rename_i x
    simp only [Op1.ev, knV_ev h hk] at hr
    cases hr; rfl
  · rename_i x
    split at hk
    · rename_i b' hb'
      cases hk
      simp only [Op1.ev, knV_ev h hb'] at hr
      cases hr; rfl
    · cases hk
  · rename_i op x y
    split at hk
    · rename_i k a k' b' e1 e2
      cases hb : kb k k' <;> simp only [hb, cond_true, cond_false] at hk
      · cases hk
      · split at hk
        · rename_i u e3
          cases hk
          simp only [Op1.ev, knV_ev h e1, knV_ev h e2, hb, cond_true, e3] at hr
          cases hr; rfl
        · cases hk
    · cases hk
  · rename_i k x
    split at hk
    · rename_i k' a e1
      cases hk
      simp only [Op1.ev, knV_ev h e1] at hr
      cases hr; rfl
    · cases hk
  · rename_i x
    split at hk
    · rename_i e1
      cases hk
      simp only [Op1.ev, knV_ev h e1] at hr
      cases hr; rfl
    · rename_i b1 b2 b3 b4 b5 n b6 b7 e1
      cases hk
      simp only [Op1.ev, knV_ev h e1] at hr
      cases hrow : isRow (nth H b1) <;> simp only [hrow, cond_true, cond_false] at hr
      · cases hr
      · cases hr; rfl
    · cases hk
  · rename_i s t n tk z ps
    cases hk
    simp only [Op1.ev] at hr
    split at hr
    · rename_i vs e1 e2
      cases hb : tagsB true [(t, tk)] vs <;> simp only [hb, cond_true, cond_false] at hr
      · cases hr
      · cases hr; rfl
    · cases hr
  · cases hk

theorem KnOk.bind {K : Kn} {d : Option Nat} {v : V} {b : Option V} (h : KnOk K E) (hv : ∀ c, b = some c → v = c) : KnOk (bindK K d b) (bindD E d v) := by
  cases d with
  | none => exact h
  | some d =>
    intro t c hc
    simp only [bindK, bindD] at hc ⊢
    rw [lk_cons] at hc ⊢
    by_cases e : d = t
    · rw [if_pos e] at hc ⊢
      cases hc
      rw [hv c rfl]
    · rw [if_neg e] at hc ⊢; exact h t c hc

theorem KnOk.know {K : Kn} {g : Nat} {b : Bool} (h : KnOk K E) (hb : lk E g = some (.bool b)) : KnOk ((g, some (.bool b)) :: K) E := by
  intro t c hc
  rw [lk_cons] at hc
  by_cases e : g = t
  · rw [if_pos e] at hc; cases hc; subst e; exact hb
  · rw [if_neg e] at hc; exact h t c hc

end
end Dd
