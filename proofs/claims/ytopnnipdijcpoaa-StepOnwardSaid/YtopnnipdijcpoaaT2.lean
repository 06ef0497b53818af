/- Texts of this seat, joined: D9, D10, D11, D12, D15, D17, D19, D13, D14, D16, D18, DA, DO, DS, DR, DX, DW, DT, DV. -/
import Derived.IntWalk
import Derived.WalkKit
import Derived.ProofKit
import Derived.OpenShut
import Derived.ShutString
import Derived.ChangeOld
import Derived.Below
import Derived.SizedLaws
import Derived.ChangeArms
import Derived.DataReads
import Derived.Test.YtopnnipdijcpoaaT1
namespace Dd
set_option linter.unusedVariables false
set_option linter.unusedSimpArgs false
set_option maxRecDepth 100000
open Go Go.RowKit
section
def zeroOk (P : Program) (t : TypeId) : Option V :=
 match P.info? t with
 | none => none
 | some i => match i.zero, zeroV P 40 t with
  | some zv, some z => match eat z zv.cells.toList with
   | some [] => if fitB P z t then some z else none
   | _ => none
  | _, _ => none
theorem zeroOk_spec {P : Program} {t : TypeId} {z : V} (h : zeroOk P t = some z) : ∃ i zv, P.info? t = some i /\ i.zero = some zv /\ fitB P z t = true /\ eat z zv.cells.toList = some [] := by
 unfold zeroOk at h
 split at h
 ·cases h
 ·rename_i i hi
  split at h
  ·rename_i zv z' h1 h2
   split at h
   ·rename_i h3
    split at h
    ·rename_i h4; cases h; exact ⟨i, zv, hi, h1, h4, h3⟩
    ·cases h
   ·cases h
  ·cases h
def tagsOf (P : Program) : List Field -> Option (List (TypeId × Tk))
 | [] => some []
 | f :: fs => match tkOf (P.underlying f.type), tagsOf P fs with
  | some tk, some l => if tyOk P f.type then some ((f.type, tk) :: l) else none
  | _, _ => none
theorem tagsOf_at {P : Program} : ∀ {fs : List Field} {l : List (TypeId × Tk)}, tagsOf P fs = some l -> ∀ i t tk, nth l i = some (t, tk) -> ∃ f, fs[i]? = some f /\ f.type = t /\ tkOf (P.underlying t) = some tk /\ tyOk P t = true
 | [], l, h, i, t, tk, hn => by simp [tagsOf] at h; subst h; simp [nth] at hn
 | f :: fs, l, h, i, t, tk, hn => by
  simp only [tagsOf] at h
  split at h
  ·rename_i tk' l' h1 h2
   split at h
   ·rename_i h3
    cases h
    cases i with
    | zero => simp [nth] at hn; obtain ⟨rfl, rfl⟩ := hn; exact ⟨f, by simp, rfl, h1, h3⟩
    | succ i => obtain ⟨g, hg⟩ := tagsOf_at h2 i t tk (by simpa [nth] using hn); exact ⟨g, by simpa using hg.1, hg.2⟩
   ·cases h
  ·cases h
def infoOf (P : Program) : List Field -> Option (List (Nat × Nat))
 | [] => some []
 | f :: fs => match P.info? f.type, infoOf P fs with
  | some i, some l => some ((f.offset, i.size) :: l)
  | _, _ => none
theorem infoOf_mapM {P : Program} : ∀ {fs : List Field} {l : List (Nat × Nat)}, infoOf P fs = some l -> fs.mapM (fun f => (P.info? f.type).map fun i => (f.offset, i.size)) = some l
 | [], l, h => by simp [infoOf] at h; subst h; simp
 | f :: fs, l, h => by
  simp only [infoOf] at h
  split at h
  ·rename_i i l' h1 h2
   cases h
   have := infoOf_mapM h2
   simp [List.mapM_cons, h1, this]
  ·cases h
theorem infoOf_at {P : Program} : ∀ {fs : List Field} {l : List (Nat × Nat)}, infoOf P fs = some l -> ∀ (i : Nat) (f : Field), fs[i]? = some f -> l[i]? = some (f.offset, P.cellsOf f.type)
 | [], l, h, i, f, hf => by simp at hf
 | g :: fs, l, h, i, f, hf => by
  simp only [infoOf] at h
  split at h
  ·rename_i j l' h1 h2
   cases h
   cases i with
   | zero => simp at hf; subst hf; simp [Program.cellsOf, h1]
   | succ i => simpa using infoOf_at h2 i f (by simpa using hf)
  ·cases h
def eqKind (P : Program) (t : TypeId) : Tk -> Bool
 | .agg => eqT P 30 t && !P.eqGuardType P.depth t
 | .bool | .str | .ptr | .sl => true
 | _ => false
def ofOpt : Option Operand -> Option (Option O)
 | none => some none
 | some x => match ofOperand x with
  | some y => some (some y)
  | none => none
def zeroC (P : Program) (t : TypeId) : Option V :=
 match P.underlying t with
 | some (.interface _) => none
 | some _ => if isAggT P t then none else match (P.info? t).bind (·.zero) with
  | some (.agg _) => none
  | _ => zeroOk P t
 | none => none
def compOp (P : Program) (slot : Nat) : Op -> Option Op1
 | .buildSlice T n ps => match P.underlying T, ofParts ps.toList with
  | some (.slice t), some ps' => match P.info? t, tkOf (P.underlying t), zeroOk P t with
   | some i, some tk, some z => if tyOk P t && ps.toList.all (fun x => decide (x.1 < n)) && Nat.ble (n * i.size) 16777216 then some (.bslice slot t n tk z ps') else none
   | _, _, _ => none
  | _, _ => none
 | .makeSlice T l c => match P.underlying T, ofOperand l, ofOperand c with
  | some (.slice t), some l', some c' => match P.info? t, zeroOk P t with
   | some i, some z => some (.mslice slot t i.bytes z l' c')
   | _, _ => none
  | _, _, _ => none
 | .slice T x lo hi mx => match mx with
  | some _ => none
  | none => match P.underlying T, ofOperand x, ofOpt lo, ofOpt hi with
   | some (.slice t), some x', some lo', some hi' => match P.info? t with
    | some i => some (.slc t i.size x' lo' hi')
    | none => none
   | some (.array m t), some x', some lo', some hi' => match P.info? t with
    | some i => some (.aslc T t m i.size x' lo' hi')
    | none => none
   | _, _, _, _ => none
 | .makeMap T r => match r with
  | none => some (.mkmap slot T)
  | some _ => none
 | .insert T m k v => match P.underlying T with
  | some (.map kt _) => match P.underlying kt, ofOperand m, ofOperand k, ofOperand v with
   | some (.int kk), some m, some k, some v => some (.mins kk m k v)
   | _, _, _, _ => none
  | _ => none
 | .lookup T m k ok => match P.underlying T with
  | some (.map kt et) => match P.underlying kt, P.info? et, ofOperand m, ofOperand k with
   | some (.int kk), some i, some m, some k => match i.zero with
    | some (.int kv z) => if z = 0 then some (.mlook kk kv ok m k) else none
    | _ => none
   | _, _, _, _ => none
  | _ => none
 | .typeAssert x _ t ok => match ok with
  | false => none
  | true => match ofOperand x, zeroC P t with
   | some x', some z => some (.tassert t z x')
   | _, _ => none
 | .move x => (ofOperand x).map .mov
 | .assign x => (ofOperand x).map .mov
 | .pick c x y => match ofOperand c, ofOperand x, ofOperand y with
  | some c, some x, some y => some (.pick c x y)
  | _, _, _ => none
 | .alloc t => (zeroOk P t).map (.alloc slot t)
 | .box t x => match ofOperand x, tkOf (P.underlying t) with
  | some x, some tk => if tyOk P t then some (.box slot t tk x) else none
  | _, _ => none
 | .build t ps => match P.underlying t, zeroOk P t, ofParts ps.toList with
  | some (.struct fs), some z, some ps' => match tagsOf P fs.toList, infoOf P fs.toList with
   | some tags, some _ => some (.build t false tags z ps')
   | _, _ => none
  | some (.array n e), some z, some ps' => match tkOf (P.underlying e), P.info? e with
   | some tk, some _ => if tyOk P e && ps.toList.all (fun x => decide (x.1 < n)) then some (.build t true [(e, tk)] z ps') else none
   | _, _ => none
  | _, _, _ => none
 | .load t x => match ofOperand x with
  | some x => if tyOk P t then some (.load t x) else none
  | none => none
 | .store t x y => match ofOperand x, ofOperand y, tkOf (P.underlying t) with
  | some x, some y, some tk => if tyOk P t then some (.store t tk x y) else none
  | _, _, _ => none
 | .nilCheck x => (ofOperand x).map .nilCheck
 | .fieldAddr s x k => match P.underlying s, ofOperand x with
  | some (.struct fs), some x => match fs[k]? with
   | some f => if P.cellsOf f.type = 0 then none else some (.fieldAddr s x k f.offset f.type)
   | none => none
  | _, _ => none
 | .field s x k => match P.underlying s, ofOperand x with
  | some (.struct fs), some x => match fs[k]? with
   | some f => if tyOk P f.type then some (.field s x k) else none
   | none => none
  | _, _ => none
 | .indexAddr s x i => match P.underlying s, ofOperand x, ofOperand i with
  | some (.array n e), some x, some i => if (P.info? e).isSome then some (.arrAddr s n (P.cellsOf e) e x i) else none
  | some (.slice e), some x, some i => if (P.info? e).isSome then some (.slAddr e (P.cellsOf e) x i) else none
  | _, _, _ => none
 | .index s x i => match P.underlying s, ofOperand x, ofOperand i with
  | some (.array n e), some x, some i => if tyOk P e then some (.index s n x i) else none
  | some .string, some x, some i => some (.sidx x i)
  | _, _, _ => none
 | .binOp op t x y _ => match ofOperand x, ofOperand y, tkOf (P.underlying t) with
  | some x, some y, some tk => match tk with
   | .int _ => match op with
    | .shl | .shr => some (.sh op x y)
    | _ => some (.bin op x y)
   | .str => match op with
    | .add => some (.scat x y)
    | .eql => if tyOk P t && eqKind P t .str then some (.eqv t .str false x y) else none
    | .neq => if tyOk P t && eqKind P t .str then some (.eqv t .str true x y) else none
    | _ => none
   | tk => if tyOk P t && eqKind P t tk then (match op with
    | .eql => some (.eqv t tk false x y)
    | .neq => some (.eqv t tk true x y)
    | _ => none) else none
  | _, _, _ => none
 | .unOp op _ x => (ofOperand x).map (.un op)
 | .convert s d x => match P.underlying s, P.underlying d, ofOperand x with
  | some _, some (.int k), some x => some (.conv k x)
  | some (.slice t), some .string, some x => match P.underlying t with
   | some (.int .u8) => some (.b2s x)
   | _ => none
  | _, _, _ => none
 | .makeInterface t x => match ofOperand x with
  | some x => if P.concrete t then some (.mkIface t x) else none
  | none => none
 | .makeFunc (.func f) x c => match ofOperands x.toList, ofOperands c.toList with
  | some x, some c => some (.mkFunc f x c)
  | _, _ => none
 | .extract x i => (ofOperand x).map fun x => .extract x i
 | .call c => match c.callee with
  | .value (.func f) => (ofOperands c.args.toList).map (.call f)
  | .value x => match ofOperand x, ofOperands c.args.toList with
   | some x, some l => some (.callv x l)
   | _, _ => none
  | .builtin .min => match c.args.toList with
   | [x, y] => match ofOperand x, ofOperand y with
    | some x, some y => some (.mn x y)
    | _, _ => none
   | _ => none
  | .builtin .max => match c.args.toList with
   | [x, y] => match ofOperand x, ofOperand y with
    | some x, some y => some (.mx x y)
    | _, _ => none
   | _ => none
  | .builtin .append => match c.args.toList, c.argTypes.toList with
   | [x, y], [T, T2] => match P.underlying T, ofOperand x, ofOperand y with
    | some (.slice t), some x', some y' => match P.info? t, zeroOk P t with
     | some i, some z => if Nat.beq T T2 && fitB P z t then some (.append slot t i.bytes x' y') else none
     | _, _ => none
    | _, _, _ => none
   | _, _ => none
  | .builtin .clear => match c.args.toList, c.argTypes.toList with
   | [x], [T] => match P.underlying T, ofOperand x with
    | some (.slice t), some x' => match zeroOk P t with
     | some z => some (.clr t z x')
     | none => none
    | _, _ => none
   | _, _ => none
  | .builtin .len => match c.args.toList, c.argTypes.toList with
   | [x], [t] => match ofOperand x, P.underlying t with
    | some x, some (.slice _) => some (.len false x)
    | some x, some .string => some (.len true x)
    | _, _ => none
   | _, _ => none
  | _ => none
 | _ => none
section
variable {P : Program} {ρ : Rho} {H : Heap} {w : World} {E : Env} {a : Act}
theorem ofOpt_eval (hE : ERel P ρ H E a.tmps) : ∀ {x : Option Operand} {x' : Option O} {v : Option V}, ofOpt x = some x' -> evo E x' = some v -> x.map a.eval = v.map (conc ρ)
 | none, x', v, h, hv => by simp [ofOpt] at h; subst h; simp [evo] at hv; subst hv; rfl
 | some x, x', v, h, hv => by
  simp only [ofOpt] at h
  split at h
  ·rename_i y hy
   cases h
   simp only [evo] at hv
   split at hv
   ·rename_i u hu; cases hv
    simp [(ofOperand_eval hy hu hE).1]
   ·cases hv
  ·cases h
theorem place_field {t : TypeId} {fs : Array Field} {k : Nat} {f : Field} (hu : P.underlying t = some (.struct fs)) (hf : fs[k]? = some f) : place P t [k] = some (f.offset, f.type) := by
 simp [place, hu, hf]
set_option maxHeartbeats 1000000 in
theorem ev_sound {Γ : List (Nat × Con)} (hΓ : Known0 P Γ) {o : Oper} {o1 : Op1} {slot base : Nat} {p : Pre} {v : V} {H' : Heap} {fp : FP} (hc : compOp P slot o.op = some o1) (he : o1.ev Γ base E H = some ⟨p, v, H', fp⟩) (hp : Pre.ok p)
    (hE : ERel P ρ H E a.tmps) (hR : HRel P ρ H w) : Does P o a w ρ H v H' := by
  have conEv_spec : ∀ {c : Con} {vs : List V} {r : Res}, conEv c vs H = some r -> c.d vs H = some (r.pre, r.v, r.h) := by
    intro c vs r h
    cases c with
    | pure F =>
      simp only [conEv] at h
      split at h
      · rename_i q u hq; cases h; simp [Con.d, hq]
      · cases h
    | read F =>
      simp only [conEv] at h
      split at h
      · rename_i q u hq; cases h; simp [Con.d, hq]
      · cases h
    | heap D =>
      simp only [conEv] at h
      split at h
      · rename_i q u H1 hq; cases h; simp [Con.d, hq]
      · cases h
    | mk F =>
      simp only [conEv] at h
      split at h
      · rename_i q u bl hq; cases h; simp [Con.d, hq]
      · cases h
    | rdp F =>
      simp only [conEv] at h
      split at h
      · rename_i b q G hq
        split at h
        · rename_i u hu
          split at h
          · rename_i q2 u2 hG; cases h; simp [Con.d, hq, hu, hG]
          · cases h
        · cases h
      · cases h
    | mkr F =>
      simp only [conEv] at h
      split at h
      · rename_i rs K hq
        split at h
        · rename_i q2 u2 bl hK; cases h; simp [Con.d, hq, hK]
        · cases h
      · cases h
    | rdb F =>
      simp only [conEv] at h
      split at h
      · rename_i b G hq
        split at h
        · rename_i rs K hG
          split at h
          · rename_i q2 u2 hK; cases h; simp [Con.d, hq, hG, hK]
          · cases h
        · cases h
      · cases h
    | inl ir np rs => simp [conEv] at h
  cases hop : o.op <;> rw [hop] at hc <;> simp only [compOp] at hc <;> try (cases hc; done)
  case move x =>
    simp only [Option.map_eq_some_iff] at hc
    obtain ⟨x', hx, rfl⟩ := hc
    simp only [Op1.ev] at he
    split at he
    · rename_i u hu; cases he; exact does_move (.inl hop) hx hu hE hR
    · cases he
  case buildSlice T n ps =>
    split at hc
    · rename_i t ps' hu hps
      split at hc
      · rename_i i tk z hi hk hz
        split at hc
        · rename_i hcond
          cases hc
          simp only [Bool.and_eq_true] at hcond
          obtain ⟨⟨hty, hall⟩, hbig⟩ := hcond
          obtain ⟨i', zv, z1, z2, z3, z4⟩ := zeroOk_spec hz
          rw [hi] at z1; cases z1
          simp only [Op1.ev] at he
          split at he
          · rename_i t0 vs hb hvs
            cases htag : tagsB true [(t, tk)] vs <;> simp only [htag, cond_true, cond_false] at he
            · cases he
            · cases he
              obtain ⟨k1, k2, k3⟩ := evp_eval hE hps hvs
              refine does_bslice hop hu hi z2 z3 z4 (Nat.le_of_ble_eq_true hbig) hty hk k1 (fun x hx => ?_) hb hR
              obtain ⟨t', tk', n1, n2⟩ := tagsB_at htag x hx
              simp [nth] at n1
              obtain ⟨rfl, rfl⟩ := n1
              refine ⟨?_, n2, k2 x hx⟩
              have : x.1 ∈ vs.map (·.1) := List.mem_map.2 ⟨x, hx, rfl⟩
              rw [k3] at this
              obtain ⟨y, hy, hyx⟩ := List.mem_map.1 this
              have := List.all_eq_true.1 hall y hy
              simp at this; omega
          · cases he
        · cases hc
      · cases hc
    · cases hc
  case makeSlice T l c =>
    split at hc
    · rename_i t l' c' hu hl hcc
      split at hc
      · rename_i i z hi hz
        cases hc
        obtain ⟨i', zv, z1, z2, z3, z4⟩ := zeroOk_spec hz
        rw [hi] at z1; cases z1
        simp only [Op1.ev] at he
        split at he
        · rename_i t0 kl ln kc cn hb e1 e2
          cases he
          obtain ⟨k1, _⟩ := ofOperand_eval hl e1 hE
          obtain ⟨k2, _⟩ := ofOperand_eval hcc e2 hE
          exact does_mslice (kl := kl) (kc := kc) hop hu hi z2 z3 z4 (by rw [k1]; simp [conc]) (by rw [k2]; simp [conc]) hp hb hR
        · cases he
      · cases hc
    · cases hc
  case slice T x lo hi mx =>
    cases mx with
    | some _ => cases hc
    | none =>
      simp only at hc
      split at hc
      · rename_i t x' lo' hi' hu hx hlo hhi
        split at hc
        · rename_i i hi2
          cases hc
          simp only [Op1.ev] at he
          split at he
          · rename_i b bs off pre st n cap t' lv hv e1 e2 e3
            split at he
            · rename_i lz hz b1 b2
              cases hb : (Nat.beq t t' && isRow (nth H b)) <;> simp only [hb, cond_true, cond_false] at he
              · cases he
              · rw [Bool.and_eq_true] at hb
                have := beq_eq hb.1; subst this
                cases he
                obtain ⟨k1, k2⟩ := ofOperand_eval hx e1 hE
                exact does_slc hop hu hi2 k1 k2 (ofOpt_eval hE hlo e2) (ofOpt_eval hE hhi e3) b1 b2 hp hb.2 hR
            · cases he
          · cases he
        · cases hc
      · rename_i m t x' lo' hi' hs hx hlo hhi
        split at hc
        · rename_i i hi2
          cases hc
          simp only [Op1.ev] at he
          split at he
          · rename_i b of p t' lv hv e1 e2 e3
            split at he
            · rename_i lz hz b1 b2
              cases hb : (Nat.beq T t' && isRow (nth H b)) <;> simp only [hb, cond_true, cond_false] at he
              · cases he
              · rw [Bool.and_eq_true] at hb
                have := beq_eq hb.1; subst this
                cases he
                obtain ⟨k1, k2⟩ := ofOperand_eval hx e1 hE
                exact does_aslc hop hs hi2 k1 k2 (ofOpt_eval hE hlo e2) (ofOpt_eval hE hhi e3) b1 b2 hp hb.2 hR
            · cases he
          · cases he
        · cases hc
      · cases hc
  case makeMap T r =>
    cases r with
    | some _ => cases hc
    | none =>
      cases hc
      simp only [Op1.ev] at he
      split at he
      · rename_i t0 hb
        cases he
        exact does_mkmap hop hb hR
      · cases he
  case insert T m k v =>
    split at hc
    · rename_i kt et hT
      split at hc
      · rename_i kk m' k' v' hk hm hk' hv
        cases hc
        simp only [Op1.ev] at he
        split at he
        · rename_i b k2 n u e1 e2 e3
          split at he
          · rename_i t es hb
            cases hq : (kb kk k2 && keyFree kk n es) <;> simp only [hq, cond_true, cond_false] at he
            · cases he
            · rw [Bool.and_eq_true] at hq
              have := kb_eq hq.1; subst this
              cases he
              obtain ⟨k1, _⟩ := ofOperand_eval hm e1 hE
              obtain ⟨k2, _⟩ := ofOperand_eval hk' e2 hE
              obtain ⟨k3, k4⟩ := ofOperand_eval hv e3 hE
              exact does_mins hop hT hk k1 (by rw [k2]; simp [conc]) k3 k4 hb hq.2 hR
          · cases he
        · cases he
      · cases hc
    · cases hc
  case lookup T m k ok =>
    split at hc
    · rename_i kt et hT
      split at hc
      · rename_i kk i m' k' hk hi hm hk'
        split at hc
        · rename_i kv z hz
          split at hc
          · rename_i hz0
            subst hz0
            cases hc
            simp only [Op1.ev] at he
            split at he
            · rename_i b k2 n e1 e2
              split at he
              · rename_i t es hb
                cases hq : kb kk k2 <;> simp only [hq, cond_true, cond_false] at he
                · cases he
                · have := kb_eq hq; subst this
                  split at he
                  · rename_i r f hg
                    cases he
                    obtain ⟨k1, _⟩ := ofOperand_eval hm e1 hE
                    obtain ⟨k2, _⟩ := ofOperand_eval hk' e2 hE
                    exact does_mlook hop hT hk hi hz k1 (by rw [k2]; simp [conc]) hb hg hR
                  · cases he
              · cases he
            · cases he
          · cases hc
        · cases hc
      · cases hc
    · cases hc
  case typeAssert x xt t ok =>
    cases ok with
    | false => cases hc
    | true =>
      simp only at hc
      split at hc
      · rename_i x' z hx hz
        cases hc
        unfold zeroC at hz
        split at hz
        · cases hz
        · rename_i d hd hu
          split at hz
          · cases hz
          · rename_i hag
            split at hz
            · cases hz
            · rename_i hna
              obtain ⟨i, zv, z1, z2, z3, z4⟩ := zeroOk_spec hz
              have hfit := fitB_fit P z t z3
              have hsc : cl ρ z = [conc ρ z] := scalar_conc hfit (by simpa using hag)
              have hcl := eat_cells ρ z _ _ z4
              rw [List.append_nil, hsc] at hcl
              simp only [Op1.ev] at he
              split at he
              · rename_i t' u e1
                cases he
                obtain ⟨k1, k2⟩ := ofOperand_eval hx e1 hE
                refine does_tassert hop hu (fun m hm => hd m hm) z1 z2 ?_ (eat_wf z t _ _ z4 hfit) k1 k2 hR
                cases zv <;> simp [Value.cells] at hcl <;> try exact hcl
                rename_i cs
                exact absurd (by rw [z1]; exact z2) (hna cs)
              · cases he
        · cases hz
      · cases hc
  case assign x =>
    simp only [Option.map_eq_some_iff] at hc
    obtain ⟨x', hx, rfl⟩ := hc
    simp only [Op1.ev] at he
    split at he
    · rename_i u hu; cases he; exact does_move (.inr hop) hx hu hE hR
    · cases he
  case pick c x y =>
    split at hc
    · rename_i c' x' y' h1 h2 h3
      cases hc
      simp only [Op1.ev] at he
      split at he
      · rename_i bv e1
        obtain ⟨k1, _⟩ := ofOperand_eval h1 e1 hE
        cases bv with
        | true =>
          simp only [cond_true] at he
          split at he
          · rename_i u e2; cases he
            obtain ⟨k2, w2⟩ := ofOperand_eval h2 e2 hE
            exact does_pick (b := true) hop (by rw [k1]; simp [conc]) (by simpa using k2) w2 hR
          · cases he
        | false =>
          simp only [cond_false] at he
          split at he
          · rename_i u e3; cases he
            obtain ⟨k3, w3⟩ := ofOperand_eval h3 e3 hE
            exact does_pick (b := false) hop (by rw [k1]; simp [conc]) (by simpa using k3) w3 hR
          · cases he
      · cases he
    · cases hc
  case alloc t =>
    simp only [Option.map_eq_some_iff] at hc
    obtain ⟨z, hz, rfl⟩ := hc
    obtain ⟨i, zv, z1, z2, z3, z4⟩ := zeroOk_spec hz
    simp only [Op1.ev] at he
    split at he
    · rename_i t0 hb; cases he
      exact does_alloc hop z1 z2 z3 z4 hb hR
    · cases he
  case box t x =>
    split at hc
    · rename_i x' tk hx hk
      split at hc
      · rename_i ht
        cases hc
        simp only [Op1.ev] at he
        split at he
        · rename_i t0 u hb hu
          cases htag : tagB t tk u <;> simp only [htag, cond_true, cond_false] at he
          · cases he
          · cases he
            obtain ⟨k1, k2⟩ := ofOperand_eval hx hu hE
            exact does_box hop ht k1 k2 hk htag hb hR
        · cases he
      · cases hc
    · cases hc
  case build t ps =>
    split at hc
    · rename_i fs z ps' hu hz hps
      split at hc
      · rename_i tags info ht hi
        cases hc
        obtain ⟨i, zv, z1, z2, z3, z4⟩ := zeroOk_spec hz
        simp only [Op1.ev] at he
        split at he
        · rename_i vs hvs
          cases htag : tagsB false tags vs <;> simp only [htag, cond_true, cond_false] at he
          · cases he
          · split at he
            · rename_i u hbv
              cases he
              obtain ⟨k1, k2, k3⟩ := evp_eval hE hps hvs
              refine does_build (i := i) (zv := zv) (pl := (info.toArray[·]?)) hop z1 z2 z3 z4 (fun qs => ?_) k1 (fun x hx => ?_) hbv (by simp [isAggT, hu]) hR
              · simp [Program.built, z1, hu, z2, infoOf_mapM hi]
              · obtain ⟨t', tk, n1, n2⟩ := tagsB_at htag x hx
                obtain ⟨f, f1, f2, f3, f4⟩ := tagsOf_at ht x.1 t' tk (by simpa using n1)
                subst f2
                have f1' : fs[x.1]? = some f := by simpa using f1
                refine ⟨f.offset, f.type, place_field hu f1', ?_, tag_fit f4 f3 (k2 x hx) n2, k2 x hx⟩
                simpa using infoOf_at hi x.1 f f1
            · cases he
        · cases he
      · cases hc
    · rename_i n e z ps' hu hz hps
      split at hc
      · rename_i tk ie hk hie
        split at hc
        · rename_i hcond
          cases hc
          rw [Bool.and_eq_true] at hcond
          obtain ⟨hty, hall⟩ := hcond
          obtain ⟨i, zv, z1, z2, z3, z4⟩ := zeroOk_spec hz
          have hce : P.cellsOf e = ie.size := by simp [Program.cellsOf, hie]
          simp only [Op1.ev] at he
          split at he
          · rename_i vs hvs
            cases htag : tagsB true [(e, tk)] vs <;> simp only [htag, cond_true, cond_false] at he
            · cases he
            · split at he
              · rename_i u hbv
                cases he
                obtain ⟨k1, k2, k3⟩ := evp_eval hE hps hvs
                refine does_build (i := i) (zv := zv) (pl := fun j => some (j * ie.size, ie.size)) hop z1 z2 z3 z4 (fun qs => ?_) k1 (fun x hx => ?_) hbv (by simp [isAggT, hu]) hR
                · simp [Program.built, z1, hu, z2, hie]
                · obtain ⟨t', tk', n1, n2⟩ := tagsB_at htag x hx
                  simp [nth] at n1
                  obtain ⟨rfl, rfl⟩ := n1
                  have hin : x.1 < n := by
                    have : x.1 ∈ vs.map (·.1) := List.mem_map.2 ⟨x, hx, rfl⟩
                    rw [k3] at this
                    obtain ⟨y, hy, hyx⟩ := List.mem_map.1 this
                    have := List.all_eq_true.1 hall y hy
                    simp at this; omega
                  exact ⟨x.1 * P.cellsOf e, e, by simp [place, hu, hin], by rw [hce], tag_fit hty hk (k2 x hx) n2, k2 x hx⟩
              · cases he
          · cases he
        · cases hc
      · cases hc
    · cases hc
  case load t x =>
    split at hc
    · rename_i x' hx
      split at hc
      · rename_i ht
        cases hc
        simp only [Op1.ev] at he
        split at he
        · rename_i b off q t' hu
          cases hb : Nat.beq t t' <;> simp only [hb, cond_true, cond_false] at he
          · cases he
          · have := beq_eq hb; subst this
            split at he
            · rename_i u hrd
              cases he
              obtain ⟨k1, k2⟩ := ofOperand_eval hx hu hE
              exact does_load hop ht k1 k2 hrd hR
            · cases he
        · cases he
      · cases hc
    · cases hc
  case store t x y =>
    split at hc
    · rename_i x' y' tk hx hy hk
      split at hc
      · rename_i ht
        cases hc
        simp only [Op1.ev] at he
        split at he
        · rename_i b off q t' u hu hv
          cases hb : (Nat.beq t t' && tagB t tk u) <;> simp only [hb, cond_true, cond_false] at he
          · cases he
          · rw [Bool.and_eq_true] at hb
            have := beq_eq hb.1; subst this
            split at he
            · rename_i H1 hwr
              cases he
              obtain ⟨k1, k2⟩ := ofOperand_eval hx hu hE
              obtain ⟨k3, k4⟩ := ofOperand_eval hy hv hE
              exact does_store hop ht k1 k2 k3 k4 hk hb.2 hwr hR
            · cases he
        · cases he
      · cases hc
    · cases hc
  case nilCheck x =>
    simp only [Option.map_eq_some_iff] at hc
    obtain ⟨x', hx, rfl⟩ := hc
    simp only [Op1.ev] at he
    split at he
    · rename_i b off q t' hu
      cases he
      obtain ⟨k1, k2⟩ := ofOperand_eval hx hu hE
      exact does_nilCheck hop k1 k2 hR
    · cases he
  case fieldAddr s x k =>
    split at hc
    · rename_i fs x' hu hx
      split at hc
      · rename_i f hf
        split at hc
        · cases hc
        · rename_i h0
          cases hc
          simp only [Op1.ev] at he
          split at he
          · rename_i b off q t' hv
            cases hb : Nat.beq s t' <;> simp only [hb, cond_true, cond_false] at he
            · cases he
            · have := beq_eq hb; subst this
              cases he
              obtain ⟨k1, k2⟩ := ofOperand_eval hx hv hE
              exact does_fieldAddr hop hu hf h0 k1 k2 hR
          · cases he
      · cases hc
    · cases hc
  case field s x k =>
    split at hc
    · rename_i fs x' hu hx
      split at hc
      · rename_i f hf
        split at hc
        · rename_i ht
          cases hc
          simp only [Op1.ev] at he
          split at he
          · rename_i t' ps hv
            cases hb : Nat.beq s t' <;> simp only [hb, cond_true, cond_false] at he
            · cases he
            · have := beq_eq hb; subst this
              split at he
              · rename_i u hn
                cases he
                obtain ⟨k1, k2⟩ := ofOperand_eval hx hv hE
                exact does_field hop hu hf ht k1 k2 hn hR
              · cases he
          · cases he
        · cases hc
      · cases hc
    · cases hc
  case indexAddr s x i =>
    split at hc
    · rename_i n e x' i' hu hx hi
      split at hc
      · rename_i hie
        cases hc
        simp only [Op1.ev] at he
        split at he
        · rename_i b off q t' k z hv hz
          cases hb : Nat.beq s t' <;> simp only [hb, cond_true, cond_false] at he
          · cases he
          · have := beq_eq hb; subst this
            cases he
            obtain ⟨k1, k2⟩ := ofOperand_eval hx hv hE
            obtain ⟨k3, _⟩ := ofOperand_eval hi hz hE
            exact does_arrAddr (k := k) hop hu hie k1 (by rw [k3]; simp [conc]) hp k2 hR
        · cases he
      · cases hc
    · rename_i e x' i' hu hx hi
      split at hc
      · rename_i hie
        cases hc
        simp only [Op1.ev] at he
        split at he
        · rename_i b bs off pre start ln cap t' k z hv hz
          cases hb : (Nat.beq e t' && isRow (nth H b)) <;> simp only [hb, cond_true, cond_false] at he
          · cases he
          · rw [Bool.and_eq_true] at hb
            have := beq_eq hb.1; subst this
            cases he
            obtain ⟨k1, k2⟩ := ofOperand_eval hx hv hE
            obtain ⟨k3, _⟩ := ofOperand_eval hi hz hE
            have hrow : ∃ t n f r, nth H b = some (t, .row r n f) := by
              have h2 := hb.2
              unfold isRow at h2
              split at h2
              · rename_i t1 r n f hb'; exact ⟨t1, n, f, r, hb'⟩
              · cases h2
            exact does_slAddr (k := k) hop hu hie k1 (by rw [k3]; simp [conc]) hp k2 hrow hR
        · cases he
      · cases hc
    · cases hc
  case index s x i =>
    split at hc
    · rename_i n e x' i' hu hx hi
      split at hc
      · rename_i ht
        cases hc
        simp only [Op1.ev] at he
        split at he
        · rename_i t' n' f k z hv hz
          cases hb : (Nat.beq s t' && Nat.beq n n') <;> simp only [hb, cond_true, cond_false] at he
          · cases he
          · rw [Bool.and_eq_true] at hb
            have h1 := beq_eq hb.1; have h2 := beq_eq hb.2; subst h1 h2
            cases he
            obtain ⟨k1, k2⟩ := ofOperand_eval hx hv hE
            obtain ⟨k3, _⟩ := ofOperand_eval hi hz hE
            exact does_index (k := k) hop hu ht k1 (by rw [k3]; simp [conc]) hp k2 hR
        · cases he
      · cases hc
    · rename_i x' i' hu hx hi
      cases hc
      simp only [Op1.ev] at he
      split at he
      · rename_i u k z hv hz
        cases he
        obtain ⟨k1, _⟩ := ofOperand_eval hx hv hE
        obtain ⟨k3, _⟩ := ofOperand_eval hi hz hE
        exact does_sidx (k := k) hop hu (by rw [k1]; simp [conc]) (by rw [k3]; simp [conc]) hp hR
      · cases he
    · cases hc
  case binOp op t x y t2 =>
    split at hc
    · rename_i x' y' tk hx hy hk
      have bin_case : ∀ {q : Pre} {u : V} {k k' : IntKind} {m n : Int}, x'.ev E = some (.int k m) -> y'.ev E = some (.int k' n) -> kb k k' = true -> binI op k m n = some (q, u) -> Pre.ok q -> Does P o a w ρ H u H := by
        intro q u k k' m n e1 e2 e3 e4 hq
        have := kb_eq e3; subst this
        obtain ⟨k1, _⟩ := ofOperand_eval hx e1 hE
        obtain ⟨k2, _⟩ := ofOperand_eval hy e2 hE
        exact does_bin hop (by rw [k1]; simp [conc]) (by rw [k2]; simp [conc]) e4 hq hR
      have sh_case : ∀ {q : Pre} {u : V} {k k' : IntKind} {m n : Int}, x'.ev E = some (.int k m) -> y'.ev E = some (.int k' n) -> shI op k m n = some (q, u) -> Pre.ok q -> Does P o a w ρ H u H := by
        intro q u k k' m n e1 e2 e4 hq
        obtain ⟨k1, _⟩ := ofOperand_eval hx e1 hE
        obtain ⟨k2, _⟩ := ofOperand_eval hy e2 hE
        exact does_sh (k' := k') hop (by rw [k1]; simp [conc]) (by rw [k2]; simp [conc]) e4 hq hR
      have eqv_case : ∀ {tk : Tk}, tkOf (P.underlying t) = some tk -> tyOk P t = true -> eqKind P t tk = true -> ∀ {ng : Bool}, ((op = .eql /\ ng = false) ∨ (op = .neq /\ ng = true)) -> o1 = .eqv t tk ng x' y' -> Does P o a w ρ H v H' := by
        intro tk hk ht hkind ng hng ho1
        subst ho1
        simp only [Op1.ev] at he
        split at he
        · rename_i u1 u2 e1 e2
          cases hb : (tagB t tk u1 && tagB t tk u2) <;> simp only [hb, cond_true, cond_false] at he
          · cases he
          · rw [Bool.and_eq_true] at hb
            cases he
            obtain ⟨k1, k2⟩ := ofOperand_eval hx e1 hE
            obtain ⟨k3, k4⟩ := ofOperand_eval hy e2 hE
            refine does_eqv hop hng ht hk ?_ k1 k3 k2 k4 hb.1 hb.2 hp hR
            unfold eqKind at hkind
            split at hkind
            · simp only [Bool.and_eq_true] at hkind
              exact .inl ⟨rfl, hkind.1, by simpa using hkind.2⟩
            · exact .inr (.inl rfl)
            · exact .inr (.inr (.inl rfl))
            · exact .inr (.inr (.inr (.inl rfl)))
            · exact .inr (.inr (.inr (.inr rfl)))
            · cases hkind
        · cases he
      split at hc
      · split at hc
        all_goals
          cases hc
          simp only [Op1.ev] at he
          split at he
          · rename_i k m k' n e1 e2
            first
              | (split at he
                 · rename_i q u e4; cases he; exact sh_case e1 e2 e4 hp
                 · cases he)
              | (cases hb : kb k k' <;> simp only [hb, cond_true, cond_false] at he
                 · cases he
                 · split at he
                   · rename_i q u e4; cases he; exact bin_case e1 e2 hb e4 hp
                   · cases he)
          · cases he
      · split at hc
        · cases hc
          simp only [Op1.ev] at he
          split at he
          · rename_i u z e1 e2
            cases he
            obtain ⟨k1, _⟩ := ofOperand_eval hx e1 hE
            obtain ⟨k2, _⟩ := ofOperand_eval hy e2 hE
            exact does_scat hop (by rw [k1]; simp [conc]) (by rw [k2]; simp [conc]) hp hR
          · cases he
        · split at hc
          · rename_i hcond
            rw [Bool.and_eq_true] at hcond
            cases hc; exact eqv_case hk hcond.1 hcond.2 (.inl ⟨rfl, rfl⟩) rfl
          · cases hc
        · split at hc
          · rename_i hcond
            rw [Bool.and_eq_true] at hcond
            cases hc; exact eqv_case hk hcond.1 hcond.2 (.inr ⟨rfl, rfl⟩) rfl
          · cases hc
        · cases hc
      · split at hc
        · rename_i hcond
          rw [Bool.and_eq_true] at hcond
          split at hc
          · cases hc; exact eqv_case hk hcond.1 hcond.2 (.inl ⟨rfl, rfl⟩) rfl
          · cases hc; exact eqv_case hk hcond.1 hcond.2 (.inr ⟨rfl, rfl⟩) rfl
          · cases hc
        · cases hc
    · cases hc
  case unOp op t x =>
    simp only [Option.map_eq_some_iff] at hc
    obtain ⟨x', hx, rfl⟩ := hc
    simp only [Op1.ev] at he
    split at he
    · rename_i b e1
      cases he
      obtain ⟨k1, _⟩ := ofOperand_eval hx e1 hE
      exact does_un hop k1 (.inl ⟨rfl, b, rfl, rfl⟩) hR
    · rename_i k n e1
      cases he
      obtain ⟨k1, _⟩ := ofOperand_eval hx e1 hE
      exact does_un hop k1 (.inr ⟨rfl, k, n, rfl, rfl⟩) hR
    · rename_i k n e1
      cases he
      obtain ⟨k1, _⟩ := ofOperand_eval hx e1 hE
      exact does_xor hop (by rw [k1]; simp [conc]) hR
    · cases he
  case convert s d x =>
    split at hc
    · rename_i ds k x' hs hd hx
      cases hc
      simp only [Op1.ev] at he
      split at he
      · rename_i k' n e1
        cases he
        obtain ⟨k1, _⟩ := ofOperand_eval hx e1 hE
        exact does_conv (k' := k') hop hs hd (by rw [k1]; simp [conc]) hR
      · cases he
    · rename_i t x' hs hd hx
      split at hc
      · rename_i ht
        cases hc
        simp only [Op1.ev] at he
        split at he
        · rename_i c bs off st n cap tt e1
          split at he
          · rename_i t' rw' m f hb
            cases he
            obtain ⟨k1, k2⟩ := ofOperand_eval hx e1 hE
            exact does_b2s hop hs ht hd k1 k2 hb hp hR
          · cases he
        · cases he
      · cases hc
    · cases hc
  case makeInterface t x =>
    split at hc
    · rename_i x' hx
      split at hc
      · rename_i hcn
        cases hc
        simp only [Op1.ev] at he
        split at he
        · rename_i u e1
          cases he
          obtain ⟨k1, k2⟩ := ofOperand_eval hx e1 hE
          exact does_mkIface hop hcn k1 k2 hR
        · cases he
      · cases hc
    · cases hc
  case makeFunc fn x c =>
    cases fn with
    | func f =>
      simp only at hc
      split at hc
      · rename_i x' c' hx hcc
        cases hc
        simp only [Op1.ev] at he
        split at he
        · rename_i vx vc e1 e2
          cases he
          obtain ⟨k1, k2⟩ := ofOperands_eval hE hx e1
          obtain ⟨k3, k4⟩ := ofOperands_eval hE hcc e2
          exact does_mkFunc hop k1 k3 k2 k4 hR
        · cases he
      · cases hc
    | _ => cases hc
  case extract x i =>
    simp only [Option.map_eq_some_iff] at hc
    obtain ⟨x', hx, rfl⟩ := hc
    simp only [Op1.ev] at he
    split at he
    · rename_i vs e1
      split at he
      · rename_i u hn
        cases he
        obtain ⟨k1, k2⟩ := ofOperand_eval hx e1 hE
        exact does_extract hop k1 k2 hn hR
      · cases he
    · cases he
  case call c =>
    have args2 : ∀ {x y : Operand}, c.args.toList = [x, y] -> c.args = #[x, y] := fun h => Array.toList_inj.1 (by simpa using h)
    split at hc
    · rename_i f hcal
      simp only [Option.map_eq_some_iff] at hc
      obtain ⟨xs', hx, rfl⟩ := hc
      simp only [Op1.ev] at he
      split at he
      · rename_i vs con e1 e2
        obtain ⟨k1, k2⟩ := ofOperands_eval hE hx e1
        have := conEv_spec he
        exact does_call hop hcal (hΓ f con e2) k1 k2 this hp hR
      · cases he
    · rename_i x hnf hcal
      split at hc
      · rename_i x' xs' hx hxs
        cases hc
        simp only [Op1.ev] at he
        split at he
        · rename_i f va vc vs e1 e2
          split at he
          · rename_i con e3
            obtain ⟨k0, k00⟩ := ofOperand_eval hx e1 hE
            obtain ⟨k1, k2⟩ := ofOperands_eval hE hxs e2
            have := conEv_spec he
            exact does_callv hop hcal k0 k00.1 k00.2 (hΓ f con e3) k1 k2 this hp hR
          · cases he
        · cases he
      · cases hc
    · rename_i hcal
      split at hc
      · rename_i x y hargs
        split at hc
        · rename_i x' y' hx hy
          cases hc
          simp only [Op1.ev] at he
          split at he
          · rename_i k m k' n e1 e2
            cases hb : kb k k' <;> simp only [hb, cond_true, cond_false] at he
            · cases he
            · have := kb_eq hb; subst this
              cases he
              obtain ⟨k1, _⟩ := ofOperand_eval hx e1 hE
              obtain ⟨k2, _⟩ := ofOperand_eval hy e2 hE
              exact does_minmax hop (args2 hargs) (by rw [k1]; simp [conc]) (by rw [k2]; simp [conc]) (.inl ⟨hcal, rfl⟩) hR
          · cases he
        · cases hc
      · cases hc
    · rename_i hcal
      split at hc
      · rename_i x y hargs
        split at hc
        · rename_i x' y' hx hy
          cases hc
          simp only [Op1.ev] at he
          split at he
          · rename_i k m k' n e1 e2
            cases hb : kb k k' <;> simp only [hb, cond_true, cond_false] at he
            · cases he
            · have := kb_eq hb; subst this
              cases he
              obtain ⟨k1, _⟩ := ofOperand_eval hx e1 hE
              obtain ⟨k2, _⟩ := ofOperand_eval hy e2 hE
              exact does_minmax hop (args2 hargs) (by rw [k1]; simp [conc]) (by rw [k2]; simp [conc]) (.inr ⟨hcal, rfl⟩) hR
          · cases he
        · cases hc
      · cases hc
    · rename_i hcal
      split at hc
      · rename_i x y T T2 hargs htys
        have ha : c.args = #[x, y] := args2 hargs
        have hat : c.argTypes = #[T, T2] := Array.toList_inj.1 (by simpa using htys)
        split at hc
        · rename_i t x' y' hu hx hy
          split at hc
          · rename_i i z hi hz
            split at hc
            · rename_i hcond
              cases hc
              rw [Bool.and_eq_true] at hcond
              have := beq_eq hcond.1; subst this
              obtain ⟨i', zv, z1, z2, z3, z4⟩ := zeroOk_spec hz
              rw [hi] at z1; cases z1
              have hzs : zv.cells.size = i.size := by
                have h1 := eat_cells ρ z _ _ z4
                have h2 := cl_len ρ z t (fitB_fit P z t z3)
                rw [List.append_nil] at h1
                rw [← h1, Array.length_toList] at h2
                rw [h2]; simp [Program.cellsOf, hi]
              simp only [Op1.ev] at he
              split at he
              · rename_i t0 cb bs off st k cap t' hb e1 e2
                split at he
                · rename_i t'' rw' m g hrow
                  cases hbq : (Nat.beq t t' && Nat.beq t t'') <;> simp only [hbq, cond_true, cond_false] at he
                  · cases he
                  · rw [Bool.and_eq_true] at hbq
                    have h1 := beq_eq hbq.1; have h2 := beq_eq hbq.2; subst h1 h2
                    cases he
                    obtain ⟨k1, _⟩ := ofOperand_eval hx e1 hE
                    obtain ⟨k2, kw⟩ := ofOperand_eval hy e2 hE
                    exact does_append_nil hop hcal ha hat hu hi z2 hzs (by rw [k1]; simp [conc]) k2 hrow kw hp.1 hp.2 hb hR
                · cases he
              · rename_i t0 b off0 n tx cb bs off st k cap t' hb e1 e2
                split at he
                · rename_i ty m' f t'' rw' m g hrow1 hrow
                  cases hbq : (Nat.beq t t' && Nat.beq t t'' && Nat.beq t tx && Nat.beq t ty) <;> simp only [hbq, cond_true, cond_false] at he
                  · cases he
                  · simp only [Bool.and_eq_true] at hbq
                    have h1 := beq_eq hbq.1.1.1; have h2 := beq_eq hbq.1.1.2; have h3 := beq_eq hbq.1.2; have h4 := beq_eq hbq.2; subst h1 h2 h3 h4
                    cases he
                    obtain ⟨k1, _⟩ := ofOperand_eval hx e1 hE
                    obtain ⟨k2, kw⟩ := ofOperand_eval hy e2 hE
                    obtain ⟨p1, p2, p3, p4⟩ := hp
                    subst p1
                    exact does_append hop hcal ha hat hu hi z2 hzs k1 p2 hrow1 k2 hrow kw p3 p4 hb hR
                · cases he
              · cases he
            · cases hc
          · cases hc
        · cases hc
      · cases hc
    · rename_i hcal
      split at hc
      · rename_i x T hargs htys
        have ha : c.args = #[x] := Array.toList_inj.1 (by simpa using hargs)
        have hat : c.argTypes = #[T] := Array.toList_inj.1 (by simpa using htys)
        split at hc
        · rename_i t x' hu hx
          split at hc
          · rename_i z hz
            cases hc
            obtain ⟨i, zv, z1, z2, z3, z4⟩ := zeroOk_spec hz
            simp only [Op1.ev] at he
            split at he
            · rename_i b bs off pre st n cap t' e1
              split at he
              · rename_i ty m f hb
                cases hq : Nat.beq t t' <;> simp only [hq, cond_true, cond_false] at he
                · cases he
                · have := beq_eq hq; subst this
                  split at he
                  · rename_i f' hf
                    cases he
                    obtain ⟨k1, kw⟩ := ofOperand_eval hx e1 hE
                    exact does_clr hop ha hat hcal hu z1 z2 z3 z4 k1 kw hb hf hR
                  · cases he
              · cases he
            · cases he
          · cases hc
        · cases hc
      · cases hc
    · rename_i hcal
      split at hc
      · rename_i x t hargs htys
        have ha : c.args = #[x] := Array.toList_inj.1 (by simpa using hargs)
        have hat : c.argTypes = #[t] := Array.toList_inj.1 (by simpa using htys)
        split at hc
        · rename_i x' et hx hu
          cases hc
          simp only [Op1.ev] at he
          split at he
          · rename_i e1 e2
            cases he
            obtain ⟨k1, kw⟩ := ofOperand_eval hx e2 hE
            exact does_len (n := 0) hop ha hat hcal k1 (.inl ⟨hu, .inl ⟨rfl, rfl⟩⟩) kw (fun _ _ _ _ _ _ _ _ h => by cases h) hR
          · rename_i b bs off pre start n cap s e1 e2
            cases hrow : isRow (nth H b) <;> simp only [hrow, cond_true, cond_false] at he
            · cases he
            · cases he
              obtain ⟨k1, kw⟩ := ofOperand_eval hx e2 hE
              exact does_len hop ha hat hcal k1 (.inl ⟨hu, .inr ⟨_, _, _, _, _, _, _, rfl⟩⟩) kw (fun _ _ _ _ _ _ _ _ h => by cases h; exact hrow) hR
          · rename_i s e1 e2; cases e1
          · cases he
        · rename_i x' hx hu
          cases hc
          simp only [Op1.ev] at he
          split at he
          · rename_i e1 e2; cases e1
          · rename_i b bs off pre start n cap s e1 e2; cases e1
          · rename_i s e1 e2
            cases he
            obtain ⟨k1, kw⟩ := ofOperand_eval hx e2 hE
            exact does_len (et := 0) hop ha hat hcal k1 (.inr ⟨hu, s, rfl, rfl⟩) kw (fun _ _ _ _ _ _ _ _ h => by cases h) hR
          · cases he
        · cases hc
      · cases hc
    · cases hc
def KnOk (K : Kn) (E : Env) : Prop := ∀ t b, lk K t = some (some b) -> lk E t = some b
theorem knV_ev {K : Kn} {x : O} {v : V} (h : KnOk K E) (hb : knV K x = some v) : x.ev E = some v := by
 cases x with
 | t n =>
  simp only [knV] at hb
  split at hb
  ·rename_i b' hl; subst hb; exact h n v hl
  ·cases hb
 | k v => simp only [knV] at hb; cases hb; rfl
theorem asB_some {x : Option V} {b : Bool} (h : asB x = some b) : x = some (.bool b) := by
 unfold asB at h
 split at h
 ·cases h; rfl
 ·cases h
theorem knO_ev {K : Kn} {x : O} {b : Bool} (h : KnOk K E) (hb : knO K x = some b) : x.ev E = some (.bool b) :=
 knV_ev h (asB_some hb)
theorem resolve_ev {Γ : List (Nat × Con)} {K : Kn} {base : Nat} {o : Op1} {r : Res} (h : KnOk K E) (hr : (resK K o).ev Γ base E H = some r) : o.ev Γ base E H = some r := by
 cases o with
 | pick c x y =>
  simp only [resK] at hr
  split at hr
  ·rename_i hb
   simp only [Op1.ev, knO_ev h hb, cond_true] at hr ⊢
   exact hr
  ·rename_i hb
   simp only [Op1.ev, knO_ev h hb, cond_false] at hr ⊢
   exact hr
  ·simp only [Op1.ev] at hr ⊢
   split at hr
   ·rename_i b x' y' e1 e2 e3
    cases hr
    rw [e1]
    cases b <;> simp [e2, e3]
   ·cases hr
 | _ => exact hr
theorem kn_ev {Γ : List (Nat × Con)} {K : Kn} {base : Nat} {o : Op1} {p : Pre} {v : V} {H' : Heap} {fp : FP} {b : V} (h : KnOk K E) (hr : o.ev Γ base E H = some ⟨p, v, H', fp⟩) (hk : kn base K o = some b) : v = b := by
 unfold kn at hk
 split at hk
 ·rename_i x
  simp only [Op1.ev, knV_ev h hk] at hr
  cases hr; rfl
 ·rename_i x
  split at hk
  ·rename_i b' hb'
   cases hk
   simp only [Op1.ev, knV_ev h hb'] at hr
   cases hr; rfl
  ·cases hk
 ·rename_i op x y
  split at hk
  ·rename_i k a k' b' e1 e2
   cases hb : kb k k' <;> simp only [hb, cond_true, cond_false] at hk
   ·cases hk
   ·split at hk
    ·rename_i u e3
     cases hk
     simp only [Op1.ev, knV_ev h e1, knV_ev h e2, hb, cond_true, e3] at hr
     cases hr; rfl
    ·cases hk
  ·cases hk
 ·rename_i k x
  split at hk
  ·rename_i k' a e1
   cases hk
   simp only [Op1.ev, knV_ev h e1] at hr
   cases hr; rfl
  ·cases hk
 ·rename_i x
  split at hk
  ·rename_i e1
   cases hk
   simp only [Op1.ev, knV_ev h e1] at hr
   cases hr; rfl
  ·rename_i b1 b2 b3 b4 b5 n b6 b7 e1
   cases hk
   simp only [Op1.ev, knV_ev h e1] at hr
   cases hrow : isRow (nth H b1) <;> simp only [hrow, cond_true, cond_false] at hr
   ·cases hr
   ·cases hr; rfl
  ·cases hk
 ·rename_i s t n tk z ps
  cases hk
  simp only [Op1.ev] at hr
  split at hr
  ·rename_i vs e1 e2
   cases hb : tagsB true [(t, tk)] vs <;> simp only [hb, cond_true, cond_false] at hr
   ·cases hr
   ·cases hr; rfl
  ·cases hr
 ·cases hk
theorem KnOk.bind {K : Kn} {d : Option Nat} {v : V} {b : Option V} (h : KnOk K E) (hv : ∀ c, b = some c -> v = c) : KnOk (bindK K d b) (bindD E d v) := by
 cases d with
 | none => exact h
 | some d =>
  intro t c hc
  simp only [bindK, bindD] at hc ⊢
  rw [lk_cons] at hc ⊢
  by_cases e : d = t
  ·rw [if_pos e] at hc ⊢
   cases hc
   rw [hv c rfl]
  ·rw [if_neg e] at hc ⊢; exact h t c hc
theorem KnOk.know {K : Kn} {g : Nat} {b : Bool} (h : KnOk K E) (hb : lk E g = some (.bool b)) : KnOk ((g, some (.bool b)) :: K) E := by
 intro t c hc
 rw [lk_cons] at hc
 by_cases e : g = t
 ·rw [if_pos e] at hc; cases hc; subst e; exact hb
 ·rw [if_neg e] at hc; exact h t c hc
end
end
section
structure St (P : Program) (N : Nat) (ρ0 : Rho) (H0 : Heap) (w0 : World) (ρ : Rho) (H : Heap) (w : World) (E : Env) (a : Act) : Prop where
 step : Step P ρ0 H0 w0 ρ H w
 env : ERel P ρ H E a.tmps
 size : a.tmps.size = N
 defers : a.defers = []
def slotted : Op -> Bool
 | .alloc _ | .box _ _ | .buildSlice .. | .makeSlice .. | .makeMap .. => true
 | .call c => match c.callee with
  | .builtin .append => true
  | _ => false
 | _ => false
def dstOk (N : Nat) : Option Nat -> Bool
 | none => true
 | some d => Nat.blt d N
def compOprs (P : Program) (N : Nat) (all : Array Oper) : Nat -> List Oper -> Option (List Opr)
 | _, [] => some []
 | s, o :: os => match compOp P s o.op, compOprs P N all (bif slotted o.op then s + 1 else s) os with
  | some op, some l => if dstOk N o.dst then (match o.guard with
   | none => some (⟨o.dst, op, none⟩ :: l)
   | some (j, want) => match (all[j]?).bind (·.dst) with
    | some g => some (⟨o.dst, op, some (g, want)⟩ :: l)
    | none => none) else none
  | _, _ => none
section
variable {P : Program} {N : Nat} {ρ0 : Rho} {H0 : Heap} {w0 : World}
theorem St.put {ρ : Rho} {H H' : Heap} {w w' : World} {E : Env} {a : Act} {ρ' : Rho} {v : V} {d : Option Nat} (h : St P N ρ0 H0 w0 ρ H w E a) (s : Step P ρ H w ρ' H' w') (hw : Wf P H' v) (hd : dstOk N d = true) :
 St P N ρ0 H0 w0 ρ' H' w' (bindD E d v) (a.put d (conc ρ' v)) := by
 cases d with
 | none => exact ⟨h.step.trans s, h.env.step s, h.size, h.defers⟩
 | some d =>
  have : d < a.tmps.size := by rw [h.size]; simpa [dstOk] using hd
  exact ⟨h.step.trans s, (h.env.step s).set d v hw this, by simp [Act.put, h.size], by simpa [Act.put] using h.defers⟩
theorem St.know {ρ : Rho} {H : Heap} {w : World} {E : Env} {a : Act} {g : Nat} {b : Bool} (h : St P N ρ0 H0 w0 ρ H w E a) (hl : lk E g = some (.bool b)) : St P N ρ0 H0 w0 ρ H w ((g, .bool b) :: E) a :=
 ⟨h.step, h.env.know g (.bool b) trivial (h.env g _ hl).2, h.size, h.defers⟩
theorem wanted_of {ρ : Rho} {H : Heap} {w : World} {E : Env} {a : Act} {ops : Array Oper} {o : Oper} {j g : Nat} {want b : Bool} (h : St P N ρ0 H0 w0 ρ H w E a) (hg : o.guard = some (j, want)) (hj : (ops[j]?).bind (·.dst) = some g)
 (hl : lk E g = some (.bool b)) : Region.wanted o (yielded ops a.tmps) = (b == want) := by
 have := (h.env g _ hl).2
 simp only [Region.wanted, hg, yielded, hj, Option.bind_some, this, conc]
 cases b <;> cases want <;> rfl
theorem wanted_off {ρ : Rho} {H : Heap} {w : World} {E : Env} {a : Act} {ops : Array Oper} {o : Oper} {j g : Nat} {want : Bool} (h : St P N ρ0 H0 w0 ρ H w E a) (hg : o.guard = some (j, want)) (hj : (ops[j]?).bind (·.dst) = some g)
 (hl : lk E g = some (.tup [])) : Region.wanted o (yielded ops a.tmps) = false := by
 have := (h.env g _ hl).2
 simp only [Region.wanted, hg, yielded, hj, Option.bind_some, this, conc]
 cases want <;> rfl
theorem nth_append {α : Type} (l m : List α) (i : Nat) : nth (l ++ m) i = if i < l.length then nth l i else nth m (i - l.length) := by
 simp only [nth_eq, List.getElem?_append]
theorem nth_pad : ∀ (n i : Nat) (x : TypeId × Blk), nth (pad n) i = some x -> x = (0, .free)
 | 0, _, _, h => by simp [pad, nth] at h
 | n + 1, 0, x, h => by simp [pad, nth] at h; exact h.symm
 | n + 1, i + 1, x, h => nth_pad n i x (by simpa [pad, nth] using h)
theorem nth_lt {α : Type} {l : List α} {i : Nat} {x : α} (h : nth l i = some x) : i < l.length := by
 rw [nth_eq] at h; exact (List.getElem?_eq_some_iff.1 h).1
theorem pad_step {ρ : Rho} {H : Heap} {w : World} (n : Nat) (hR : HRel P ρ H w) : Step P ρ H w ρ (H ++ pad n) w := by
 have old : ∀ b x, nth H b = some x -> nth (H ++ pad n) b = some x := fun b x h => by rw [nth_append, if_pos (nth_lt h)]; exact h
 have new : ∀ b t B, nth (H ++ pad n) b = some (t, B) -> nth H b = some (t, B) ∨ B = .free := fun b t B h => by
  rw [nth_append] at h
  split at h
  ·exact .inl h
  ·have := nth_pad _ _ _ h; cases this; exact .inr rfl
 have ext : Ext H (H ++ pad n) := fun b x h => ⟨x, old b x h, .refl x⟩
 refine ⟨⟨?_, ?_, ?_, ?_, ?_, ?_⟩, ext, .refl H ρ, rfl, rfl, rfl, Nat.le_refl _, fun _ _ _ => rfl, ?_⟩
 ·intro b t B h hν
  rcases new b t B h with h | rfl
  ·exact hR.blk b t B h hν
  ·trivial
 ·intro b c tb tc B C hb hc hm hl hνb hν
  rcases new b tb B hb with hb | rfl
  ·rcases new c tc C hc with hc | rfl
   ·exact hR.inj b c tb tc B C hb hc hm hl hνb hν
   ·cases hl
  ·cases hm
 ·intro b t B h hl hν
  rcases new b t B h with h | rfl
  ·exact hR.lt b t B h hl hν
  ·cases hl
 ·intro b t B h hB hν
  rcases new b t B h with h | rfl
  ·exact hR.nul b t B h hB hν
  ·cases hB
 ·intro b t rw m f h j hj
  rcases new b t _ h with h | h
  ·exact (hR.wf b t rw m f h j hj).ext ext
  ·cases h
 ·intro b t es h e he
  rcases new b t _ h with h | h
  ·obtain ⟨h1, h2⟩ := hR.wfm b t es h e he
   exact ⟨h1.ext ext, h2.ext ext⟩
  ·cases h
 ·intro b t B h hm
  rcases new b t B h with h | rfl
  ·exact .inl ⟨b, t, B, h, hm, rfl⟩
  ·cases hm
end
end
section
def oT : O -> List Nat
 | .t n => [n]
 | .k _ => []
def Op1.uses : Op1 -> List Nat
 | .mov x | .box _ _ _ x | .load _ x | .nilCheck x | .fieldAddr _ x _ _ _ | .field _ x _ | .un _ x | .conv _ x | .mkIface _ x | .extract x _ | .len _ x | .tassert _ _ x | .b2s x => oT x
 | .pick c x y | .pickb c x y => oT c ++ oT x ++ oT y
 | .mins _ c x y => oT c ++ oT x ++ oT y
 | .mlook _ _ _ x y => oT x ++ oT y
 | .clr _ _ x => oT x
 | .mkmap .. => []
 | .alloc .. => []
 | .build _ _ _ _ ps | .bslice _ _ _ _ _ ps => ps.flatMap fun x => oT x.2
 | .mslice _ _ _ _ x y | .append _ _ _ x y => oT x ++ oT y
 | .slc _ _ x lo hi | .aslc _ _ _ _ x lo hi => oT x ++ (match lo with | some y => oT y | none => []) ++ (match hi with | some y => oT y | none => [])
 | .store _ _ x y | .arrAddr _ _ _ _ x y | .slAddr _ _ x y | .index _ _ x y | .bin _ x y | .sh _ x y | .eqv _ _ _ x y | .mn x y | .mx x y | .scat x y | .sidx x y => oT x ++ oT y
 | .mkFunc _ a c => a.flatMap oT ++ c.flatMap oT
 | .call _ l => l.flatMap oT
 | .callv x l => oT x ++ l.flatMap oT
def Opr.uses (o : Opr) : List Nat := (match o.guard with | some (g, _) => [g] | none => []) ++ o.op.uses
theorem O.ev_local {E E' : Env} {x : O} (h : ∀ t ∈ oT x, lk E t = lk E' t) : x.ev E = x.ev E' := by
 cases x with
 | t n => exact h n (by simp [oT])
 | k v => rfl
theorem evs_local {E E' : Env} : ∀ {l : List O}, (∀ t ∈ l.flatMap oT, lk E t = lk E' t) -> evs E l = evs E' l
 | [], _ => rfl
 | x :: l, h => by
  have h1 := O.ev_local (x := x) (fun t ht => h t (by simp [ht]))
  have h2 := evs_local (l := l) (fun t ht => h t (by simp at ht ⊢; exact .inr ht))
  simp only [evs, h1, h2]
theorem evp_local {E E' : Env} : ∀ {l : List (Nat × O)}, (∀ t ∈ l.flatMap (fun x => oT x.2), lk E t = lk E' t) -> evp E l = evp E' l
 | [], _ => rfl
 | (i, x) :: l, h => by
  have h1 := O.ev_local (x := x) (fun t ht => h t (by simp [ht]))
  have h2 := evp_local (l := l) (fun t ht => h t (by simp at ht ⊢; exact .inr ht))
  simp only [evp, h1, h2]
theorem ev_local {Γ : List (Nat × Con)} {base : Nat} {E E' : Env} {H : Heap} {o : Op1} (h : ∀ t ∈ o.uses, lk E t = lk E' t) : o.ev Γ base E H = o.ev Γ base E' H := by
 cases o <;> simp only [Op1.uses] at h <;> simp only [Op1.ev]
 case pickb c x y =>
  rw [O.ev_local (x := c) (fun t ht => h t (by simp [ht])), O.ev_local (x := x) (fun t ht => h t (by simp [ht])), O.ev_local (x := y) (fun t ht => h t (by simp [ht]))]
 case pick c x y =>
  rw [O.ev_local (x := c) (fun t ht => h t (by simp [ht])), O.ev_local (x := x) (fun t ht => h t (by simp [ht])), O.ev_local (x := y) (fun t ht => h t (by simp [ht]))]
 case build => rw [evp_local h]
 case bslice => rw [evp_local h]
 case slc t es x lo hi =>
  have h1 := O.ev_local (x := x) (fun t ht => h t (by simp [ht]))
  have h2 : evo E lo = evo E' lo := by cases lo <;> simp only [evo]; rename_i y; rw [O.ev_local (x := y) (fun t ht => h t (by simp [ht]))]
  have h3 : evo E hi = evo E' hi := by cases hi <;> simp only [evo]; rename_i y; rw [O.ev_local (x := y) (fun t ht => h t (by simp [ht]))]
  rw [h1, h2, h3]
 case aslc s t m es x lo hi =>
  have h1 := O.ev_local (x := x) (fun t ht => h t (by simp [ht]))
  have h2 : evo E lo = evo E' lo := by cases lo <;> simp only [evo]; rename_i y; rw [O.ev_local (x := y) (fun t ht => h t (by simp [ht]))]
  have h3 : evo E hi = evo E' hi := by cases hi <;> simp only [evo]; rename_i y; rw [O.ev_local (x := y) (fun t ht => h t (by simp [ht]))]
  rw [h1, h2, h3]
 case mins kk c x y =>
  rw [O.ev_local (x := c) (fun t ht => h t (by simp [ht])), O.ev_local (x := x) (fun t ht => h t (by simp [ht])), O.ev_local (x := y) (fun t ht => h t (by simp [ht]))]
 case mkFunc f a c => rw [evs_local (l := a) (fun t ht => h t (List.mem_append.2 (.inl ht))), evs_local (l := c) (fun t ht => h t (List.mem_append.2 (.inr ht)))]
 case call => rw [evs_local h]
 case callv x l => rw [O.ev_local (x := x) (fun t ht => h t (List.mem_append.2 (.inl ht))), evs_local (l := l) (fun t ht => h t (List.mem_append.2 (.inr ht)))]
 all_goals first
  | (rename_i x y; rw [O.ev_local (x := x) (fun t ht => h t (by simp [ht])), O.ev_local (x := y) (fun t ht => h t (by simp [ht]))]; done)
  | (rename_i x; rw [O.ev_local (x := x) h]; done)
  | (rename_i x _; rw [O.ev_local (x := x) h]; done)
  | (rename_i x _ _ _; rw [O.ev_local (x := x) h]; done)
theorem updF_same {α : Type} (f : Nat -> α) (i : Nat) (v u : α) : updF (updF f i v) i u = updF f i u := by
 funext j; simp only [updF_apply]; split <;> rfl
theorem updF_comm {α : Type} (f : Nat -> α) (i j : Nat) (v u : α) (h : i ≠ j) : updF (updF f i v) j u = updF (updF f j u) i v := by
 funext k; simp only [updF_apply]
 by_cases h1 : k = j
 ·subst h1; rw [if_pos rfl, if_neg (fun e => h e.symm), if_pos rfl]
 ·rw [if_neg h1]; by_cases h2 : k = i
  ·rw [if_pos h2, if_pos h2]
  ·rw [if_neg h2, if_neg h2, if_neg h1]
theorem pathOff_cons {i j : Nat} {p q : Path} (h : pathOff (i :: p) (j :: q) = true) : i ≠ j ∨ (i = j /\ pathOff p q = true) := by
 simp only [pathOff] at h
 cases hb : Nat.beq i j <;> simp only [hb, cond_true, cond_false] at h
 ·exact .inl (fun e => by subst e; simp at hb)
 ·exact .inr ⟨beq_eq hb, h⟩
theorem pathOff_symm : ∀ {p q : Path}, pathOff p q = true -> pathOff q p = true
 | i :: p, j :: q, h => by
  rcases pathOff_cons h with h | ⟨rfl, h9⟩
  ·have : Nat.beq j i = false := by
    cases hb : Nat.beq j i with
    | false => rfl
    | true => exact absurd (beq_eq hb).symm h
   simp [pathOff, this]
  ·simp only [pathOff, Nat.beq_refl, cond_true]; exact pathOff_symm h9
 | [], _, h => by simp [pathOff] at h
 | _ :: _, [], h => by simp [pathOff] at h
theorem puts_eq : ∀ (ps : List V) (k : Nat) (p : Path) (x : V) (qs : List V), putAt.puts ps k p x = some qs ↔ ∃ v u, nth ps k = some v /\ putAt v p x = some u /\ qs = setNth ps k u
 | [], k, p, x, qs => by simp [putAt.puts, nth]
 | v :: l, 0, p, x, qs => by
  simp only [putAt.puts, nth, setNth]
  constructor
  ·intro h
   split at h
   ·rename_i u hu; cases h; exact ⟨v, u, rfl, hu, rfl⟩
   ·cases h
  ·rintro ⟨v', u, h1, h2, rfl⟩
   cases h1; rw [h2]
 | v :: l, k + 1, p, x, qs => by
  simp only [putAt.puts, nth, setNth]
  constructor
  ·intro h
   split at h
   ·rename_i l' hl
    cases h
    obtain ⟨v', u, h1, h2, rfl⟩ := (puts_eq l k p x l').1 hl
    exact ⟨v', u, h1, h2, rfl⟩
   ·cases h
  ·rintro ⟨v', u, h1, h2, rfl⟩
   rw [(puts_eq l k p x _).2 ⟨v', u, h1, h2, rfl⟩]
theorem navs_eq : ∀ (ps : List V) (k : Nat) (p : Path), nav.navs ps k p = (nth ps k).bind fun v => nav v p
 | [], k, p => by simp [nav.navs, nth]
 | v :: l, 0, p => by simp [nav.navs, nth]
 | v :: l, k + 1, p => by simp only [nav.navs, nth]; exact navs_eq l k p
theorem nth_set_ne {α : Type} (l : List α) (i j : Nat) (a : α) (h : i ≠ j) : nth (setNth l i a) j = nth l j := by
 simp only [nth_eq, setNth_eq, List.getElem?_set, if_neg h]
theorem nth_set_eq {α : Type} {l : List α} {i : Nat} {a b : α} (h : nth l i = some b) : nth (setNth l i a) i = some a := by
 rw [nth_setNth _ _ _ _ _ h, if_pos rfl]
theorem setNth_comm {α : Type} (l : List α) (i j : Nat) (a b : α) (h : i ≠ j) : setNth (setNth l i a) j b = setNth (setNth l j b) i a := by
 simp only [setNth_eq]; exact List.set_comm a b h
theorem setNth_same {α : Type} (l : List α) (i : Nat) (a b : α) : setNth (setNth l i a) i b = setNth l i b := by
 simp only [setNth_eq, List.set_set]
theorem nav_put_off : ∀ (p q : Path) (v u x : V), pathOff p q = true -> putAt v q x = some u -> nav u p = nav v p
 | [], _, _, _, _, h, _ => by simp [pathOff] at h
 | _ :: _, [], _, _, _, h, _ => by simp [pathOff] at h
 | i :: p, j :: q, v, u, x, h, hp => by
  cases v with
  | agg t ps =>
   simp only [putAt] at hp
   split at hp
   ·rename_i ps' hps
    cases hp
    obtain ⟨v', u', h1, h2, rfl⟩ := (puts_eq _ _ _ _ _).1 hps
    simp only [nav, navs_eq]
    rcases pathOff_cons h with hne | ⟨rfl, h9⟩
    ·rw [nth_set_ne _ _ _ _ (fun e => hne e.symm)]
    ·rw [nth_set_eq h1, h1]
     simp only [Option.bind_some]
     exact nav_put_off p q v' u' x h9 h2
   ·cases hp
  | arr t n f =>
   simp only [putAt] at hp
   split at hp
   ·rename_i u' hu
    cases hp
    simp only [nav, updF_apply]
    rcases pathOff_cons h with hne | ⟨rfl, h9⟩
    ·rw [if_neg hne]
    ·rw [if_pos rfl]; exact nav_put_off p q (f i) u' x h9 hu
   ·cases hp
  | _ => simp [putAt] at hp
theorem put_put_off : ∀ (p q : Path) (v u u2 x y : V), pathOff p q = true -> putAt v p x = some u -> putAt u q y = some u2 -> ∃ u', putAt v q y = some u' /\ putAt u' p x = some u2
 | [], _, _, _, _, _, _, h, _, _ => by simp [pathOff] at h
 | _ :: _, [], _, _, _, _, _, h, _, _ => by simp [pathOff] at h
 | i :: p, j :: q, v, u, u2, x, y, h, h1, h2 => by
  cases v with
  | agg t ps =>
   simp only [putAt] at h1
   split at h1
   ·rename_i ps1 hps
    cases h1
    obtain ⟨v1, w1, a1, a2, rfl⟩ := (puts_eq _ _ _ _ _).1 hps
    simp only [putAt] at h2
    split at h2
    ·rename_i ps2 hps2
     cases h2
     obtain ⟨v2, w2, b1, b2, rfl⟩ := (puts_eq _ _ _ _ _).1 hps2
     rcases pathOff_cons h with hne | ⟨rfl, h9⟩
     ·rw [nth_set_ne _ _ _ _ hne] at b1
      refine ⟨.agg t (setNth ps j w2), ?_, ?_⟩
      ·simp only [putAt]; rw [(puts_eq _ _ _ _ _).2 ⟨v2, w2, b1, b2, rfl⟩]
      ·simp only [putAt]; rw [(puts_eq _ _ _ _ _).2 ⟨v1, w1, by rw [nth_set_ne _ _ _ _ (fun e => hne e.symm)]; exact a1, a2, rfl⟩, setNth_comm _ _ _ _ _ hne]
     ·rw [nth_set_eq a1] at b1; cases b1
      obtain ⟨u', c1, c2⟩ := put_put_off p q v1 w1 w2 x y h9 a2 b2
      refine ⟨.agg t (setNth ps i u'), ?_, ?_⟩
      ·simp only [putAt]; rw [(puts_eq _ _ _ _ _).2 ⟨v1, u', a1, c1, rfl⟩]
      ·simp only [putAt]; rw [(puts_eq _ _ _ _ _).2 ⟨u', w2, nth_set_eq a1, c2, rfl⟩, setNth_same, setNth_same]
    ·cases h2
   ·cases h1
  | arr t n f =>
   simp only [putAt] at h1
   split at h1
   ·rename_i w1 a2
    cases h1
    simp only [putAt] at h2
    split at h2
    ·rename_i w2 b2
     cases h2
     rcases pathOff_cons h with hne | ⟨rfl, h9⟩
     ·rw [updF_apply, if_neg (fun e => hne e.symm)] at b2
      refine ⟨.arr t n (updF f j w2), ?_, ?_⟩
      ·simp only [putAt, b2]
      ·simp only [putAt, updF_apply, if_neg hne, a2, updF_comm f i j w1 w2 hne]
     ·rw [updF_apply, if_pos rfl] at b2
      obtain ⟨u', c1, c2⟩ := put_put_off p q (f i) w1 w2 x y h9 a2 b2
      refine ⟨.arr t n (updF f i u'), ?_, ?_⟩
      ·simp only [putAt, c1]
      ·simp only [putAt, updF_apply, if_pos, c2, updF_same]
    ·cases h2
   ·cases h1
  | _ => simp [putAt] at h1
theorem wr_spec {H H' : Heap} {b : Nat} {p : Path} {x : V} (h : H.wr b p x = some H') : ∃ t n f i q u, nth H b = some (t, .row true n f) /\ p = i :: q /\ putAt (f i) q x = some u /\ H' = setNth H b (t, .row true n (updF f i u)) := by
 unfold Heap.wr at h
 split at h
 ·rename_i t n f i q hb
  split at h
  ·rename_i u hu; cases h; exact ⟨t, n, f, i, q, u, hb, rfl, hu, rfl⟩
  ·cases h
 ·cases h
theorem wr_mk {H : Heap} {b : Nat} {t : TypeId} {n : Nat} {f : Nat -> V} {i : Nat} {q : Path} {x u : V} (hb : nth H b = some (t, .row true n f)) (hu : putAt (f i) q x = some u) : H.wr b (i :: q) x = some (setNth H b (t, .row true n (updF f i u))) := by
 simp only [Heap.wr, hb, hu]
theorem rd_wr_off {H H' : Heap} {b c : Nat} {p q : Path} {x : V} (h : H.wr c q x = some H') (hap : b ≠ c ∨ pathOff p q = true) : H'.rd b p = H.rd b p := by
 obtain ⟨t, n, f, i, q', u, hb, rfl, hu, rfl⟩ := wr_spec h
 by_cases e : b = c
 ·subst e
  have hap := hap.resolve_left (fun h => h rfl)
  cases p with
  | nil => simp [pathOff] at hap
  | cons j p =>
   simp only [Heap.rd, nth_set_eq hb, hb]
   rw [updF_apply]
   rcases pathOff_cons hap with hne | ⟨rfl, h9⟩
   ·rw [if_neg hne]
   ·rw [if_pos rfl]; exact nav_put_off p q' (f j) u x h9 hu
 ·simp only [Heap.rd, nth_set_ne _ _ _ _ (fun h => e h.symm)]
theorem wr_wr_off {H H1 H2 : Heap} {b c : Nat} {p q : Path} {x y : V} (h1 : H.wr b p x = some H1) (h2 : H1.wr c q y = some H2) (hap : b ≠ c ∨ pathOff p q = true) : ∃ H1', H.wr c q y = some H1' /\ H1'.wr b p x = some H2 := by
 obtain ⟨t, n, f, i, p', u, hb, rfl, hu, rfl⟩ := wr_spec h1
 obtain ⟨t2, n2, f2, j, q', u2, hc, rfl, hu2, rfl⟩ := wr_spec h2
 by_cases e : b = c
 ·subst e
  have hap := hap.resolve_left (fun h => h rfl)
  rw [nth_set_eq hb] at hc; cases hc
  rcases pathOff_cons hap with hne | ⟨rfl, h9⟩
  ·rw [updF_apply, if_neg (fun e => hne e.symm)] at hu2
   refine ⟨_, wr_mk hb hu2, ?_⟩
   rw [wr_mk (nth_set_eq hb) (by rw [updF_apply, if_neg hne]; exact hu), setNth_same, setNth_same, updF_comm _ _ _ _ _ hne]
  ·rw [updF_apply, if_pos rfl] at hu2
   obtain ⟨u', c1, c2⟩ := put_put_off p' q' (f i) u u2 x y h9 hu hu2
   refine ⟨_, wr_mk hb c1, ?_⟩
   rw [wr_mk (nth_set_eq hb) (by rw [updF_apply, if_pos rfl]; exact c2), setNth_same, setNth_same, updF_same, updF_same]
 ·rw [nth_set_ne _ _ _ _ e] at hc
  refine ⟨_, wr_mk hc hu2, ?_⟩
  rw [wr_mk (by rw [nth_set_ne _ _ _ _ (fun h => e h.symm)]; exact hb) hu, setNth_comm _ _ _ _ _ e]
theorem conEv_fp {c : Con} {vs : List V} {H : Heap} {p : Pre} {v : V} {H1 : Heap} {fp : FP} (h : conEv c vs H = some ⟨p, v, H1, fp⟩) :
 (fp = .none /\ H1 = H /\ ∀ H', conEv c vs H' = some ⟨p, v, H', .none⟩) ∨ (fp = .rdall /\ H1 = H) ∨ fp = .all ∨ (H1 = H /\ ∃ b q, fp = .rd b q /\ ∀ H', H'.rd b q = H.rd b q -> conEv c vs H' = some ⟨p, v, H', .rd b q⟩) ∨
  (fp = .mk H.length /\ ∃ bl, H1 = H ++ bl /\ ∀ H', H'.length = H.length -> conEv c vs H' = some ⟨p, v, H' ++ bl, .mk H.length⟩) ∨
  (H1 = H /\ ∃ rs, fp = .sets [] rs /\ ∀ H', (∀ b ∈ rs, nth H' b = nth H b) -> conEv c vs H' = some ⟨p, v, H', .sets [] rs⟩) ∨
  (∃ rs bl, fp = .mkr H.length rs /\ H1 = H ++ bl /\ ∀ H', H'.length = H.length -> (∀ b ∈ rs, nth H' b = nth H b) -> conEv c vs H' = some ⟨p, v, H' ++ bl, .mkr H.length rs⟩) := by
 cases c with
 | mkr F =>
  simp only [conEv] at h
  split at h
  ·rename_i rs K hq
   split at h
   ·rename_i q2 u2 bl hK; cases h
    refine .inr (.inr (.inr (.inr (.inr (.inr ⟨rs, bl, rfl, rfl, fun H' hl hH => ?_⟩)))))
    have e2 : rs.map (nth H') = rs.map (nth H) := List.map_congr_left hH
    simp only [conEv, hq, e2, hK, hl]
   ·cases h
  ·cases h
 | rdb F =>
  simp only [conEv] at h
  split at h
  ·rename_i b G hq
   split at h
   ·rename_i rs K hG
    split at h
    ·rename_i q2 u2 hK; cases h
     refine .inr (.inr (.inr (.inr (.inr (.inl ⟨rfl, b :: rs, rfl, fun H' hH => ?_⟩)))))
     have e1 := hH b (by simp)
     have e2 : rs.map (nth H') = rs.map (nth H) := List.map_congr_left fun c hc => hH c (by simp [hc])
     simp only [conEv, hq, e1, hG, e2, hK]
    ·cases h
   ·cases h
  ·cases h
 | pure F =>
  simp only [conEv] at h
  split at h
  ·rename_i q u hq; cases h; exact .inl ⟨rfl, rfl, fun H' => by simp only [conEv, hq]⟩
  ·cases h
 | read F =>
  simp only [conEv] at h
  split at h
  ·cases h; exact .inr (.inl ⟨rfl, rfl⟩)
  ·cases h
 | heap D =>
  simp only [conEv] at h
  split at h
  ·cases h; exact .inr (.inr (.inl rfl))
  ·cases h
 | mk F =>
  simp only [conEv] at h
  split at h
  ·rename_i q u bl hq; cases h
   exact .inr (.inr (.inr (.inr (.inl ⟨rfl, bl, rfl, fun H' hl => by simp only [conEv, hq, hl]⟩))))
  ·cases h
 | rdp F =>
  simp only [conEv] at h
  split at h
  ·rename_i b q G hq
   split at h
   ·rename_i u hu
    split at h
    ·rename_i q2 u2 hG; cases h
     exact .inr (.inr (.inr (.inl ⟨rfl, b, q, rfl, fun H' hH => by simp only [conEv, hq, hH, hu, hG]⟩)))
    ·cases h
   ·cases h
  ·cases h
 | inl ir np rs => simp [conEv] at h
def setAll : List (Nat × (TypeId × Blk)) -> Heap -> Heap
 | [], H => H
 | (b, x) :: l, H => setAll l (setNth H b x)
theorem inL_mem {b : Nat} {l : List Nat} (h : inL b l = false) : b ∉ l := fun hm => by
 have : inL b l = true := List.any_eq_true.2 ⟨b, hm, Nat.beq_refl b⟩
 rw [h] at this; cases this
theorem setAll_ne : ∀ {l : List (Nat × (TypeId × Blk))} {H : Heap} {b : Nat}, b ∉ l.map Prod.fst -> nth (setAll l H) b = nth H b
 | [], _, _, _ => rfl
 | (c, x) :: l, H, b, h => by
  simp only [List.map_cons, List.mem_cons, not_or] at h
  simp only [setAll]
  rw [setAll_ne h.2, nth_set_ne _ _ _ _ (fun e => h.1 e.symm)]
theorem setAll_set : ∀ {l : List (Nat × (TypeId × Blk))} {H : Heap} {b : Nat} {y : TypeId × Blk}, b ∉ l.map Prod.fst -> setNth (setAll l H) b y = setAll l (setNth H b y)
 | [], _, _, _, _ => rfl
 | (c, x) :: l, H, b, y, h => by
  simp only [List.map_cons, List.mem_cons, not_or] at h
  simp only [setAll]
  rw [setAll_set h.2, setNth_comm _ _ _ _ _ (fun e => h.1 e.symm)]
theorem setAll_comm : ∀ {l m : List (Nat × (TypeId × Blk))} {H : Heap}, (∀ b ∈ l.map Prod.fst, b ∉ m.map Prod.fst) -> setAll l (setAll m H) = setAll m (setAll l H)
 | [], m, H, _ => rfl
 | (c, x) :: l, m, H, h => by
  simp only [setAll]
  rw [setAll_set (h c (by simp)), setAll_comm (fun b hb => h b (by simp only [List.map_cons, List.mem_cons]; exact .inr hb))]
theorem wr_setAll {l : List (Nat × (TypeId × Blk))} {H H1 : Heap} {b : Nat} {q : Path} {u : V} (h : H.wr b q u = some H1) (hb : b ∉ l.map Prod.fst) : (setAll l H).wr b q u = some (setAll l H1) := by
 obtain ⟨t, n, f, i, q', u2, h1, rfl, h2, rfl⟩ := wr_spec h
 rw [wr_mk (by rw [setAll_ne hb]; exact h1) h2, setAll_set hb]
inductive Eff (Γ : List (Nat × Con)) (base : Nat) (o : Op1) (E : Env) (H : Heap) (p : Pre) (v : V) (H1 : Heap) : FP -> Prop where
 | none : H1 = H -> (∀ H', o.ev Γ base E H' = some ⟨p, v, H', .none⟩) -> Eff Γ base o E H p v H1 .none
 | ex (b : Nat) : H1 = H -> isRow (nth H b) = true -> (∀ H', isRow (nth H' b) = true -> o.ev Γ base E H' = some ⟨p, v, H', .ex b⟩) -> Eff Γ base o E H p v H1 (.ex b)
 | rd (b : Nat) (q : Path) : H1 = H -> (∀ H', H'.rd b q = H.rd b q -> o.ev Γ base E H' = some ⟨p, v, H', .rd b q⟩) -> Eff Γ base o E H p v H1 (.rd b q)
 | st (b : Nat) (q : Path) (u : V) : H.wr b q u = some H1 -> (∀ H' H1', H'.wr b q u = some H1' -> o.ev Γ base E H' = some ⟨p, v, H1', .wr b q⟩) -> Eff Γ base o E H p v H1 (.wr b q)
 | al (b : Nat) (t0 : TypeId) (x : TypeId × Blk) : nth H b = some (t0, .free) -> isRow (some x) = true -> H1 = setNth H b x -> (∀ H' t', nth H' b = some (t', .free) -> o.ev Γ base E H' = some ⟨p, v, setNth H' b x, .wr b []⟩) -> Eff Γ base o E H p v H1 (.wr b [])
 | rdall : H1 = H -> Eff Γ base o E H p v H1 .rdall
 | all : Eff Γ base o E H p v H1 .all
 | mk (bl : Heap) : H1 = H ++ bl -> (∀ H', H'.length = H.length -> o.ev Γ base E H' = some ⟨p, v, H' ++ bl, .mk H.length⟩) -> Eff Γ base o E H p v H1 (.mk H.length)
 | mkr (bl : Heap) (rs : List Nat) : H1 = H ++ bl -> (∀ H', H'.length = H.length -> (∀ b ∈ rs, nth H' b = nth H b) -> o.ev Γ base E H' = some ⟨p, v, H' ++ bl, .mkr H.length rs⟩) -> Eff Γ base o E H p v H1 (.mkr H.length rs)
 | sets (ups : List (Nat × (TypeId × Blk))) (rs : List Nat) : H1 = setAll ups H -> (∀ b ∈ ups.map Prod.fst, b ∈ rs) -> (∀ H', (∀ b ∈ rs, nth H' b = nth H b) -> o.ev Γ base E H' = some ⟨p, v, setAll ups H', .sets (ups.map Prod.fst) rs⟩) -> Eff Γ base o E H p v H1 (.sets (ups.map Prod.fst) rs)
theorem eff {Γ : List (Nat × Con)} {base : Nat} {o : Op1} {E : Env} {H : Heap} {p : Pre} {v : V} {H1 : Heap} {fp : FP} (h : o.ev Γ base E H = some ⟨p, v, H1, fp⟩) : Eff Γ base o E H p v H1 fp := by
 have con : ∀ {c : Con} {vs : List V}, conEv c vs H = some ⟨p, v, H1, fp⟩ -> (∀ H', o.ev Γ base E H' = conEv c vs H') -> Eff Γ base o E H p v H1 fp := by
  intro c vs hc ho
  rcases conEv_fp hc with ⟨rfl, rfl, h3⟩ | ⟨rfl, rfl⟩ | rfl | ⟨rfl, b, q, rfl, h3⟩ | ⟨rfl, bl, rfl, h3⟩ | ⟨rfl, rs, rfl, h3⟩ | ⟨rs, bl, rfl, rfl, h3⟩
  ·exact .none rfl (fun H' => by rw [ho, h3])
  ·exact .rdall rfl
  ·exact .all
  ·exact .rd b q rfl (fun H' hH => by rw [ho, h3 H' hH])
  ·exact .mk bl rfl (fun H' hl => by rw [ho, h3 H' hl])
  ·exact .sets [] rs rfl (fun b hb => nomatch hb) (fun H' hH => by rw [ho, h3 H' hH]; rfl)
  ·exact .mkr bl rs rfl (fun H' hl hH => by rw [ho, h3 H' hl hH])
 cases o with
 | alloc s t z =>
  simp only [Op1.ev] at h
  split at h
  ·rename_i t0 hb; cases h
   exact .al _ t0 _ hb rfl rfl (fun H' t' hb' => by simp only [Op1.ev, hb'])
  ·cases h
 | box s t tk x =>
  simp only [Op1.ev] at h
  split at h
  ·rename_i t0 u hb hu
   cases hc : tagB t tk u <;> simp only [hc, cond_true, cond_false] at h
   ·cases h
   ·cases h
    exact .al _ t0 _ hb rfl rfl (fun H' t' hb' => by simp only [Op1.ev, hb', hu, hc, cond_true])
  ·cases h
 | load t x =>
  simp only [Op1.ev] at h
  split at h
  ·rename_i b off q t' hx
   cases hc : Nat.beq t t' <;> simp only [hc, cond_true, cond_false] at h
   ·cases h
   ·split at h
    ·rename_i u hu; cases h
     exact .rd b q rfl (fun H' hH => by simp only [Op1.ev, hx, hc, cond_true, hH, hu])
    ·cases h
  ·cases h
 | store t tk x y =>
  simp only [Op1.ev] at h
  split at h
  ·rename_i b off q t' u hx hy
   cases hc : (Nat.beq t t' && tagB t tk u) <;> simp only [hc, cond_true, cond_false] at h
   ·cases h
   ·split at h
    ·rename_i H2 hw; cases h
     exact .st b q u hw (fun H' H1' hw' => by simp only [Op1.ev, hx, hy, hc, cond_true, hw'])
    ·cases h
  ·cases h
 | slAddr et es x i =>
  simp only [Op1.ev] at h
  split at h
  ·rename_i b bs off pre start ln cap t' k z hx hi
   cases hc : Nat.beq et t' <;> cases hr : isRow (nth H b) <;> simp only [hc, hr, Bool.and_true, Bool.and_false, Bool.and_self, cond_true, cond_false] at h <;> try cases h
   exact .ex b rfl hr (fun H' hr' => by simp only [Op1.ev, hx, hi, hc, hr', Bool.and_self, cond_true])
  ·cases h
 | call f l =>
  simp only [Op1.ev] at h
  split at h
  ·rename_i vs c h1 h2; exact con h (fun H' => by simp only [Op1.ev, h1, h2])
  ·cases h
 | callv x l =>
  simp only [Op1.ev] at h
  split at h
  ·rename_i f va vc vs h1 h2
   split at h
   ·rename_i c h3; exact con h (fun H' => by simp only [Op1.ev, h1, h2, h3])
   ·cases h
  ·cases h
 | bslice s t n tk z ps =>
  simp only [Op1.ev] at h
  split at h
  ·rename_i t0 vs hb hvs
   cases hc : tagsB true [(t, tk)] vs <;> simp only [hc, cond_true, cond_false] at h
   ·cases h
   ·cases h
    exact .al _ t0 _ hb rfl rfl (fun H' t' hb' => by simp only [Op1.ev, hb', hvs, hc, cond_true])
  ·cases h
 | mslice s t bytes z l c =>
  simp only [Op1.ev] at h
  split at h
  ·rename_i t0 kl ln kc cn hb e1 e2
   cases h
   exact .al _ t0 _ hb rfl rfl (fun H' t' hb' => by simp only [Op1.ev, hb', e1, e2])
  ·cases h
 | slc t es x lo hi =>
  simp only [Op1.ev] at h
  split at h
  ·rename_i b bs off pre st n cap t' lv hv e1 e2 e3
   split at h
   ·rename_i lz hz b1 b2
    cases hc : Nat.beq t t' <;> cases hr : isRow (nth H b) <;> simp only [hc, hr, Bool.and_true, Bool.and_false, Bool.and_self, cond_true, cond_false] at h <;> try cases h
    exact .ex b rfl hr (fun H' hr' => by simp only [Op1.ev, e1, e2, e3, b1, b2, hc, hr', Bool.and_self, cond_true])
   ·cases h
  ·cases h
 | append s t bytes x y =>
  simp only [Op1.ev] at h
  split at h
  ·rename_i c bs off st k cap t' hs hx hy
   split at h
   ·rename_i t'' rw' m g hc
    cases hb : (Nat.beq t t' && Nat.beq t t'') <;> simp only [hb, cond_true, cond_false] at h
    ·cases h
    ·cases h
     refine .sets [(base + s, (t, .row true k (catF 0 (fun _ => .nils) st g)))] [base + s, c] rfl (by simp) (fun H' hH => ?_)
     have e1 := hH (base + s) (by simp)
     have e2 := hH c (by simp)
     rw [hs] at e1; rw [hc] at e2
     simp only [Op1.ev, hx, hy, e1, e2, hb, cond_true]; rfl
   ·cases h
  ·rename_i b off n tx c bs off' st k cap t' hs hx hy
   split at h
   ·rename_i ty m f t'' rw' m' g hb hc
    cases hq : (Nat.beq t t' && Nat.beq t t'' && Nat.beq t tx && Nat.beq t ty) <;> simp only [hq, cond_true, cond_false] at h
    ·cases h
    ·cases h
     refine .sets [(b, (t, .gone)), (base + s, (t, .row true (n + k) (catF n f st g)))] [b, base + s, c] rfl (by simp) (fun H' hH => ?_)
     have e0 := hH b (by simp)
     have e1 := hH (base + s) (by simp)
     have e2 := hH c (by simp)
     rw [hb] at e0; rw [hs] at e1; rw [hc] at e2
     simp only [Op1.ev, hx, hy, e0, e1, e2, hq, cond_true]; rfl
   ·cases h
  ·cases h
 | aslc s t m es x lo hi =>
  simp only [Op1.ev] at h
  split at h
  ·rename_i b of p t' lv hv e1 e2 e3
   split at h
   ·rename_i lz hz b1 b2
    cases hc : Nat.beq s t' <;> cases hr : isRow (nth H b) <;> simp only [hc, hr, Bool.and_true, Bool.and_false, Bool.and_self, cond_true, cond_false] at h <;> try cases h
    exact .ex b rfl hr (fun H' hr' => by simp only [Op1.ev, e1, e2, e3, b1, b2, hc, hr', Bool.and_self, cond_true])
   ·cases h
  ·cases h
 | clr t z x =>
  simp only [Op1.ev] at h
  split at h
  ·rename_i b bs off pre st n cap t' hx
   split at h
   ·rename_i ty m f hb
    cases hq : Nat.beq t t' <;> simp only [hq, cond_true, cond_false] at h
    ·cases h
    ·split at h
     ·rename_i f' hf
      cases h
      refine .sets [(b, (ty, .row true m f'))] [b] rfl (by simp) (fun H' hH => ?_)
      have e := hH b (by simp)
      rw [hb] at e
      simp only [Op1.ev, hx, e, hq, cond_true, hf]; rfl
     ·cases h
   ·cases h
  ·cases h
 | mkmap s t =>
  simp only [Op1.ev] at h
  split at h
  ·rename_i t0 hb
   cases h
   refine .sets [(base + s, (t, .mp []))] [base + s] rfl (by simp) (fun H' hH => ?_)
   have e := hH (base + s) (by simp)
   rw [hb] at e
   simp only [Op1.ev, e]; rfl
  ·cases h
 | mins kk m k v =>
  simp only [Op1.ev] at h
  split at h
  ·rename_i b k' n u e1 e2 e3
   split at h
   ·rename_i t es hb
    cases hq : (kb kk k' && keyFree kk n es) <;> simp only [hq, cond_true, cond_false] at h
    ·cases h
    ·cases h
     refine .sets [(b, (t, .mp (es ++ [(.int kk n, u)])))] [b] rfl (by simp) (fun H' hH => ?_)
     have e := hH b (by simp)
     rw [hb] at e
     simp only [Op1.ev, e1, e2, e3, e, hq, cond_true]; rfl
   ·cases h
  ·cases h
 | mlook kk kv ok m k =>
  simp only [Op1.ev] at h
  split at h
  ·rename_i b k' n e1 e2
   split at h
   ·rename_i t es hb
    cases hq : kb kk k' <;> simp only [hq, cond_true, cond_false] at h
    ·cases h
    ·split at h
     ·rename_i r f hg
      cases h
      refine .sets [] [b] rfl (by simp) (fun H' hH => ?_)
      have e := hH b (by simp)
      rw [hb] at e
      simp only [Op1.ev, e1, e2, e, hq, cond_true, hg]; rfl
     ·cases h
   ·cases h
  ·cases h
 | b2s x =>
  simp only [Op1.ev] at h
  split at h
  ·rename_i c bs off st n cap t hx
   split at h
   ·rename_i t' rw' m f hc
    cases h
    refine .sets [] [c] rfl (by simp) (fun H' hH => ?_)
    have e := hH c (by simp)
    rw [hc] at e
    simp only [Op1.ev, hx, e]; rfl
   ·cases h
  ·cases h
 | tassert t z x =>
  simp only [Op1.ev] at h
  split at h
  ·rename_i t' v hx
   cases h
   exact .none rfl (fun H' => by simp only [Op1.ev, hx])
  ·cases h
 | len str x =>
  simp only [Op1.ev] at h
  split at h
  ·rename_i hx; cases h; exact .none rfl (fun H' => by simp only [Op1.ev, hx])
  ·rename_i b bs off pre st n cap t hx
   cases hr : isRow (nth H b) <;> simp only [hr, cond_true, cond_false] at h
   ·cases h
   ·cases h
    exact .ex b rfl hr (fun H' hr' => by simp only [Op1.ev, hx, hr', cond_true])
  ·rename_i s hx; cases h; exact .none rfl (fun H' => by simp only [Op1.ev, hx])
  ·cases h
 | mn x y =>
  simp only [Op1.ev] at h
  split at h
  ·rename_i k m k' n hx hy
   cases hc : kb k k' <;> simp only [hc, cond_true, cond_false] at h
   ·cases h
   ·cases h
    exact .none rfl (fun H' => by simp only [Op1.ev, hx, hy, hc, cond_true])
  ·cases h
 | mx x y =>
  simp only [Op1.ev] at h
  split at h
  ·rename_i k m k' n hx hy
   cases hc : kb k k' <;> simp only [hc, cond_true, cond_false] at h
   ·cases h
   ·cases h
    exact .none rfl (fun H' => by simp only [Op1.ev, hx, hy, hc, cond_true])
  ·cases h
 | _ =>
  simp only [Op1.ev, Bool.cond_eq_ite] at h
  repeat' (first | (cases h; done) | (split at h))
  all_goals first
   | (cases h; done)
   | (cases h; refine .none rfl (fun H' => ?_); simp_all [Op1.ev, Bool.cond_eq_ite]; done)
inductive Stp (Γ : List (Nat × Con)) (base : Nat) (o : Opr) (E : Env) (H : Heap) : Env -> Heap -> FP -> Prop where
 | op {p : Pre} {v : V} {H1 : Heap} {fp : FP} : (∀ g want, o.guard = some (g, want) -> lk E g = some (.bool want)) -> o.op.ev Γ base E H = some ⟨p, v, H1, fp⟩ -> Pre.ok p -> Stp Γ base o E H (bindD E o.dst v) H1 fp
 | skip {g : Nat} {want : Bool} : o.guard = some (g, want) -> (lk E g = some (.bool (!want)) ∨ lk E g = some (.tup [])) -> Stp Γ base o E H (bindD E o.dst (.tup [])) H .none
def EqE (E E' : Env) : Prop := ∀ t, lk E t = lk E' t
def indep (x y : Opr) : Bool :=
  (match x.dst with
   | some d => !y.uses.contains d && y.dst != some d
   | none => true) &&
  (match y.dst with
   | some d => !x.uses.contains d
   | none => true)
theorem indep_spec {x y : Opr} (h : indep x y = true) : (∀ d, x.dst = some d -> d ∉ y.uses) /\ (∀ d, y.dst = some d -> d ∉ x.uses) /\ (∀ d, x.dst = some d -> y.dst ≠ some d) := by
 unfold indep at h
 rw [Bool.and_eq_true] at h
 refine ⟨fun d hd => ?_, fun d hd => ?_, fun d hd => ?_⟩
 ·have := h.1; rw [hd] at this; simp at this; exact this.1
 ·have := h.2; rw [hd] at this; simpa using this
 ·have := h.1; rw [hd] at this; simp at this; exact this.2
theorem lk_bindD {E : Env} {d : Option Nat} {v : V} {t : Nat} (h : ∀ x, d = some x -> x ≠ t) : lk (bindD E d v) t = lk E t := by
 cases d with
 | none => rfl
 | some x => simp only [bindD]; rw [lk_cons, if_neg (h x rfl)]
theorem EqE.bindD {E E' : Env} (h : EqE E E') (d : Option Nat) (v : V) : EqE (bindD E d v) (bindD E' d v) := by
 cases d with
 | none => exact h
 | some x => intro t; simp only [Dd.bindD]; rw [lk_cons, lk_cons, h t]
theorem bindD_comm (E : Env) {d e : Option Nat} (v u : V) (h : ∀ x, d = some x -> e ≠ some x) : EqE (bindD (bindD E d v) e u) (bindD (bindD E e u) d v) := by
 cases d with
 | none => exact fun _ => rfl
 | some x =>
  cases e with
  | none => exact fun _ => rfl
  | some y =>
   have hne : y ≠ x := fun e => h x rfl (by rw [e])
   intro t
   simp only [bindD, lk_cons]
   by_cases h1 : x = t
   ·subst h1; simp [hne]
   ·simp [h1]
theorem uses_op {o : Opr} {t : Nat} (h : t ∈ o.op.uses) : t ∈ o.uses := List.mem_append.2 (.inr h)
theorem uses_guard {o : Opr} {g : Nat} {want : Bool} (h : o.guard = some (g, want)) : g ∈ o.uses := List.mem_append.2 (.inl (by simp [h]))
theorem Stp.env {Γ : List (Nat × Con)} {base : Nat} {o : Opr} {E E1 E' : Env} {H H1 : Heap} {fp : FP} (h : Stp Γ base o E H E1 H1 fp) (hE : ∀ t ∈ o.uses, lk E t = lk E' t) :
 ∃ v, E1 = bindD E o.dst v /\ Stp Γ base o E' H (bindD E' o.dst v) H1 fp := by
 cases h with
 | @op p v H1 fp hg he hp =>
  refine ⟨v, rfl, .op (fun g want hgd => ?_) ?_ hp⟩
  ·rw [← hE g (uses_guard hgd)]; exact hg g want hgd
  ·rw [← ev_local (fun t ht => hE t (uses_op ht))]; exact he
 | skip hg hl => exact ⟨_, rfl, .skip hg (by rw [← hE _ (uses_guard hg)]; exact hl)⟩
theorem isRow_set {H : Heap} {b c : Nat} {x : TypeId × Blk} {y : TypeId × Blk} (hy : nth H c = some y) (hx : isRow (some x) = isRow (some y)) : isRow (nth (setNth H c x) b) = isRow (nth H b) := by
 rw [nth_setNth _ _ _ _ _ hy]
 split
 ·rename_i e; subst e; rw [hy, hx]
 ·rfl
theorem setNth_len {α : Type} : ∀ (l : List α) (i : Nat) (x : α), (setNth l i x).length = l.length
 | [], i, x => by cases i <;> rfl
 | a :: l, 0, x => rfl
 | a :: l, i + 1, x => by simp [setNth, setNth_len l i x]
theorem setNth_app {α : Type} : ∀ (l m : List α) (i : Nat) (x : α), i < l.length -> setNth (l ++ m) i x = setNth l i x ++ m
 | [], m, i, x, h => by simp at h
 | a :: l, m, 0, x, h => rfl
 | a :: l, m, i + 1, x, h => by simp only [List.cons_append, setNth, setNth_app l m i x (by simpa using h)]
theorem swap {Γ : List (Nat × Con)} {base : Nat} {x y : Opr} {E E1 E2 : Env} {H H1 H2 : Heap} {fx fy : FP} (hx : Stp Γ base x E H E1 H1 fx) (hy : Stp Γ base y E1 H1 E2 H2 fy) (hi : indep x y = true) (hok : FP.okB fx fy = true) :
 ∃ E1' H1' E2', Stp Γ base y E H E1' H1' fy /\ Stp Γ base x E1' H1' E2' H2 fx /\ EqE E2' E2 := by
 obtain ⟨i1, i2, i3⟩ := indep_spec hi
 -- what each asks of the slots is the same in the other order
 have sx : ∀ {v : V} {E1 : Env}, E1 = bindD E x.dst v -> ∀ t ∈ y.uses, lk E1 t = lk E t := by
  rintro v _ rfl t ht; exact lk_bindD (fun d hd e => i1 d hd (e ▸ ht))
 have sy : ∀ (u : V), ∀ t ∈ x.uses, lk E t = lk (bindD E y.dst u) t := fun u t ht => (lk_bindD (fun d hd e => i2 d hd (e ▸ ht))).symm
 obtain ⟨vx, ex, _⟩ := hx.env (E' := E) (fun _ _ => rfl)
 obtain ⟨vy, ey, hy'⟩ := hy.env (E' := E) (sx ex)
 -- enough: the steps in the other order, by memory alone
 suffices key : ∃ H1', Stp Γ base y E H (bindD E y.dst vy) H1' fy /\ Stp Γ base x (bindD E y.dst vy) H1' (bindD (bindD E y.dst vy) x.dst vx) H2 fx by
  obtain ⟨H1', a, b⟩ := key
  refine ⟨_, H1', _, a, b, ?_⟩
  rw [ey, ex]
  exact fun t => (bindD_comm E vx vy (fun d hd e => i3 d hd e) t).symm
 have reE : ∀ {o : Opr} {E : Env} {v v' : V}, bindD E o.dst v = bindD E o.dst v' -> bindD E o.dst v = bindD E o.dst v' := fun h => h
 cases hx with
 | skip hg hl =>
  have hb : ∀ u, Stp Γ base x (bindD E y.dst u) H2 (bindD (bindD E y.dst u) x.dst (.tup [])) H2 .none := fun u => .skip hg (by rw [← sy u _ (uses_guard hg)]; exact hl)
  refine ⟨H2, hy', ?_⟩
  cases hd : x.dst with
  | none => have := hb vy; rw [hd] at this; exact this
  | some d =>
   rw [hd] at ex; simp only [bindD, List.cons.injEq, Prod.mk.injEq] at ex
   have := hb vy; rw [hd, ex.1.2] at this; exact this
 | @op p v H1 fx hg he hp =>
  have hv : bindD E x.dst v = bindD E x.dst vx := ex
  have xrun : ∀ {u : V} {Ha Hb : Heap}, x.op.ev Γ base E Ha = some ⟨p, v, Hb, fx⟩ -> Stp Γ base x (bindD E y.dst u) Ha (bindD (bindD E y.dst u) x.dst vx) Hb fx := by
   intro u Ha Hb h
   have h' : x.op.ev Γ base (bindD E y.dst u) Ha = some ⟨p, v, Hb, fx⟩ := by rw [← ev_local (fun t ht => sy u t (uses_op ht))]; exact h
   have := Stp.op (Γ := Γ) (base := base) (o := x) (E := bindD E y.dst u) (fun g want hgd => by rw [← sy u _ (uses_guard hgd)]; exact hg g want hgd) h' hp
   cases hd : x.dst with
   | none => rw [hd] at this; exact this
   | some d =>
    rw [hd] at hv; simp only [bindD, List.cons.injEq, Prod.mk.injEq] at hv
    rw [hd, hv.1.2] at this; exact this
  have effx := eff he
  generalize bindD E y.dst vy = E3 at hy' ⊢
  cases hy' with
  | skip hgy hly =>
   refine ⟨H, ?_, xrun he⟩
   have : Stp Γ base y E H (bindD E y.dst (.tup [])) H .none := .skip hgy hly
   exact this
  | @op q u H2 fy hgy hey hq =>
   have yrun : ∀ {Ha Hb : Heap}, y.op.ev Γ base E Ha = some ⟨q, u, Hb, fy⟩ -> Stp Γ base y E Ha (bindD E y.dst u) Hb fy := fun h => .op hgy h hq
   have effy := eff hey
   cases effx with
   | none h1 h2 => subst h1; exact ⟨_, yrun hey, xrun (h2 _)⟩
   | ex b h1 h0 h2 =>
    subst h1
    cases effy with
    | none k1 k2 => subst k1; exact ⟨_, yrun (k2 _), xrun (h2 _ h0)⟩
    | ex c k1 k0 k2 => subst k1; exact ⟨_, yrun hey, xrun (h2 _ h0)⟩
    | rd c r k1 k2 => subst k1; exact ⟨_, yrun hey, xrun (h2 _ h0)⟩
    | rdall k1 => subst k1; exact ⟨_, yrun hey, xrun (h2 _ h0)⟩
    | st c r u' k1 k2 =>
     refine ⟨_, yrun hey, xrun (h2 _ ?_)⟩
     obtain ⟨t, n, f, i, q', u2, hb, _, _, rfl⟩ := wr_spec k1
     rw [isRow_set (x := (t, .row true n (updF f i u2))) hb rfl]; exact h0
    | al c t0 z k0 k1 k2 k3 =>
     refine ⟨_, yrun hey, xrun (h2 _ ?_)⟩
     subst k2
     rw [nth_setNth _ _ _ _ _ k0]
     split
     ·exact k1
     ·exact h0
    | all => cases hok
    | mk bl k1 k2 => cases hok
    | mkr bl rs k1 k2 => cases hok
    | sets ups rs k1 k2 k3 =>
     subst k1
     simp only [FP.okB, Bool.not_eq_true'] at hok
     exact ⟨_, yrun hey, xrun (h2 _ (by rw [setAll_ne (inL_mem hok)]; exact h0))⟩
   | rd b r h1 h2 =>
    subst h1
    cases effy with
    | none k1 k2 => subst k1; exact ⟨_, yrun (k2 _), xrun (h2 _ rfl)⟩
    | ex c k1 k0 k2 => subst k1; exact ⟨_, yrun hey, xrun (h2 _ rfl)⟩
    | rd c r' k1 k2 => subst k1; exact ⟨_, yrun hey, xrun (h2 _ rfl)⟩
    | rdall k1 => subst k1; exact ⟨_, yrun hey, xrun (h2 _ rfl)⟩
    | st c r' u' k1 k2 =>
     refine ⟨_, yrun hey, xrun (h2 _ (rd_wr_off k1 ?_))⟩
     simp only [FP.okB, Bool.or_eq_true, Bool.not_eq_true'] at hok
     exact hok.imp (fun h e => by subst e; simp at h) id
    | al c t0 z k0 k1 k2 k3 =>
     refine ⟨_, yrun hey, xrun (h2 _ ?_)⟩
     subst k2
     have hne : b ≠ c := by
      simp only [FP.okB, Bool.or_eq_true, Bool.not_eq_true'] at hok
      rcases hok with h | h
      ·exact fun e => by subst e; simp at h
      ·cases r <;> simp [pathOff] at h
     simp only [Heap.rd, nth_set_ne _ _ _ _ (fun h => hne h.symm)]
    | all => cases hok
    | mk bl k1 k2 => cases hok
    | mkr bl rs k1 k2 => cases hok
    | sets ups rs k1 k2 k3 =>
     subst k1
     simp only [FP.okB, Bool.not_eq_true'] at hok
     exact ⟨_, yrun hey, xrun (h2 _ (by simp only [Heap.rd, setAll_ne (inL_mem hok)]))⟩
   | rdall h1 =>
    subst h1
    cases effy with
    | none k1 k2 => subst k1; exact ⟨_, yrun (k2 _), xrun he⟩
    | ex c k1 k0 k2 => subst k1; exact ⟨_, yrun hey, xrun he⟩
    | rd c r' k1 k2 => subst k1; exact ⟨_, yrun hey, xrun he⟩
    | rdall k1 => subst k1; exact ⟨_, yrun hey, xrun he⟩
    | st c r' u' k1 k2 => cases hok
    | al c t0 z k0 k1 k2 k3 => cases hok
    | all => cases hok
    | mk bl k1 k2 => cases hok
    | mkr bl rs k1 k2 => cases hok
    | sets ups rs k1 k2 k3 => cases hok
   | st b r ux h1 h2 =>
    cases effy with
    | none k1 k2 => subst k1; exact ⟨_, yrun (k2 _), xrun he⟩
    | ex c k1 k0 k2 =>
     subst k1
     obtain ⟨t, n, f, i, q', u2, hb, _, _, rfl⟩ := wr_spec h1
     rw [isRow_set (x := (t, .row true n (updF f i u2))) hb rfl] at k0
     exact ⟨_, yrun (k2 _ k0), xrun he⟩
    | rd c r' k1 k2 =>
     subst k1
     refine ⟨_, yrun (k2 _ ?_), xrun he⟩
     refine (rd_wr_off h1 ?_).symm
     simp only [FP.okB, Bool.or_eq_true, Bool.not_eq_true'] at hok
     exact hok.imp (fun h e => by subst e; simp at h) pathOff_symm
    | rdall k1 => cases hok
    | st c r' u' k1 k2 =>
     simp only [FP.okB, Bool.or_eq_true, Bool.not_eq_true'] at hok
     obtain ⟨H1', a, b⟩ := wr_wr_off h1 k1 (hok.imp (fun h e => by subst e; simp at h) id)
     exact ⟨H1', yrun (k2 _ _ a), xrun (h2 _ _ b)⟩
    | al c t0 z k0 k1 k2 k3 =>
     obtain ⟨t, n, f, i, q', u2, hb, rfl, hu2, rfl⟩ := wr_spec h1
     have hne : b ≠ c := by
      rintro rfl
      rw [nth_set_eq hb] at k0; cases k0
     rw [nth_set_ne _ _ _ _ hne] at k0
     subst k2
     refine ⟨_, yrun (k3 _ _ k0), xrun (h2 _ _ ?_)⟩
     rw [wr_mk (by rw [nth_set_ne _ _ _ _ (fun e => hne e.symm)]; exact hb) hu2, setNth_comm _ _ _ _ _ hne]
    | all => cases hok
    | mk bl k1 k2 => cases hok
    | mkr bl rs k1 k2 => cases hok
    | sets ups rs k1 k2 k3 =>
     subst k1
     simp only [FP.okB, Bool.and_eq_true, Bool.not_eq_true'] at hok
     have hbr := inL_mem hok.2
     obtain ⟨t, n, f, i, q', u2, hb, _, _, he⟩ := wr_spec h1
     refine ⟨_, yrun (k3 _ (fun c hc => ?_)), xrun (h2 _ _ (wr_setAll h1 (inL_mem hok.1)))⟩
     rw [he, nth_set_ne _ _ _ _ (by rintro rfl; exact hbr hc)]
   | al b t0 z h0 h1 h2 h3 =>
    cases effy with
    | none k1 k2 => subst k1; exact ⟨_, yrun (k2 _), xrun he⟩
    | ex c k1 k0 k2 =>
     subst k1; subst h2
     have hne : c ≠ b := by
      simp only [FP.okB, List.isEmpty_nil, Bool.not_true, Bool.or_false, Bool.not_eq_true'] at hok
      exact fun e => by subst e; simp at hok
     rw [nth_set_ne _ _ _ _ (fun e => hne e.symm)] at k0
     exact ⟨_, yrun (k2 _ k0), xrun he⟩
    | rd c r' k1 k2 =>
     subst k1; subst h2
     have hne : b ≠ c := by
      simp only [FP.okB, Bool.or_eq_true, Bool.not_eq_true'] at hok
      rcases hok with h | h
      ·exact fun e => by subst e; simp at h
      ·simp [pathOff] at h
     refine ⟨_, yrun (k2 _ ?_), xrun he⟩
     simp only [Heap.rd, nth_set_ne _ _ _ _ hne]
    | rdall k1 => cases hok
    | st c r' u' k1 k2 =>
     subst h2
     obtain ⟨t, n, f, i, q', u2, hb, rfl, hu2, rfl⟩ := wr_spec k1
     have hne : b ≠ c := by
      simp only [FP.okB, Bool.or_eq_true, Bool.not_eq_true'] at hok
      rcases hok with h | h
      ·exact fun e => by subst e; simp at h
      ·simp [pathOff] at h
     rw [nth_set_ne _ _ _ _ hne] at hb
     refine ⟨_, yrun (k2 _ _ (wr_mk hb hu2)), ?_⟩
     have := h3 (setNth H c (t, .row true n (updF f i u2))) t0 (by rw [nth_set_ne _ _ _ _ (fun e => hne e.symm)]; exact h0)
     rw [setNth_comm _ _ _ _ _ (fun e => hne e.symm)] at this
     exact xrun this
    | al c t1 z' k0 k1 k2 k3 =>
     subst h2; subst k2
     have hne : b ≠ c := by
      simp only [FP.okB, Bool.or_eq_true, Bool.not_eq_true'] at hok
      rcases hok with h | h
      ·exact fun e => by subst e; simp at h
      ·simp [pathOff] at h
     rw [nth_set_ne _ _ _ _ hne] at k0
     refine ⟨_, yrun (k3 _ _ k0), ?_⟩
     have := h3 (setNth H c z') t0 (by rw [nth_set_ne _ _ _ _ (fun e => hne e.symm)]; exact h0)
     rw [setNth_comm _ _ _ _ _ (fun e => hne e.symm)] at this
     exact xrun this
    | all => cases hok
    | mk bl k1 k2 => cases hok
    | mkr bl rs k1 k2 => cases hok
    | sets ups rs k1 k2 k3 =>
     subst h2; subst k1
     simp only [FP.okB, Bool.and_eq_true, Bool.not_eq_true'] at hok
     have hbr := inL_mem hok.2
     refine ⟨_, yrun (k3 _ (fun c hc => ?_)), ?_⟩
     ·rw [nth_set_ne _ _ _ _ (by rintro rfl; exact hbr hc)]
     ·have := h3 (setAll ups H) t0 (by rw [setAll_ne (inL_mem hok.1)]; exact h0)
      rw [setAll_set (inL_mem hok.1)] at this
      exact xrun this
   | all =>
    cases effy with
    | none k1 k2 => subst k1; exact ⟨_, yrun (k2 _), xrun he⟩
    | _ => cases hok
   | mk bl h1 h2 =>
    subst h1
    have app : ∀ c, c < H.length -> nth (H ++ bl) c = nth H c := fun c hc => by rw [nth_append, if_pos hc]
    cases effy with
    | none k1 k2 => subst k1; exact ⟨_, yrun (k2 _), xrun he⟩
    | ex c k1 k0 k2 =>
     subst k1
     have hc : c < H.length := by simpa [FP.okB] using hok
     rw [app c hc] at k0
     exact ⟨_, yrun (k2 _ k0), xrun he⟩
    | rd c r k1 k2 =>
     subst k1
     have hc : c < H.length := by simpa [FP.okB] using hok
     exact ⟨_, yrun (k2 _ (by simp only [Heap.rd, app c hc])), xrun he⟩
    | st c r u' k1 k2 =>
     have hc : c < H.length := by simpa [FP.okB] using hok
     obtain ⟨t, n, f, i, q', u2, hb, rfl, hu2, rfl⟩ := wr_spec k1
     rw [app c hc] at hb
     refine ⟨_, yrun (k2 _ _ (wr_mk hb hu2)), ?_⟩
     have := h2 (setNth H c (t, .row true n (updF f i u2))) (setNth_len _ _ _)
     rw [← setNth_app _ _ _ _ hc] at this
     exact xrun this
    | al c t0 z k0 k1 k2 k3 =>
     have hc : c < H.length := by simpa [FP.okB] using hok
     subst k2
     rw [app c hc] at k0
     refine ⟨_, yrun (k3 _ _ k0), ?_⟩
     have := h2 (setNth H c z) (setNth_len _ _ _)
     rw [← setNth_app _ _ _ _ hc] at this
     exact xrun this
    | _ => cases hok
   | mkr bl rs h1 h2 =>
    subst h1
    have app : ∀ c, c < H.length -> nth (H ++ bl) c = nth H c := fun c hc => by rw [nth_append, if_pos hc]
    cases effy with
    | none k1 k2 => subst k1; exact ⟨_, yrun (k2 _), xrun he⟩
    | ex c k1 k0 k2 =>
     subst k1
     have hc : c < H.length := by simpa [FP.okB] using hok
     rw [app c hc] at k0
     exact ⟨_, yrun (k2 _ k0), xrun he⟩
    | rd c r k1 k2 =>
     subst k1
     have hc : c < H.length := by simpa [FP.okB] using hok
     exact ⟨_, yrun (k2 _ (by simp only [Heap.rd, app c hc])), xrun he⟩
    | st c r u' k1 k2 =>
     simp only [FP.okB, Bool.and_eq_true, Bool.not_eq_true', Nat.blt_eq] at hok
     have hc : c < H.length := hok.1
     have hcr := inL_mem hok.2
     obtain ⟨t, n, f, i, q', u2, hb, rfl, hu2, rfl⟩ := wr_spec k1
     rw [app c hc] at hb
     refine ⟨_, yrun (k2 _ _ (wr_mk hb hu2)), ?_⟩
     have := h2 (setNth H c (t, .row true n (updF f i u2))) (setNth_len _ _ _) (fun d hd => by rw [nth_set_ne _ _ _ _ (by rintro rfl; exact hcr hd)])
     rw [← setNth_app _ _ _ _ hc] at this
     exact xrun this
    | al c t0 z k0 k1 k2 k3 =>
     simp only [FP.okB, Bool.and_eq_true, Bool.not_eq_true', Nat.blt_eq] at hok
     have hc : c < H.length := hok.1
     have hcr := inL_mem hok.2
     subst k2
     rw [app c hc] at k0
     refine ⟨_, yrun (k3 _ _ k0), ?_⟩
     have := h2 (setNth H c z) (setNth_len _ _ _) (fun d hd => by rw [nth_set_ne _ _ _ _ (by rintro rfl; exact hcr hd)])
     rw [← setNth_app _ _ _ _ hc] at this
     exact xrun this
    | _ => cases hok
   | sets ups rs h1 h2 h3 =>
    subst h1
    cases effy with
    | none k1 k2 => subst k1; exact ⟨_, yrun (k2 _), xrun he⟩
    | ex c k1 k0 k2 =>
     subst k1
     simp only [FP.okB, Bool.not_eq_true'] at hok
     rw [setAll_ne (inL_mem hok)] at k0
     exact ⟨_, yrun (k2 _ k0), xrun he⟩
    | rd c r k1 k2 =>
     subst k1
     simp only [FP.okB, Bool.not_eq_true'] at hok
     exact ⟨_, yrun (k2 _ (by simp only [Heap.rd, setAll_ne (inL_mem hok)])), xrun he⟩
    | rdall k1 => cases hok
    | st c r u' k1 k2 =>
     simp only [FP.okB, Bool.and_eq_true, Bool.not_eq_true'] at hok
     have hcr := inL_mem hok.2
     obtain ⟨t, n, f, i, q', u2, hb, rfl, hu2, rfl⟩ := wr_spec k1
     rw [setAll_ne (inL_mem hok.1)] at hb
     refine ⟨_, yrun (k2 _ _ (wr_mk hb hu2)), ?_⟩
     rw [setAll_set (inL_mem hok.1)]
     exact xrun (h3 _ (fun d hd => by rw [nth_set_ne _ _ _ _ (by rintro rfl; exact hcr hd)]))
    | al c t0 z k0 k1 k2 k3 =>
     simp only [FP.okB, Bool.and_eq_true, Bool.not_eq_true'] at hok
     have hcr := inL_mem hok.2
     rw [setAll_ne (inL_mem hok.1)] at k0
     subst k2
     refine ⟨_, yrun (k3 _ _ k0), ?_⟩
     rw [setAll_set (inL_mem hok.1)]
     exact xrun (h3 _ (fun d hd => by rw [nth_set_ne _ _ _ _ (by rintro rfl; exact hcr hd)]))
    | all => cases hok
    | mk bl k1 k2 => cases hok
    | mkr bl rs k1 k2 => cases hok
    | sets vps rs' k1 k2 k3 =>
     subst k1
     simp only [FP.okB, Bool.and_eq_true, List.all_eq_true, Bool.not_eq_true'] at hok
     have d1 : ∀ b ∈ ups.map Prod.fst, b ∉ rs' := fun b hb => inL_mem (hok.1 b hb)
     have d2 : ∀ b ∈ vps.map Prod.fst, b ∉ rs := fun b hb => inL_mem (hok.2 b hb)
     refine ⟨_, yrun (k3 H (fun b hb => ?_)), ?_⟩
     ·rw [setAll_ne (fun h => d1 b h hb)]
     ·rw [setAll_comm (fun b hb h => d2 b hb (h2 b h))]
      exact xrun (h3 _ (fun b hb => by rw [setAll_ne (fun h => d2 b h hb)]))
inductive DR (Γ : List (Nat × Con)) (base : Nat) (oprs : List Opr) (fpf : Nat -> FP) : List Nat -> Env -> Heap -> Env -> Heap -> Prop where
 | nil {E : Env} {H : Heap} : DR Γ base oprs fpf [] E H E H
 | cons {i : Nat} {l : List Nat} {o : Opr} {E E1 E' : Env} {H H1 H' : Heap} : nth oprs i = some o -> Stp Γ base o E H E1 H1 (fpf i) -> DR Γ base oprs fpf l E1 H1 E' H' -> DR Γ base oprs fpf (i :: l) E H E' H'
theorem EqE.refl (E : Env) : EqE E E := fun _ => rfl
theorem EqE.symm {E E' : Env} (h : EqE E E') : EqE E' E := fun t => (h t).symm
theorem EqE.trans {E E' E'' : Env} (h : EqE E E') (k : EqE E' E'') : EqE E E'' := fun t => (h t).trans (k t)
theorem DR.env {Γ : List (Nat × Con)} {base : Nat} {oprs : List Opr} {fpf : Nat -> FP} {l : List Nat} {E E1 : Env} {H H1 : Heap} (h : DR Γ base oprs fpf l E H E1 H1) : ∀ {E' : Env}, EqE E E' -> ∃ E1', DR Γ base oprs fpf l E' H E1' H1 /\ EqE E1' E1 := by
 induction h with
 | nil => exact fun {E'} hE => ⟨E', .nil, hE.symm⟩
 | cons ho hs _ ih =>
  intro E' hE
  obtain ⟨v, rfl, hs'⟩ := hs.env (fun t _ => hE t)
  obtain ⟨E1', hd, he⟩ := ih (hE.bindD _ v)
  exact ⟨E1', .cons ho hs' hd, he⟩
theorem move_front {Γ : List (Nat × Con)} {base : Nat} {oprs : List Opr} {fpf : Nat -> FP} {i : Nat} {ys : List Nat} : ∀ (xs : List Nat) {E E1 : Env} {H H1 : Heap}, DR Γ base oprs fpf (xs ++ i :: ys) E H E1 H1 ->
 (∀ x ∈ xs, ∀ ox oi, nth oprs x = some ox -> nth oprs i = some oi -> indep ox oi = true /\ FP.okB (fpf x) (fpf i) = true) -> ∃ E1', DR Γ base oprs fpf (i :: (xs ++ ys)) E H E1' H1 /\ EqE E1' E1
 | [], E, E1, H, H1, h, _ => ⟨E1, h, .refl _⟩
 | x :: xs, E, E1, H, H1, h, hp => by
  cases h with
  | @cons _ _ ox _ Ea _ _ Ha _ hox hsx hr =>
   obtain ⟨E2, hd, he⟩ := move_front xs hr (fun z hz => hp z (List.mem_cons_of_mem _ hz))
   cases hd with
   | @cons _ _ oi _ Eb _ _ Hb _ hoi hsi hr2 =>
    obtain ⟨h1, h2⟩ := hp x (by simp) ox oi hox hoi
    obtain ⟨Ea', Ha', Eb', k1, k2, k3⟩ := swap hsx hsi h1 h2
    obtain ⟨E3, hd3, he3⟩ := hr2.env k3.symm
    exact ⟨E3, .cons hoi k1 (.cons hox k2 hd3), he3.trans he⟩
def mask (o : Oper) (acc : List Nat) : Nat :=
 o.after.toList.foldl (fun s e => if Region.binds .any e then s ||| 2 ^ e.on ||| (acc[e.on]?).getD 0 else s) 0
def masks : List Oper -> List Nat -> List Nat
 | [], acc => acc
 | o :: os, acc => masks os (acc ++ [mask o acc])
theorem mask_fold (acc : List Nat) : ∀ (es : List Edge) (s x : Nat), (es.foldl (fun s e => if Region.binds .any e then s ||| 2 ^ e.on ||| (acc[e.on]?).getD 0 else s) s).testBit x = true ->
 s.testBit x = true ∨ ∃ e ∈ es, Region.binds .any e = true /\ (x = e.on ∨ ((acc[e.on]?).getD 0).testBit x = true)
 | [], s, x, h => .inl h
 | e :: es, s, x, h => by
  simp only [List.foldl_cons] at h
  rcases mask_fold acc es _ x h with h | ⟨e', he', h⟩
  ·by_cases hb : Region.binds .any e = true
   ·rw [if_pos hb, Nat.testBit_or, Nat.testBit_or, Bool.or_eq_true, Bool.or_eq_true] at h
    rcases h with (h | h) | h
    ·exact .inl h
    ·rw [Nat.testBit_two_pow] at h
     exact .inr ⟨e, by simp, hb, .inl (by simpa using h : e.on = x).symm⟩
    ·exact .inr ⟨e, by simp, hb, .inr h⟩
   ·rw [if_neg hb] at h; exact .inl h
  ·exact .inr ⟨e', List.mem_cons_of_mem _ he', h⟩
theorem mask_bit {o : Oper} {acc : List Nat} {x : Nat} (h : (mask o acc).testBit x = true) : ∃ e ∈ o.after.toList, Region.binds .any e = true /\ (x = e.on ∨ ((acc[e.on]?).getD 0).testBit x = true) := by
 rcases mask_fold acc _ 0 x h with h | h
 ·simp at h
 ·exact h
theorem masks_pre : ∀ (os : List Oper) (acc : List Nat), ∃ r, masks os acc = acc ++ r /\ r.length = os.length
 | [], acc => ⟨[], by simp [masks], rfl⟩
 | o :: os, acc => by
  obtain ⟨r, h1, h2⟩ := masks_pre os (acc ++ [mask o acc])
  exact ⟨mask o acc :: r, by simp [masks, h1], by simp [h2]⟩
theorem masks_at : ∀ (os : List Oper) (acc : List Nat) (k : Nat) (o : Oper), os[k]? = some o -> ∃ acc', (masks os acc)[acc.length + k]? = some (mask o acc') /\ ∀ j, (acc'[j]?).getD 0 = if j < acc.length + k then ((masks os acc)[j]?).getD 0 else 0
 | [], acc, k, o, h => by simp at h
 | o' :: os, acc, 0, o, h => by
  simp at h; subst h
  obtain ⟨r, h1, h2⟩ := masks_pre os (acc ++ [mask o' acc])
  refine ⟨acc, by simp [masks, h1], fun j => ?_⟩
  simp only [masks, h1]
  split
  ·rename_i hj; rw [List.getElem?_append_left (by simp; omega), List.getElem?_append_left (by omega)]
  ·rename_i hj; rw [List.getElem?_eq_none (by omega)]; rfl
 | o' :: os, acc, k + 1, o, h => by
  obtain ⟨acc', h1, h2⟩ := masks_at os (acc ++ [mask o' acc]) k o (by simpa using h)
  have e : (acc ++ [mask o' acc]).length + k = acc.length + (k + 1) := by simp; omega
  rw [e] at h1 h2
  exact ⟨acc', h1, h2⟩
def unOf (ms : List Nat) : List (List Nat) := (List.range ms.length).map fun j => (List.range j).filter fun i => !((ms[j]?).getD 0).testBit i
def edgesOk : List Oper -> Nat -> Bool
 | [], _ => true
 | o :: os, j => o.after.toList.all (fun e => !Region.binds .any e || Nat.blt e.on j) && edgesOk os (j + 1)
theorem edgesOk_at : ∀ {os : List Oper} {j : Nat}, edgesOk os j = true -> ∀ k o e, os[k]? = some o -> e ∈ o.after.toList -> Region.binds .any e = true -> e.on < j + k
 | [], _, _, k, o, e, h, _, _ => by simp at h
 | o' :: os, j, h, 0, o, e, ho, he, hb => by
  simp at ho; subst ho
  simp only [edgesOk, Bool.and_eq_true] at h
  have := List.all_eq_true.1 h.1 e he
  simp [hb] at this; omega
 | o' :: os, j, h, k + 1, o, e, ho, he, hb => by
  simp only [edgesOk, Bool.and_eq_true] at h
  have := edgesOk_at h.2 k o e (by simpa using ho) he hb
  omega
def pairsOk (un : List (List Nat)) (oprs : List Opr) : Bool :=
 (List.range oprs.length).all fun j => ((nth un j).getD []).all fun i => match nth oprs i, nth oprs j with
  | some x, some y => indep x y
  | _, _ => false
section
variable {P : Program} {N : Nat} {ρ0 : Rho} {H0 : Heap} {w0 : World}
def CompO (P : Program) (N : Nat) (ops : Array Oper) (o : Oper) (opr : Opr) : Prop :=
 (∃ s, compOp P s o.op = some opr.op) /\ opr.dst = o.dst /\ dstOk N o.dst = true /\
  ((o.guard = none /\ opr.guard = none) ∨ ∃ j want g, o.guard = some (j, want) /\ (ops[j]?).bind (·.dst) = some g /\ opr.guard = some (g, want))
theorem compOprs_at {ops : Array Oper} : ∀ {os : List Oper} {s : Nat} {l : List Opr}, compOprs P N ops s os = some l -> l.length = os.length /\ ∀ k o, os[k]? = some o -> ∃ opr, nth l k = some opr /\ CompO P N ops o opr
 | [], s, l, h => by simp [compOprs] at h; subst h; exact ⟨rfl, by simp⟩
 | o :: os, s, l, h => by
  simp only [compOprs] at h
  split at h
  ·rename_i op l' h1 h2
   obtain ⟨k1, k2⟩ := compOprs_at h2
   split at h
   ·rename_i hd
    have mk : ∀ (opr : Opr), CompO P N ops o opr -> (opr :: l').length = (o :: os).length /\ ∀ k o', (o :: os)[k]? = some o' -> ∃ opr', nth (opr :: l') k = some opr' /\ CompO P N ops o' opr' := by
     intro opr hc
     refine ⟨by simp [k1], fun k o' hk => ?_⟩
     cases k with
     | zero => simp at hk; subst hk; exact ⟨opr, rfl, hc⟩
     | succ k => exact k2 k o' (by simpa using hk)
    split at h
    ·rename_i hg
     cases h
     exact mk _ ⟨⟨s, h1⟩, rfl, hd, .inl ⟨hg, rfl⟩⟩
    ·rename_i j want hg
     split at h
     ·rename_i g hj
      cases h
      exact mk _ ⟨⟨s, h1⟩, rfl, hd, .inr ⟨j, want, g, hg, hj, rfl⟩⟩
     ·cases h
   ·cases h
  ·cases h
theorem St.eqE {ρ : Rho} {H : Heap} {w : World} {E E' : Env} {a : Act} (h : St P N ρ0 H0 w0 ρ H w E a) (e : EqE E E') : St P N ρ0 H0 w0 ρ H w E' a :=
 ⟨h.step, fun t v hv => h.env t v (by rw [e t]; exact hv), h.size, h.defers⟩
theorem any_sound {Γ : List (Nat × Con)} (hΓ : Known0 P Γ) {ops : Array Oper} {oprs : List Opr} {base : Nat} {fpf : Nat -> FP} {Q : Exit -> Act -> World -> Prop} {E1 : Env} {H1 : Heap}
 (hc : ∀ i o, ops[i]? = some o -> ∃ opr, nth oprs i = some opr /\ CompO P N ops o opr) (m : Nat -> Nat)
 (hm : ∀ i o, ops[i]? = some o -> ∀ x, (m i).testBit x = true -> ∃ e ∈ o.after.toList, Region.binds .any e = true /\ (x = e.on ∨ (e.on < i /\ (m e.on).testBit x = true)))
 (hpairs : ∀ j i oi oj, j < ops.size -> i < j -> (m j).testBit i = false -> nth oprs i = some oi -> nth oprs j = some oj -> indep oi oj = true /\ FP.okB (fpf i) (fpf j) = true)
 (hedge : ∀ j o e, ops[j]? = some o -> e ∈ o.after.toList -> Region.binds .any e = true -> e.on < j)
 (hQ : ∀ ρ w a E, EqE E E1 -> St P N ρ0 H0 w0 ρ H1 w E a -> Q .normal a w) :
 ∀ (fuel : Nat) (listed : Array Bool) (L : List Nat) (E : Env) (H : Heap) (ρ : Rho) (w : World) (a : Act), listed.size = ops.size -> L.Pairwise (· < ·) -> (∀ i, i < ops.size -> (listed.getD i true = false ↔ i ∈ L)) -> (∀ i ∈ L, i < ops.size) ->
  L.length = fuel -> (∀ i, i < ops.size -> i ∉ L -> ∀ x, (m i).testBit x = true -> x ∉ L) -> (∃ E1', DR Γ base oprs fpf L E H E1' H1 /\ EqE E1' E1) -> St P N ρ0 H0 w0 ρ H w E a -> wpAny P .any ops Q fuel listed a w := by
 intro fuel
 induction fuel with
 | zero =>
  intro listed L E H ρ w a hsz hso hl hlt hlen hcl hd hs
  have : L = [] := List.length_eq_zero_iff.1 hlen
  subst this
  obtain ⟨E1', hd, he⟩ := hd
  cases hd
  refine ⟨?_, hQ ρ w a E he hs⟩
  unfold Region.ready
  rw [List.filter_eq_nil_iff]
  intro i hi
  have hi := List.mem_range.1 hi
  have : listed.getD i true = true := by
   cases hb : listed.getD i true with
   | true => rfl
   | false => exact absurd ((hl i hi).1 hb) (by simp)
  simp only [this, Bool.not_true, Bool.false_and, Bool.false_eq_true, not_false_eq_true]
 | succ fuel ih =>
  intro listed L E H ρ w a hsz hso hl hlt hlen hcl hd hs
  have inL : ∀ j, j < ops.size -> (listed.getD j false = true ↔ j ∉ L) := by
   intro j hj
   have h1 : listed.getD j false = listed.getD j true := by simp [Array.getD, hsz, hj]
   rw [h1]
   constructor
   ·intro h hm'; rw [(hl j hj).2 hm'] at h; cases h
   ·intro h
    cases hb : listed.getD j true with
    | true => rfl
    | false => exact absurd ((hl j hj).1 hb) h
  refine ⟨fun hnil => ?_, fun i hi => ?_⟩
  ·exfalso
   cases L with
   | nil => simp at hlen
   | cons i L' =>
    have hi := hlt i (by simp)
    have hmin : ∀ j ∈ i :: L', i <= j := by
     intro j hj
     rcases List.mem_cons.1 hj with rfl | hj
     ·exact Nat.le_refl _
     ·exact Nat.le_of_lt ((List.pairwise_cons.1 hso).1 j hj)
    have : i ∈ Region.ready .any ops listed := by
     unfold Region.ready
     rw [List.mem_filter]
     refine ⟨List.mem_range.2 hi, ?_⟩
     have h0 : listed.getD i true = false := (hl i hi).2 (by simp)
     have hoi : ops[i]? = some ops[i] := by simp [hi]
     simp only [h0, Bool.not_false, Bool.true_and, hoi, Option.map_some, Option.getD_some]
     rw [← Array.all_toList]
     rw [List.all_eq_true]
     intro e he
     cases hb : Region.binds .any e with
     | false => simp
     | true =>
      have hlt' := hedge i _ e hoi he hb
      have : e.on ∉ i :: L' := fun h => by have := hmin _ h; omega
      simp [(inL e.on (by omega)).2 this]
    rw [hnil] at this; simp at this
  ·unfold Region.ready at hi
   rw [List.mem_filter] at hi
   obtain ⟨hin, hr⟩ := hi
   have hin := List.mem_range.1 hin
   have hoi : ops[i]? = some ops[i] := by simp [hin]
   generalize ops[i] = o at hoi
   simp only [hoi, Option.map_some, Option.getD_some, Bool.and_eq_true, Bool.not_eq_true'] at hr
   obtain ⟨h0, hpre⟩ := hr
   have hiL := (hl i hin).1 h0
   obtain ⟨xs, ys, rfl⟩ := List.append_of_mem hiL
   rw [← Array.all_toList, List.all_eq_true] at hpre
   have hpreds : ∀ x, (m i).testBit x = true -> x ∉ xs ++ i :: ys := by
    intro x hx
    obtain ⟨e, he, hb, hor⟩ := hm i o hoi x hx
    have := hpre e he
    simp only [hb, Bool.not_true, Bool.false_or] at this
    have hlt' := hedge i o e hoi he hb
    have hnot := (inL e.on (by omega)).1 this
    rcases hor with rfl | ⟨_, hx'⟩
    ·exact hnot
    ·exact hcl e.on (by omega) hnot x hx'
   have hxlt : ∀ x ∈ xs, x < i := fun x hx => (List.pairwise_append.1 hso).2.2 x hx i (by simp)
   obtain ⟨E1', hd, he⟩ := hd
   obtain ⟨E2, hd2, he2⟩ := move_front xs hd (fun x hx ox oi hox hoi' => by
    refine hpairs i x ox oi hin (hxlt x hx) ?_ hox hoi'
    cases hb : (m i).testBit x with
    | false => rfl
    | true => exact absurd (by simp [hx]) (hpreds x hb))
   have ih' := fun E H ρ w a => ih (listed.setIfInBounds i true) (xs ++ ys) E H ρ w a (by simp [hsz]) (by
    rw [List.pairwise_append] at hso ⊢
    exact ⟨hso.1, (List.pairwise_cons.1 hso.2.1).2, fun x hx y hy => hso.2.2 x hx y (List.mem_cons_of_mem _ hy)⟩) (by
    intro j hj
    have hnd : i ∉ xs /\ i ∉ ys := by
     rw [List.pairwise_append] at hso
     refine ⟨fun h => by have := hxlt i h; omega, fun h => by have := (List.pairwise_cons.1 hso.2.1).1 i h; omega⟩
    by_cases e : i = j
    ·subst e
     simp only [Array.getD_eq_getD_getElem?, Array.getElem?_setIfInBounds_self_of_lt (by omega : i < listed.size), Option.getD_some]
     simp [hnd.1, hnd.2]
    ·have := hl j hj
     simp only [Array.getD_eq_getD_getElem?] at this ⊢
     rw [Array.getElem?_setIfInBounds_ne e, this]
     simp only [List.mem_append, List.mem_cons]
     constructor
     ·rintro (h | h | h)
      ·exact .inl h
      ·exact absurd h.symm e
      ·exact .inr h
     ·rintro (h | h)
      ·exact .inl h
      ·exact .inr (.inr h)) (fun j hj => hlt j (by simp at hj ⊢; rcases hj with h | h <;> simp [h])) (by simp at hlen ⊢; omega) (by
    intro j hj hjn x hx
    by_cases e : j = i
    ·subst e
     have := hpreds x hx
     intro h; exact this (by simp at h ⊢; rcases h with h | h <;> simp [h])
    ·have := hcl j hj (by simp at hjn ⊢; exact ⟨hjn.1, e, hjn.2⟩) x hx
     intro h; exact this (by simp at h ⊢; rcases h with h | h <;> simp [h]))
   obtain ⟨opr, hopr, ⟨s, hco⟩, hdst, hdok, hgd⟩ := hc i o hoi
   cases hd2 with
   | @cons _ _ o2 _ Ea _ _ Ha _ ho2 hst hrest =>
    rw [hopr] at ho2; cases ho2
    unfold wpOp
    simp only [hoi]
    generalize hfp : fpf i = fp at hst
    cases hst with
    | @op p v _ _ hg hev hp =>
     have hw : Region.wanted o (yielded ops a.tmps) = true := by
      rcases hgd with ⟨g1, _⟩ | ⟨j, want, g, g1, g2, g3⟩
      ·simp [Region.wanted, g1]
      ·rw [wanted_of hs g1 g2 (hg g want g3)]; simp
     simp only [hw, if_true]
     refine .inl (ev_sound hΓ hco hev hp hs.env hs.step.rel _ _ (fun ρ' w' st wf => ?_))
     have hs' := hs.put (d := opr.dst) st wf (by rw [hdst]; exact hdok)
     rw [hdst] at hs' hrest
     exact ih' _ _ ρ' w' _ ⟨E2, hrest, he2.trans he⟩ hs'
    | @skip g want hg hlk =>
     rcases hgd with ⟨_, g1⟩ | ⟨j, want', g', g1, g2, g3⟩
     ·rw [g1] at hg; cases hg
     ·rw [g3] at hg; cases hg
      have hw : Region.wanted o (yielded ops a.tmps) = false := by
       rcases hlk with hlk | hlk
       ·rw [wanted_of hs g1 g2 hlk]; cases want <;> rfl
       ·exact wanted_off hs g1 g2 hlk
      simp only [hw, Bool.false_eq_true, if_false]
      have hs' := hs.put (v := .tup []) (d := opr.dst) (Step.refl hs.step.rel) trivial (by rw [hdst]; exact hdok)
      rw [hdst] at hs' hrest
      exact ih' _ _ ρ w _ ⟨E2, hrest, he2.trans he⟩ (by simpa [conc, vals, undef] using hs')
theorem KnOk.eqE {K : Kn} {E E' : Env} (h : KnOk K E) (e : EqE E E') : KnOk K E' := fun t b hb => by rw [← e t]; exact h t b hb
theorem runOps_dr {Γ : List (Nat × Con)} {base : Nat} {F : Env -> Kn -> Heap -> List FP -> Prop} {oprs : List Opr} : ∀ (l : List Opr) (k : Nat) (E : Env) (K : Kn) (H : Heap) (fps : List FP), (∀ j, nth oprs (k + j) = nth l j) -> fps.length = k -> KnOk K E -> runOps Γ base F l E K H fps ->
 ∃ E1 K1 H1 fs, (∀ fpf : Nat -> FP, (∀ j, j < l.length -> fpf (k + j) = (nth fs (l.length - 1 - j)).getD .none) -> DR Γ base oprs fpf ((List.range l.length).map (k + ·)) E H E1 H1) /\ KnOk K1 E1 /\ fs.length = l.length /\ F E1 K1 H1 (fs ++ fps)
 | [], k, E, K, H, fps, hl, hk, hK, h => ⟨E, K, H, [], fun _ _ => .nil, hK, rfl, h⟩
 | o :: l, k, E, K, H, fps, hl, hk, hK, h => by
  have ho : nth oprs k = some o := by have := hl 0; simpa [nth] using this
  have tail : ∀ {E' : Env} {K' : Kn} {H' : Heap} {fp : FP}, KnOk K' E' -> Stp Γ base o E H E' H' fp -> runOps Γ base F l E' K' H' (fp :: fps) ->
   ∃ E1 K1 H1 fs, (∀ fpf : Nat -> FP, (∀ j, j < (o :: l).length -> fpf (k + j) = (nth fs ((o :: l).length - 1 - j)).getD .none) -> DR Γ base oprs fpf ((List.range (o :: l).length).map (k + ·)) E H E1 H1) /\ KnOk K1 E1 /\ fs.length = (o :: l).length /\ F E1 K1 H1 (fs ++ fps) := by
   intro E' K' H' fp he hs hr
   obtain ⟨E1, K1, H1, fs, h1, h2, h3, h4⟩ := runOps_dr l (k + 1) E' K' H' (fp :: fps) (fun j => by have := hl (j + 1); rw [show k + 1 + j = k + (j + 1) from by omega]; simpa [nth] using this) (by simp [hk]) he hr
   refine ⟨E1, K1, H1, fs ++ [fp], fun fpf hf => ?_, h2, by simp [h3], by simpa using h4⟩
   rw [List.length_cons, List.range_succ_eq_map, List.map_cons, List.map_map]
   have hf0 : fpf k = fp := by
    have := hf 0 (by simp)
    rw [Nat.add_zero] at this
    rw [this, nth_eq]
    simp [h3]
   refine .cons (E1 := E') (H1 := H') ho (by rw [Nat.add_zero, hf0]; exact hs) ?_
   have := h1 fpf (fun j hj => by
    have := hf (j + 1) (by simp; omega)
    rw [show k + 1 + j = k + (j + 1) from by omega, this, nth_eq, nth_eq]
    congr 1
    simp only [List.length_cons, Nat.add_sub_cancel]
    rw [List.getElem?_append_left (by omega), show l.length - (j + 1) = l.length - 1 - j from by omega])
   have e : (List.range l.length).map ((k + ·) ∘ Nat.succ) = (List.range l.length).map (k + 1 + ·) := by
    apply List.map_congr_left; intro j _; simp only [Function.comp]; omega
   rw [e]; exact this
  have doIt : ∀ {K : Kn}, KnOk K E -> (∀ g want, o.guard = some (g, want) -> lk E g = some (.bool want)) -> (match (resK K o.op).ev Γ base E H with | some ⟨p, v, H', fp⟩ => pand p (runOps Γ base F l (bindD E o.dst v) (bindK K o.dst (kn base K (resK K o.op))) H' (fp :: fps)) | none => False) ->
   ∃ E1 K1 H1 fs, (∀ fpf : Nat -> FP, (∀ j, j < (o :: l).length -> fpf (k + j) = (nth fs ((o :: l).length - 1 - j)).getD .none) -> DR Γ base oprs fpf ((List.range (o :: l).length).map (k + ·)) E H E1 H1) /\ KnOk K1 E1 /\ fs.length = (o :: l).length /\ F E1 K1 H1 (fs ++ fps) := by
   intro K hK hg h
   split at h
   ·rename_i p v H' fp hev
    have h := pand_iff.1 h
    exact tail (hK.bind (fun c hc => kn_ev hK hev hc)) (.op hg (resolve_ev hK hev) h.1) h.2
   ·exact h.elim
  have skipIt : ∀ {K : Kn} {g : Nat} {want : Bool}, KnOk K E -> o.guard = some (g, want) -> (lk E g = some (.bool (!want)) ∨ lk E g = some (.tup [])) -> runOps Γ base F l (bindD E o.dst (.tup [])) (bindK K o.dst none) H (.none :: fps) ->
   ∃ E1 K1 H1 fs, (∀ fpf : Nat -> FP, (∀ j, j < (o :: l).length -> fpf (k + j) = (nth fs ((o :: l).length - 1 - j)).getD .none) -> DR Γ base oprs fpf ((List.range (o :: l).length).map (k + ·)) E H E1 H1) /\ KnOk K1 E1 /\ fs.length = (o :: l).length /\ F E1 K1 H1 (fs ++ fps) :=
   fun hK hg hl h => tail (hK.bind (fun c hc => by cases hc)) (.skip hg hl) h
  simp only [runOps] at h
  split at h
  ·rename_i hgd
   exact doIt hK (fun g want hg => by rw [hgd] at hg; cases hg) h
  ·rename_i g want hgd
   split at h
   ·rename_i b hb
    have hl := knO_ev hK hb
    have hg : ∀ w', b = w' -> want = w' -> (∀ g' want', o.guard = some (g', want') -> lk E g' = some (.bool want')) := fun w' h1 h2 g' want' hg => by
     rw [hgd] at hg; cases hg; subst h1; subst h2; exact hl
    split at h
    ·exact doIt hK (hg true rfl rfl) h
    ·exact doIt hK (hg false rfl rfl) h
    ·exact skipIt hK hgd (.inl hl) h
    ·exact skipIt hK hgd (.inl hl) h
   ·split at h
    ·rename_i b hb
     by_cases e : b = want
     ·subst e
      exact doIt (hK.know hb) (fun g' want' hg => by rw [hgd] at hg; cases hg; exact hb) (h.1 rfl)
     ·have e' : b = !want := by cases b <;> cases want <;> simp_all
      exact skipIt (hK.know (by rw [← e']; exact hb)) hgd (.inl (by rw [← e']; exact hb)) (h.2 e')
    ·rename_i hb
     exact skipIt hK hgd (.inr hb) h
    ·exact h.elim
theorem BlkRel.drew {ρ : Rho} {w : World} {b : Nat} {t : TypeId} {B : Blk} (h : BlkRel P ρ w b t B) : BlkRel P ρ { w with drawn := w.drawn + 1 } b t B := by
 cases B <;> exact h
theorem region_any {Γ : List (Nat × Con)} (hΓ : Known0 P Γ) {ops : Array Oper} {oprs : List Opr} {base : Nat} {F : Env -> Kn -> Heap -> List FP -> Prop} {Q : Exit -> Act -> World -> Prop} {E : Env} {K : Kn} {H : Heap} {ρ : Rho} {w : World} {a : Act} {id : Nat}
 (hmix : P.follows .mixedOrders = true) (hc : compOprs P N ops 0 ops.toList = some oprs) (he : edgesOk ops.toList 0 = true) (hp : pairsOk (unOf (masks ops.toList [])) oprs = true)
 (hQ : ∀ ρ H w E K a fps, St P N ρ0 H0 w0 ρ H w E a -> KnOk K E -> F E K H fps -> Q .normal a w) (hs : St P N ρ0 H0 w0 ρ H w E a) (hK : KnOk K E)
 (hr : runOps Γ base (fun E K H fps => fpsOk oprs.length (unOf (masks ops.toList [])) fps = true /\ F E K H fps) oprs E K H []) : (Code.region id ops true).wp P Q a w := by
 obtain ⟨hlen, hat⟩ := compOprs_at hc
 have hlen' : oprs.length = ops.size := by rw [hlen, Array.length_toList]
 obtain ⟨E1, K1, H1, fs, h1, h2, h3, h4, h5⟩ := runOps_dr oprs 0 E K H [] (fun j => by rw [Nat.zero_add]) rfl hK hr
 rw [List.append_nil] at h4 h5
 let fpf : Nat -> FP := fun j => (nth fs (oprs.length - 1 - j)).getD .none
 have hdr := h1 fpf (fun j hj => by rw [Nat.zero_add])
 have hmap : (List.range oprs.length).map (0 + ·) = List.range ops.size := by
  rw [hlen']; simp
 rw [hmap] at hdr
 have hs1 : St P N ρ0 H0 w0 ρ H { w with drawn := w.drawn + 1 } E a :=
  ⟨⟨⟨fun b t B hb hν => BlkRel.drew (hs.step.rel.blk b t B hb hν), hs.step.rel.inj, hs.step.rel.lt, hs.step.rel.nul, hs.step.rel.wf, hs.step.rel.wfm⟩, hs.step.ext, hs.step.agr, hs.step.os, hs.step.tape, hs.step.output, hs.step.size, hs.step.keep, hs.step.new⟩, hs.env, hs.size, hs.defers⟩
 let ms := masks ops.toList []
 have hmslen : ms.length = ops.size := by
  obtain ⟨r, e1, e2⟩ := masks_pre ops.toList []
  show (masks ops.toList []).length = _
  rw [e1, List.nil_append, e2, Array.length_toList]
 refine wp_region_any hmix (any_sound (base := base) (fpf := fpf) hΓ (fun i o ho => hat i o (by simpa using ho)) (fun i => (ms[i]?).getD 0) ?_ ?_ ?_ (fun ρ w a E e st => hQ ρ H1 w E1 K1 a fs (st.eqE e) h2 h5)
  ops.size _ (List.range ops.size) E H ρ _ a (by simp) List.pairwise_lt_range (fun i hi => by simp [hi]) (fun i hi => List.mem_range.1 hi) (by simp) (fun i hi hn => absurd (List.mem_range.2 hi) hn) ⟨E1, hdr, .refl _⟩ hs1)
 ·intro i o ho x hx
  obtain ⟨acc', k1, k2⟩ := masks_at ops.toList [] i o (by simpa using ho)
  simp only [List.length_nil, Nat.zero_add] at k1 k2
  have hx : (mask o acc').testBit x = true := by
   have : (ms[i]?).getD 0 = mask o acc' := by show ((masks ops.toList [])[i]?).getD 0 = _; rw [k1]; rfl
   rw [← this]; exact hx
  obtain ⟨e, he1, he2, hor⟩ := mask_bit hx
  refine ⟨e, he1, he2, hor.imp _root_.id (fun h => ?_)⟩
  rw [k2] at h
  split at h
  ·rename_i hlt; exact ⟨hlt, h⟩
  ·simp at h
 ·intro j i oi oj hj hij hb hoi hoj
  have hun : nth (unOf ms) j = some ((List.range j).filter fun i => !((ms[j]?).getD 0).testBit i) := by
   rw [nth_eq]; simp [unOf, hmslen, hj]
  have himem : i ∈ (List.range j).filter fun i => !((ms[j]?).getD 0).testBit i := by
   rw [List.mem_filter]; exact ⟨List.mem_range.2 hij, by simp [hb]⟩
  constructor
  ·have := List.all_eq_true.1 hp j (List.mem_range.2 (by omega))
   rw [show nth (unOf (masks ops.toList [])) j = _ from hun] at this
   have := List.all_eq_true.1 this i himem
   rw [hoi, hoj] at this
   exact this
  ·unfold fpsOk at h4
   have := List.all_eq_true.1 h4 j (List.mem_range.2 (by omega))
   rw [show nth (unOf (masks ops.toList [])) j = _ from hun] at this
   have hfj : ∃ y, nth fs (oprs.length - 1 - j) = some y := by
    rw [nth_eq]; exact ⟨_, List.getElem?_eq_getElem (by omega)⟩
   obtain ⟨y, hy⟩ := hfj
   rw [hy] at this
   simp only at this
   have := List.all_eq_true.1 this i himem
   have hfi : ∃ x, nth fs (oprs.length - 1 - i) = some x := by
    rw [nth_eq]; exact ⟨_, List.getElem?_eq_getElem (by omega)⟩
   obtain ⟨x, hx⟩ := hfi
   rw [hx] at this
   show FP.okB ((nth fs (oprs.length - 1 - i)).getD .none) ((nth fs (oprs.length - 1 - j)).getD .none) = true
   rw [hx, hy]; exact this
 ·intro j o e ho he1 hb
  have := edgesOk_at he j o e (by simpa using ho) he1 hb
  omega
end
end
section
section
variable {P : Program} {N : Nat} {ρ0 : Rho} {H0 : Heap} {w0 : World}
def compCode (P : Program) (N : Nat) : Code -> Option IR
 | .skip => some .skip
 | .region _ ops draw => match draw with
  | false => (compOprs P N ops 0 ops.toList).map fun l => .region (ops.toList.filter (slotted ·.op)).length l none
  | true => match compOprs P N ops 0 ops.toList with
   | some l => if edgesOk ops.toList 0 && pairsOk (unOf (masks ops.toList [])) l && P.follows .mixedOrders then some (.region (ops.toList.filter (slotted ·.op)).length l (some (unOf (masks ops.toList [])))) else none
   | none => none
 | .seq a b => match compCode P N a, compCode P N b with
  | some a, some b => some (.seq a b)
  | _, _ => none
 | .cond c x y => match ofOperand c, compCode P N x, compCode P N y with
  | some c, some x, some y => some (.cond c x y)
  | _, _, _ => none
 | .block id b => (compCode P N b).map (.block id)
 | .loop b => (compCode P N b).map .loop
 | .exit id => some (.exit id)
 | .ret => some .ret
 | _ => none
inductive ItR (P : Program) (N : Nat) : It -> Item -> Prop where
 | code {c : Code} {ir : IR} : compCode P N c = some ir -> ItR P N (.code ir) (.code c)
 | block (id : Nat) : ItR P N (.inBlock id) (.inBlock id)
 | loop {c : Code} {ir : IR} : compCode P N c = some ir -> ItR P N (.inLoop ir) (.inLoop c)
inductive TodoR (P : Program) (N : Nat) : List It -> List Item -> Prop where
 | nil : TodoR P N [] []
 | cons {x : It} {y : Item} {l : List It} {m : List Item} : ItR P N x y -> TodoR P N l m -> TodoR P N (x :: l) (y :: m)
theorem popTo_exitTo {id : Nat} : ∀ {l : List It} {m : List Item} {l' : List It}, TodoR P N l m -> popTo id l = some l' -> ∃ m', exitTo id m = some m' /\ TodoR P N l' m'
 | [], _, _, _, h => by simp [popTo] at h
 | .inBlock i :: l, _, l', .cons (y := y) (m := m) hy hr, h => by
  cases hy
  simp only [popTo] at h
  cases hb : Nat.beq id i <;> simp only [hb, cond_true, cond_false] at h
  ·obtain ⟨m', h1, h2⟩ := popTo_exitTo hr h
   refine ⟨m', ?_, h2⟩
   have hne : id ≠ i := fun e => by subst e; simp at hb
   have : (i == id) = false := by simpa using fun e => hne e.symm
   simp [exitTo, this, h1]
  ·cases h
   have := beq_eq hb; subst this
   exact ⟨m, by simp [exitTo], hr⟩
 | .code c :: l, _, l', .cons (y := y) (m := m) hy hr, h => by
  cases hy
  obtain ⟨m', h1, h2⟩ := popTo_exitTo (l := l) hr (by simpa [popTo] using h)
  exact ⟨m', by simpa [exitTo] using h1, h2⟩
 | .inLoop c :: l, _, l', .cons (y := y) (m := m) hy hr, h => by
  cases hy
  obtain ⟨m', h1, h2⟩ := popTo_exitTo (l := l) hr (by simpa [popTo] using h)
  exact ⟨m', by simpa [exitTo] using h1, h2⟩
structure Cx where
 P : Program
 f : FuncId
 fn : Func
 ρ : Rho
 H : Heap
 w : World
 R : Ending -> World -> Prop
def Cx.st (C : Cx) (ρ : Rho) (H : Heap) (w : World) (E : Env) (a : Act) : Prop := St C.P C.fn.ntmps C.ρ C.H C.w ρ H w E a
def SemT (C : Cx) (k : List It) (E : Env) (H : Heap) : Prop :=
 ∀ (ρ : Rho) (w : World) (a : Act) (b : Frame) (todo : List Item) (cs : List Frame), b.fn = C.f -> b.kind = .normal -> TodoR C.P C.fn.ntmps k todo -> C.st ρ H w E a ->
  ∃ e w' fr, C.R e w' /\ Comes C.P (lone (b.at a todo) cs w) (lone fr cs w') e /\ fr.fn = C.f /\ fr.leaving C.P w' e
def RetT (C : Cx) (E : Env) (H : Heap) : Prop :=
 ∀ (ρ : Rho) (w : World) (a : Act), C.st ρ H w E a -> ∃ v, (results C.fn a.tmps).run C.P w = .ok v w /\ C.R (.returned v) w
theorem ret_comes {C : Cx} (hf : C.P.funcs[C.f]? = some C.fn) {E : Env} {H : Heap} (h : RetT C E H) {ρ : Rho} {w : World} {a : Act} {b : Frame} (hb : b.fn = C.f) (hk : b.kind = .normal) (hs : C.st ρ H w E a) (todo : List Item) (cs : List Frame) :
 ∃ e w' fr, C.R e w' /\ Comes C.P (lone { b.at a todo with mode := .returning } cs w) (lone fr cs w') e /\ fr.fn = C.f /\ fr.leaving C.P w' e := by
 obtain ⟨v, h1, h2⟩ := h ρ w a hs
 exact ⟨.returned v, w, _, h2, Steps.refl _ _, hb, rfl, hs.defers, hk, C.fn, by simpa [Frame.at, hb] using hf, h1⟩
theorem comes_step {C : Cx} {m m1 : Machine} {cs : List Frame} (h : Steps C.P m m1) (h' : ∃ e w' fr, C.R e w' /\ Comes C.P m1 (lone fr cs w') e /\ fr.fn = C.f /\ fr.leaving C.P w' e) :
 ∃ e w' fr, C.R e w' /\ Comes C.P m (lone fr cs w') e /\ fr.fn = C.f /\ fr.leaving C.P w' e := by
 obtain ⟨e, w', fr, h1, h2, h3⟩ := h'
 exact ⟨e, w', fr, h1, Comes.of_steps h h2, h3⟩
theorem lk_argsE : ∀ (i : Nat) (vs : List V) (t : Nat) (v : V), lk (argsE i vs) t = some v -> i <= t /\ vs[t - i]? = some v
 | _, [], _, _, h => by simp [argsE, lk] at h
 | i, u :: l, t, v, h => by
  simp only [argsE] at h
  rw [lk_cons] at h
  by_cases e : i = t
  ·subst e; rw [if_pos rfl] at h; cases h; simp
  ·rw [if_neg e] at h
   obtain ⟨h1, h2⟩ := lk_argsE (i + 1) l t v h
   refine ⟨by omega, ?_⟩
   rw [show t - i = (t - (i + 1)) + 1 from by omega]
   simpa using h2
def resTys : List ResultVar -> List TypeId
 | [] => []
 | .tmp _ :: l => resTys l
 | .cell _ t :: l => t :: resTys l
theorem resV_run {ρ : Rho} {H : Heap} {w : World} {E : Env} {tmps : Array Value} (hE : ERel P ρ H E tmps) (hR : HRel P ρ H w) : ∀ (rs : List ResultVar) (vs : List V), (resTys rs).all (tyOk P) = true -> resV rs E H = some vs ->
 Wfs P H vs /\ (rs.mapM fun
  | .tmp t => pure (tmps.getD t undef)
  | .cell a t => do loadVar t (← asAddr (tmps.getD a undef)) : Sem (List Value)).run P w = .ok (vals ρ vs) w
 | [], vs, _, h => by simp [resV] at h; subst h; exact ⟨trivial, by simp [vals]⟩
 | .tmp t :: l, vs, ht, h => by
  simp only [resV] at h
  split at h
  ·rename_i v us h1 h2
   cases h
   obtain ⟨k1, k2⟩ := hE t v h1
   obtain ⟨k3, k4⟩ := resV_run hE hR l us (by simpa [resTys] using ht) h2
   refine ⟨⟨k1, k3⟩, ?_⟩
   rw [List.mapM_cons]
   simp only [Sem.run_bind, Sem.run_pure, Result.andThen_ok, getD_of k2, k4, vals]
  ·cases h
 | .cell x t :: l, vs, ht, h => by
  simp only [resV] at h
  split at h
  ·rename_i b off p t' us h1 h2
   cases hb : Nat.beq t t' <;> simp only [hb, cond_true, cond_false] at h
   ·cases h
   ·have := beq_eq hb; subst this
    split at h
    ·rename_i v hv
     cases h
     simp only [resTys, List.all_cons, Bool.and_eq_true] at ht
     obtain ⟨k1, k2⟩ := hE x _ h1
     obtain ⟨k3, k4⟩ := resV_run hE hR l us ht.2 h2
     obtain ⟨_, kw, _⟩ := rd_cells hR k1 hv
     refine ⟨⟨kw, k3⟩, ?_⟩
     have hrun : (loadVar t ⟨ρ.π b, ρ.δ b + off, none⟩).run P w = .ok (conc ρ v) w := by
      have := load_run hR ht.1 k1 hv
      exact this
     rw [List.mapM_cons]
     have e1 : (asAddr (tmps.getD x undef)).run P w = .ok ⟨ρ.π b, ρ.δ b + off, none⟩ w := by rw [getD_of k2]; simp [conc, asAddr]
     simp only [Sem.run_bind, e1, Sem.run_pure, Result.andThen_ok, hrun, k4, vals]
    ·cases h
  ·cases h
structure Fn (P : Program) (f : FuncId) (ir : IR) (np : Nat) (rs : List ResultVar) : Prop where
 ex : ∃ fn code, P.funcs[f]? = some fn /\ fn.body = some code /\ compCode P fn.ntmps code = some ir /\ fn.results.toList = rs /\ np <= fn.ntmps /\ (fn.name == "runtime.NumGoroutine") = false
 tys : (resTys rs).all (tyOk P) = true
theorem Fn.enters {P : Program} {f : FuncId} {ir : IR} {np : Nat} {rs : List ResultVar} (h : Fn P f ir np rs) : Enters P f := by
 obtain ⟨fn, code, h1, h2, _, _, _, h6⟩ := h.ex
 exact ⟨fn, h1, h6, by rw [h2]; rfl⟩
theorem array_mapM {w : World} {P : Program} (fn : Func) (tmps : Array Value) {vs : List Value}
 (h : (fn.results.toList.mapM fun
  | .tmp t => pure (tmps.getD t undef)
  | .cell a t => do loadVar t (← asAddr (tmps.getD a undef)) : Go.Sem (List Value)).run P w = .ok vs w) :
 (results fn tmps).run P w = .ok (if h : vs.toArray.size = 1 then vs.toArray[0] else .tuple vs.toArray) w := by
 unfold results
 rw [Array.mapM_eq_mapM_toList]
 simp only [Go.Sem.run_bind, Go.Sem.run_map]
 erw [h]
 simp only [Result.andThen_ok, Go.Sem.run_pure]
theorem runOps_mono {Γ : List (Nat × Con)} {base : Nat} {F F' : Env -> Kn -> Heap -> List FP -> Prop} (hF : ∀ E K H fps, F E K H fps -> F' E K H fps) : ∀ (l : List Opr) (E : Env) (K : Kn) (H : Heap) (fps : List FP), runOps Γ base F l E K H fps -> runOps Γ base F' l E K H fps
 | [], E, K, H, fps, h => hF E K H fps h
 | o :: os, E, K, H, fps, h => by
  have go : ∀ K, (match (resK K o.op).ev Γ base E H with | some ⟨p, v, H', fp⟩ => pand p (runOps Γ base F os (bindD E o.dst v) (bindK K o.dst (kn base K (resK K o.op))) H' (fp :: fps)) | none => False) ->
   (match (resK K o.op).ev Γ base E H with | some ⟨p, v, H', fp⟩ => pand p (runOps Γ base F' os (bindD E o.dst v) (bindK K o.dst (kn base K (resK K o.op))) H' (fp :: fps)) | none => False) := by
   intro K h
   split at h
   ·have h := pand_iff.1 h
    exact pand_iff.2 ⟨h.1, runOps_mono hF os _ _ _ _ h.2⟩
   ·exact h.elim
  simp only [runOps] at h ⊢
  split at h
  ·exact go K h
  ·split at h
   ·split at h
    ·exact go K h
    ·exact go K h
    ·exact runOps_mono hF os _ _ _ _ h
    ·exact runOps_mono hF os _ _ _ _ h
   ·split at h
    ·exact ⟨fun e => go _ (h.1 e), fun e => runOps_mono hF os _ _ _ _ (h.2 e)⟩
    ·exact runOps_mono hF os _ _ _ _ h
    ·exact h.elim
theorem runOpsI_mono {Γ : List (Nat × Con)} {base : Nat} {I I' : Nat -> IR -> List ResultVar -> List V -> Kn -> Heap -> (V -> Heap -> Prop) -> Prop} (hI : ∀ f ir rs vs K H Q Q', (∀ v H, Q v H -> Q' v H) -> I f ir rs vs K H Q -> I' f ir rs vs K H Q') {F F' : Env -> Kn -> Heap -> List FP -> Prop} (hF : ∀ E K H fps, F E K H fps -> F' E K H fps) : ∀ (l : List Opr) (E : Env) (K : Kn) (H : Heap) (fps : List FP), runOpsI Γ base I F l E K H fps -> runOpsI Γ base I' F' l E K H fps
 | [], E, K, H, fps, h => hF E K H fps h
 | o :: os, E, K, H, fps, h => by
  have go : ∀ K, (match inlOf Γ E K o.op with | some (f, vs, K0, ir, rs) => I f ir rs vs K0 H (fun v H' => runOpsI Γ base I F os (bindD E o.dst v) (bindK K o.dst none) H' (.all :: fps)) | none => (match (resK K o.op).ev Γ base E H with | some ⟨p, v, H', fp⟩ => pand p (runOpsI Γ base I F os (bindD E o.dst v) (bindK K o.dst (kn base K (resK K o.op))) H' (fp :: fps)) | none => False)) ->
   (match inlOf Γ E K o.op with | some (f, vs, K0, ir, rs) => I' f ir rs vs K0 H (fun v H' => runOpsI Γ base I' F' os (bindD E o.dst v) (bindK K o.dst none) H' (.all :: fps)) | none => (match (resK K o.op).ev Γ base E H with | some ⟨p, v, H', fp⟩ => pand p (runOpsI Γ base I' F' os (bindD E o.dst v) (bindK K o.dst (kn base K (resK K o.op))) H' (fp :: fps)) | none => False)) := by
   intro K h
   split at h
   ·exact hI _ _ _ _ _ _ _ _ (fun v H' hh => runOpsI_mono hI hF os _ _ _ _ hh) h
   ·split at h
    ·have h := pand_iff.1 h
     exact pand_iff.2 ⟨h.1, runOpsI_mono hI hF os _ _ _ _ h.2⟩
    ·exact h.elim
  simp only [runOpsI] at h ⊢
  split at h
  ·exact go K h
  ·split at h
   ·split at h
    ·exact go K h
    ·exact go K h
    ·exact runOpsI_mono hI hF os _ _ _ _ h
    ·exact runOpsI_mono hI hF os _ _ _ _ h
   ·split at h
    ·exact ⟨fun e => go _ (h.1 e), fun e => runOpsI_mono hI hF os _ _ _ _ (h.2 e)⟩
    ·exact runOpsI_mono hI hF os _ _ _ _ h
    ·exact h.elim
theorem retQ_mono {rs : List ResultVar} {Q Q' : V -> Heap -> Prop} (h : ∀ v H, Q v H -> Q' v H) (E : Env) (H : Heap) (hr : retQ rs Q E H) : retQ rs Q' E H := by
 unfold retQ at hr ⊢
 split at hr
 ·exact h _ _ hr
 ·exact hr.elim
theorem run_mono {Γ : List (Nat × Con)} {U : Nat -> Bool} {S S' : List It -> Env -> Heap -> Prop} {R R' : Env -> Heap -> Prop} (hS : ∀ k E H, S k E H -> S' k E H) (hR : ∀ E H, R E H -> R' E H) : ∀ n k E K H, Dd.run Γ U S R n k E K H -> Dd.run Γ U S' R' n k E K H
 | 0, k, E, K, H, h => hS k E H h
 | n + 1, [], E, K, H, h => hR E H h
 | n + 1, .code .skip :: k, E, K, H, h => run_mono hS hR n k E K H h
 | n + 1, .code (.region na ops none) :: k, E, K, H, h => by
  simp only [Dd.run] at h ⊢
  refine runOpsI_mono (I := fun _ ir rs vs K0 H Q => Dd.run Γ (fun _ => true) (fun _ _ _ => False) (retQ rs Q) n [.code ir] (argsE 0 vs) K0 H) (fun f ir rs vs K H Q Q' hq hh => ?_) (fun E K H fps hh => run_mono hS hR n k E K H hh) _ _ _ _ _ h
  exact run_mono (fun _ _ _ h => h) (retQ_mono hq) n _ _ _ _ hh
 | n + 1, .code (.region na ops (some us)) :: k, E, K, H, h => by
  simp only [Dd.run] at h ⊢
  exact runOps_mono (fun E K H fps hh => ⟨hh.1, run_mono hS hR n k E K H hh.2⟩) _ _ _ _ _ h
 | n + 1, .code (.seq a b) :: k, E, K, H, h => run_mono hS hR n _ E K H h
 | n + 1, .code (.cond c x y) :: k, E, K, H, h => by
  simp only [Dd.run] at h ⊢
  split at h
  ·exact run_mono hS hR n _ _ _ _ h
  ·exact run_mono hS hR n _ _ _ _ h
  ·split at h
   ·split at h
    ·exact ⟨fun e => run_mono hS hR n _ _ _ _ (h.1 e), fun e => run_mono hS hR n _ _ _ _ (h.2 e)⟩
    ·exact h.elim
   ·exact h.elim
 | n + 1, .code (.block id b) :: k, E, K, H, h => run_mono hS hR n _ E K H h
 | n + 1, .code (.loop b) :: k, E, K, H, h => by
  simp only [Dd.run] at h ⊢
  cases hU : U (keyL k) <;> simp only [hU, cond_true, cond_false] at h ⊢
  ·exact hS _ E H h
  ·exact run_mono hS hR n _ _ _ _ h
 | n + 1, .inLoop b :: k, E, K, H, h => by
  simp only [Dd.run] at h ⊢
  cases hU : U (keyL k) <;> simp only [hU, cond_true, cond_false] at h ⊢
  ·exact hS _ E H h
  ·exact run_mono hS hR n _ _ _ _ h
 | n + 1, .inBlock _ :: k, E, K, H, h => run_mono hS hR n k E K H h
 | n + 1, .code (.exit id) :: k, E, K, H, h => by
  simp only [Dd.run] at h ⊢
  split at h
  ·exact run_mono hS hR n _ _ _ _ h
  ·exact h.elim
 | n + 1, .code .ret :: _, E, K, H, h => hR E H h
def KnownI (P : Program) (Γ : List (Nat × Con)) : Prop := ∀ f ir np rs, lk Γ f = some (.inl ir np rs) -> Fn P f ir np rs
def Known (P : Program) (Γ : List (Nat × Con)) : Prop := Known0 P Γ /\ KnownI P Γ
theorem knArgs_ok {K : Kn} {E : Env} (hK : KnOk K E) : ∀ (i : Nat) (l : List O) (vs : List V), evs E l = some vs -> ∀ t b, lk (inlOf.knArgs K i l) t = some (some b) -> lk (argsE i vs) t = some b
 | i, [], vs, h, t, b, hb => by simp [inlOf.knArgs, lk] at hb
 | i, x :: l, vs, h, t, b, hb => by
  simp only [evs] at h
  split at h
  ·rename_i v us h1 h2
   cases h
   simp only [inlOf.knArgs] at hb
   rw [lk_cons] at hb
   simp only [argsE]
   rw [lk_cons]
   by_cases e : i = t
   ·rw [if_pos e] at hb ⊢
    cases hb' : knV K x with
    | none => rw [hb'] at hb; cases hb
    | some c =>
     rw [hb'] at hb; cases hb
     rw [knV_ev hK hb'] at h1; exact h1.symm ▸ rfl
   ·rw [if_neg e] at hb ⊢
    exact knArgs_ok hK (i + 1) l us h2 t b hb
  ·cases h
def PostQ (P : Program) (ρ : Rho) (H : Heap) (w : World) (R : V -> Heap -> Prop) (e : Ending) (w' : World) : Prop := ∃ ρ' H' v, e = .returned (conc ρ' v) /\ Step P ρ H w ρ' H' w' /\ Wf P H' v /\ R v H'
theorem inl_sound {Γ : List (Nat × Con)} {ρ : Rho} {H : Heap} {w : World} {E : Env} {K : Kn} {a : Act} {o : Oper} {o1 : Op1} {slot f : Nat} {vs : List V} {K0 : Kn} {ir : IR} {rs : List ResultVar} (hc : compOp P slot o.op = some o1) (hK : KnOk K E)
 (hi : inlOf Γ E K o1 = some (f, vs, K0, ir, rs)) (hE : ERel P ρ H E a.tmps) : (∃ np, lk Γ f = some (.inl ir np rs) /\ vs.length <= np) /\ Wfs P H vs /\ KnOk K0 (argsE 0 vs) /\
  ∀ R, Enters P f -> Calls P f (vals ρ vs).toArray w (PostQ P ρ H w R) -> DoesQ P o a w ρ H R := by
 cases o1 with
 | call g args =>
  simp only [inlOf] at hi
  split at hi
  ·rename_i ir' np rs' hg
   split at hi
   ·rename_i us hus
    cases hb : Nat.ble us.length np <;> simp only [hb, cond_true, cond_false] at hi
    ·cases hi
    ·cases hi
     have hop : ∃ c, o.op = .call c /\ c.callee = .value (.func f) /\ ofOperands c.args.toList = some args := by
      cases hop : o.op <;> rw [hop] at hc <;> simp only [compOp] at hc
      case call c =>
       split at hc
       ·rename_i f' hcal
        simp only [Option.map_eq_some_iff] at hc
        obtain ⟨xs', hx, hh⟩ := hc
        cases hh
        exact ⟨c, rfl, hcal, hx⟩
       all_goals (exfalso; first | (cases hc; done) | ((repeat' split at hc) <;> first | (cases hc; done) | (simp at hc; done) | (simp_all; done)))
      all_goals (exfalso; first | (cases hc; done) | ((repeat' split at hc) <;> first | (cases hc; done) | (simp at hc; done) | (simp_all; done)) | (simp at hc; done))
     obtain ⟨c, h1, h2, h3⟩ := hop
     obtain ⟨k1, k2⟩ := ofOperands_eval hE h3 hus
     exact ⟨⟨np, hg, Nat.le_of_ble_eq_true hb⟩, k2, knArgs_ok hK 0 args _ hus, fun R he hcall => does_callQ h1 h2 he hcall k1⟩
   ·cases hi
  ·cases hi
 | callv x args =>
  simp only [inlOf] at hi
  split at hi
  ·rename_i g va vc hx
   split at hi
   ·rename_i ir' np rs' hg
    split at hi
    ·rename_i us hus
     cases hb : Nat.ble (va ++ us ++ vc).length np <;> simp only [hb, cond_true, cond_false] at hi
     ·cases hi
     ·cases hi
      have hop : ∃ c y, o.op = .call c /\ c.callee = .value y /\ ofOperand y = some x /\ ofOperands c.args.toList = some args := by
       cases hop : o.op <;> rw [hop] at hc <;> simp only [compOp] at hc
       case call c =>
        split at hc
        ·exfalso; simp at hc
        ·rename_i y hnf hcal
         split at hc
         ·rename_i x' xs' hy hxs
          cases hc
          exact ⟨c, y, rfl, hcal, hy, hxs⟩
         ·cases hc
        all_goals (exfalso; first | (cases hc; done) | ((repeat' split at hc) <;> first | (cases hc; done) | (simp at hc; done) | (simp_all; done)))
       all_goals (exfalso; first | (cases hc; done) | ((repeat' split at hc) <;> first | (cases hc; done) | (simp at hc; done) | (simp_all; done)) | (simp at hc; done))
      obtain ⟨c, y, h1, h2, h3, h4⟩ := hop
      obtain ⟨k0, k00⟩ := ofOperand_eval h3 hx hE
      obtain ⟨k1, k2⟩ := ofOperands_eval hE h4 hus
      refine ⟨⟨np, hg, Nat.le_of_ble_eq_true hb⟩, ?_, fun t b hb => by simp [lk] at hb, fun R he hcall => does_callvQ h1 h2 k0 he hcall k1⟩
      rw [Wfs_mem]
      intro z hz
      rcases List.mem_append.1 hz with hz | hz
      ·rcases List.mem_append.1 hz with hz | hz
       ·exact Wfs_mem.1 k00.1 z hz
       ·exact Wfs_mem.1 k2 z hz
      ·exact Wfs_mem.1 k00.2 z hz
    ·cases hi
   ·cases hi
  ·cases hi
 | _ => simp [inlOf] at hi
theorem ops_textI {Γ : List (Nat × Con)} (hΓ : Known0 P Γ) {I : Nat -> IR -> List ResultVar -> List V -> Kn -> Heap -> (V -> Heap -> Prop) -> Prop}
 (hI : ∀ f ir np rs vs K H R ρ w, lk Γ f = some (.inl ir np rs) -> vs.length <= np -> HRel P ρ H w -> Wfs P H vs -> KnOk K (argsE 0 vs) -> I f ir rs vs K H R -> Enters P f /\ Calls P f (vals ρ vs).toArray w (PostQ P ρ H w R))
 {ops : Array Oper} {base : Nat} {F : Env -> Kn -> Heap -> List FP -> Prop} {Q : Exit -> Act -> World -> Prop}
 (hQ : ∀ ρ H w E K a fps, St P N ρ0 H0 w0 ρ H w E a -> KnOk K E -> F E K H fps -> Q .normal a w) :
 ∀ (l : List Nat) (os : List Oper) (oprs : List Opr) (s : Nat) (E : Env) (K : Kn) (H : Heap) (fps : List FP) (ρ : Rho) (w : World) (a : Act), l.map (ops[·]?) = os.map some -> compOprs P N ops s os = some oprs ->
  St P N ρ0 H0 w0 ρ H w E a -> KnOk K E -> runOpsI Γ base I F oprs E K H fps -> wpOps P ops Q l a w
 | [], os, oprs, s, E, K, H, fps, ρ, w, a, hl, hc, hs, hK, hr => by
  have : os = [] := by cases os <;> simp at hl ⊢
  subst this
  simp [compOprs] at hc; subst hc
  exact hQ ρ H w E K a fps hs hK hr
 | i :: l, [], oprs, s, E, K, H, fps, ρ, w, a, hl, hc, hs, hK, hr => by simp at hl
 | i :: l, o :: os, oprs, s, E, K, H, fps, ρ, w, a, hl, hc, hs, hK, hr => by
  simp only [List.map_cons, List.cons.injEq] at hl
  obtain ⟨ho, hl⟩ := hl
  simp only [compOprs] at hc
  split at hc
  ·rename_i op l' h1 h2
   split at hc
   ·rename_i hd
    have doIt : ∀ (K : Kn), KnOk K E -> Region.wanted o (yielded ops a.tmps) = true ->
     (match inlOf Γ E K op with | some (f, vs, K0, ir, rs) => I f ir rs vs K0 H (fun v H' => runOpsI Γ base I F l' (bindD E o.dst v) (bindK K o.dst none) H' (.all :: fps)) | none => (match (resK K op).ev Γ base E H with | some ⟨p, v, H', fp⟩ => pand p (runOpsI Γ base I F l' (bindD E o.dst v) (bindK K o.dst (kn base K (resK K op))) H' (fp :: fps)) | none => False)) -> wpOps P ops Q (i :: l) a w := by
     intro K hK hw hr
     split at hr
     ·rename_i f vs K0 ir rs hi
      obtain ⟨⟨np, hg, hnp⟩, kw, kK, hdo⟩ := inl_sound (w := w) h1 hK hi hs.env
      obtain ⟨he, hcall⟩ := hI f ir np rs vs K0 H _ ρ w hg hnp hs.step.rel kw kK hr
      simp only [wpOps, ho, hw, if_true]
      refine .inl (hdo _ he hcall _ _ (fun ρ' w' v H' st wf hrest => ?_))
      exact ops_textI hΓ hI hQ l os l' _ _ _ H' _ ρ' w' _ hl h2 (hs.put st wf hd) (hK.bind (fun c hc => by cases hc)) hrest
     ·split at hr
      ·rename_i p v H' fp he
       have hr := pand_iff.1 hr
       simp only [wpOps, ho, hw, if_true]
       refine .inl (ev_sound hΓ h1 (resolve_ev hK he) hr.1 hs.env hs.step.rel _ _ (fun ρ' w' st wf => ?_))
       exact ops_textI hΓ hI hQ l os l' _ _ _ H' _ ρ' w' _ hl h2 (hs.put st wf hd) (hK.bind (fun c hc => kn_ev hK he hc)) hr.2
      ·exact hr.elim
    have skipIt : ∀ (K : Kn), KnOk K E -> Region.wanted o (yielded ops a.tmps) = false -> runOpsI Γ base I F l' (bindD E o.dst (.tup [])) (bindK K o.dst none) H (.none :: fps) -> wpOps P ops Q (i :: l) a w := by
     intro K hK hw hr
     simp only [wpOps, ho, hw, Bool.false_eq_true, if_false]
     have := hs.put (v := .tup []) (d := o.dst) (Step.refl hs.step.rel) trivial hd
     exact ops_textI hΓ hI hQ l os l' _ _ _ H _ ρ w _ hl h2 (by simpa [conc, vals, undef] using this) (hK.bind (fun c hc => by cases hc)) hr
    split at hc
    ·rename_i hg
     cases hc
     simp only [runOpsI] at hr
     exact doIt K hK (by simp [Region.wanted, hg]) hr
    ·rename_i j want hg
     split at hc
     ·rename_i g hj
      cases hc
      simp only [runOpsI] at hr
      split at hr
      ·rename_i b hb
       have hw := wanted_of hs hg hj (knO_ev hK hb)
       split at hr
       ·exact doIt K hK (by simpa using hw) hr
       ·exact doIt K hK (by simpa using hw) hr
       ·exact skipIt K hK (by rw [hw]; rfl) hr
       ·exact skipIt K hK (by rw [hw]; rfl) hr
      ·split at hr
       ·rename_i b hb
        have hw := wanted_of hs hg hj hb
        by_cases e : b = want
        ·subst e
         exact doIt _ (hK.know hb) (by simpa using hw) (hr.1 rfl)
        ·have e' : b = !want := by cases b <;> cases want <;> simp_all
         have hr2 := hr.2 e'
         exact skipIt _ (hK.know (by rw [← e']; exact hb)) (by rw [hw]; exact beq_eq_false_iff_ne.mpr e) hr2
       ·rename_i hb
        exact skipIt K hK (wanted_off hs hg hj hb) hr
       ·exact hr.elim
     ·cases hc
   ·cases hc
  ·cases hc
theorem calls_of_semT {P : Program} {f : FuncId} {fn : Func} {code : Code} {ir : IR} (h1 : P.funcs[f]? = some fn) (h2 : fn.body = some code) (h3 : compCode P fn.ntmps code = some ir) {ρ : Rho} {H : Heap} {w : World} {vs : List V} (hR : HRel P ρ H w) (hw : Wfs P H vs)
 (hn : vs.length <= fn.ntmps) {R : Ending -> World -> Prop} (hst : SemT ⟨P, f, fn, ρ, H, w, R⟩ [.code ir] (argsE 0 vs) H) : Calls P f (vals ρ vs).toArray w R := by
 intro cs
 let b : Frame := { (default : Frame) with fn := f, kind := .normal }
 have henter : Frame.enter P f (vals ρ vs).toArray .normal = b.at { tmps := (vals ρ vs).toArray ++ Array.replicate (fn.ntmps - (vals ρ vs).toArray.size) undef, defers := [] } [.code code] := by
  simp [Frame.enter, Frame.at, h1, h2, b]
 have hlen : (vals ρ vs).length = vs.length := by simp [vals_map]
 obtain ⟨e, w', fr, r1, r2, r3, r4⟩ := hst ρ w { tmps := (vals ρ vs).toArray ++ Array.replicate (fn.ntmps - (vals ρ vs).toArray.size) undef, defers := [] } b [.code code] cs rfl rfl (.cons (.code h3) .nil)
  ⟨Step.refl hR, fun t v hv => by
   obtain ⟨_, k2⟩ := lk_argsE 0 vs t v hv
   rw [Nat.sub_zero] at k2
   refine ⟨Wfs_mem.1 hw v (List.mem_of_getElem? k2), ?_⟩
   have ht : t < vs.length := (List.getElem?_eq_some_iff.1 k2).1
   rw [Array.getElem?_append, if_pos (by simp [hlen, ht])]
   simp [vals_map, k2], by simp [hlen]; show vs.length + (fn.ntmps - vs.length) = fn.ntmps; omega, rfl⟩
 rw [← henter] at r2
 exact ⟨e, w', fr, r1, r2, r3, r4⟩
theorem retQ_retT {P : Program} {f : FuncId} {fn : Func} {rs : List ResultVar} (h4 : fn.results.toList = rs) (tys : (resTys rs).all (tyOk P) = true) {ρ : Rho} {H : Heap} {w : World} {Q : V -> Heap -> Prop} (E : Env) (H' : Heap) (hr : retQ rs Q E H') :
 RetT ⟨P, f, fn, ρ, H, w, PostQ P ρ H w Q⟩ E H' := by
 intro ρ' w' a hs
 unfold retQ at hr
 split at hr
 ·rename_i us hus
  obtain ⟨k1, k2⟩ := resV_run hs.env hs.step.rel rs us tys hus
  rw [← h4] at k2
  have k3 := array_mapM fn a.tmps k2
  have key : (if h : (vals ρ' us).toArray.size = 1 then (vals ρ' us).toArray[0] else .tuple (vals ρ' us).toArray) = conc ρ' (oneV us) /\ Wf P H' (oneV us) := by
   match us, k1 with
   | [], _ => exact ⟨by simp [vals, oneV, conc], trivial⟩
   | [v], k1 => exact ⟨by simp [vals, oneV], k1.1⟩
   | u :: v :: l, k1 => exact ⟨by simp [vals, oneV, conc], k1⟩
  refine ⟨conc ρ' (oneV us), ?_, ρ', H', oneV us, rfl, hs.step, key.2, hr⟩
  show (results fn a.tmps).run P w' = _
  rw [k3, key.1]
 ·exact hr.elim
theorem run_sound_all {P : Program} {Γ : List (Nat × Con)} (hΓ : Known P Γ) : ∀ (n : Nat) (C : Cx), C.P = P -> C.P.funcs[C.f]? = some C.fn -> ∀ (U : Nat -> Bool) (k : List It) (E : Env) (K : Kn) (H : Heap), KnOk K E -> run Γ U (SemT C) (RetT C) n k E K H -> SemT C k E H := by
 intro n
 induction n with
 | zero => intro C hP hf U k E K H hK h; exact h
 | succ n ihA =>
  intro C hP hf U k E K H hK h ρ w a b todo cs hb hk ht hs
  subst hP
  have ih := ihA C rfl hf U
  have hinl : ∀ f ir np rs vs K H R ρ w, lk Γ f = some (.inl ir np rs) -> vs.length <= np -> HRel C.P ρ H w -> Wfs C.P H vs -> KnOk K (argsE 0 vs) -> run Γ (fun _ => true) (fun _ _ _ => False) (retQ rs R) n [.code ir] (argsE 0 vs) K H ->
   Enters C.P f /\ Calls C.P f (vals ρ vs).toArray w (PostQ C.P ρ H w R) := by
   intro f ir np rs vs K H R ρ w hg hnp hR hw hK hrun
   have hfn := hΓ.2 f ir np rs hg
   refine ⟨hfn.enters, ?_⟩
   obtain ⟨fn, code, h1, h2, h3, h4, h5, h6⟩ := hfn.ex
   refine calls_of_semT h1 h2 h3 hR hw (Nat.le_trans hnp h5) (ihA ⟨C.P, f, fn, ρ, H, w, PostQ C.P ρ H w R⟩ rfl h1 (fun _ => true) _ _ K _ hK ?_)
   exact run_mono (fun _ _ _ h => h.elim) (fun E H' h => retQ_retT h4 hfn.tys E H' h) n _ _ _ _ hrun
  cases ht with
  | nil =>
   simp only [run] at h
   exact comes_step (.one step_end) (ret_comes hf h hb hk hs [] cs)
  | @cons x y l m hx hm =>
   cases hx with
   | block id =>
    simp only [run] at h
    exact comes_step (.one step_inBlock) (ih _ _ K _ hK h ρ w a b _ cs hb hk hm hs)
   | @loop c ir hc =>
    simp only [run] at h
    cases hU : U (keyL l) <;> simp only [hU, cond_true, cond_false] at h
    ·exact comes_step (.one step_inLoop) (h ρ w a b _ cs hb hk (.cons (.code hc) (.cons (.loop hc) hm)) hs)
    ·exact comes_step (.one step_inLoop) (ih _ _ K _ hK h ρ w a b _ cs hb hk (.cons (.code hc) (.cons (.loop hc) hm)) hs)
   | @code c ir hc =>
    cases c with
    | skip =>
     simp [compCode] at hc; subst hc
     simp only [run] at h
     exact comes_step (.one step_skip) (ih _ _ K _ hK h ρ w a b _ cs hb hk hm hs)
    | region id ops draw =>
     cases draw with
     | true =>
      simp only [compCode] at hc
      split at hc
      ·rename_i oprs hoc
       split at hc
       ·rename_i hcond
        cases hc
        simp only [Bool.and_eq_true] at hcond
        simp only [run] at h
        have hs' : C.st ρ (H ++ pad (ops.toList.filter (slotted ·.op)).length) w E a :=
         ⟨hs.step.trans (pad_step _ hs.step.rel), hs.env.step (pad_step _ hs.step.rel), hs.size, hs.defers⟩
        have hw := region_any (P := C.P) (N := C.fn.ntmps) (ρ0 := C.ρ) (H0 := C.H) (w0 := C.w) hΓ.1 (ops := ops) (base := H.length) (id := id)
         (F := fun E K H fps => run Γ U (SemT C) (RetT C) n l E K H)
         (Q := fun e a' w' => e = .normal /\ ∃ ρ' H' E' K', C.st ρ' H' w' E' a' /\ KnOk K' E' /\ run Γ U (SemT C) (RetT C) n l E' K' H') hcond.2 hoc hcond.1.1 hcond.1.2
         (fun ρ' H' w' E' K' a' fps st hk kk => ⟨rfl, ρ', H', E', K', st, hk, kk⟩) hs' hK h
        obtain ⟨e, a', w', ⟨rfl, ρ', H', E', K', st, hk', kk⟩, harr⟩ := hw b m cs
        exact comes_step harr (ih _ _ K' _ hk' kk ρ' w' a' b _ cs hb hk hm st)
       ·cases hc
      ·cases hc
     | false =>
      simp only [compCode, Option.map_eq_some_iff] at hc
      obtain ⟨oprs, hc, rfl⟩ := hc
      simp only [run] at h
      have hs' : C.st ρ (H ++ pad (ops.toList.filter (slotted ·.op)).length) w E a :=
       ⟨hs.step.trans (pad_step _ hs.step.rel), hs.env.step (pad_step _ hs.step.rel), hs.size, hs.defers⟩
      have hw := ops_textI (P := C.P) (N := C.fn.ntmps) (ρ0 := C.ρ) (H0 := C.H) (w0 := C.w) hΓ.1 hinl (ops := ops) (base := H.length)
       (F := fun E K H fps => run Γ U (SemT C) (RetT C) n l E K H)
       (Q := fun e a' w' => e = .normal /\ ∃ ρ' H' E' K', C.st ρ' H' w' E' a' /\ KnOk K' E' /\ run Γ U (SemT C) (RetT C) n l E' K' H')
       (fun ρ' H' w' E' K' a' fps st hk kk => ⟨rfl, ρ', H', E', K', st, hk, kk⟩) (List.range ops.size) ops.toList oprs 0 E K _ [] ρ w a (by
        apply List.ext_getElem?
        intro i
        by_cases hi : i < ops.size
        ·simp [hi]
        ·simp [hi]) hc hs' hK h
      obtain ⟨e, a', w', ⟨rfl, ρ', H', E', K', st, hk', kk⟩, harr⟩ := wp_region hw b m cs
      exact comes_step harr (ih _ _ K' _ hk' kk ρ' w' a' b _ cs hb hk hm st)
    | seq c1 c2 =>
     simp only [compCode] at hc
     split at hc
     ·rename_i i1 i2 h1 h2
      cases hc
      simp only [run] at h
      exact comes_step (.one step_seq) (ih _ _ K _ hK h ρ w a b _ cs hb hk (.cons (.code h1) (.cons (.code h2) hm)) hs)
     ·cases hc
    | cond c x y =>
     simp only [compCode] at hc
     split at hc
     ·rename_i c' x' y' h0 h1 h2
      cases hc
      simp only [run] at h
      split at h
      ·rename_i hkn
       have hv := (ofOperand_eval h0 (knO_ev hK hkn) hs.env).1
       exact comes_step (.one (step_cond (t := true) (by rw [hv]; simp [conc]))) (ih _ _ K _ hK h ρ w a b _ cs hb hk (.cons (.code h1) hm) hs)
      ·rename_i hkn
       have hv := (ofOperand_eval h0 (knO_ev hK hkn) hs.env).1
       exact comes_step (.one (step_cond (t := false) (by rw [hv]; simp [conc]))) (ih _ _ K _ hK h ρ w a b _ cs hb hk (.cons (.code h2) hm) hs)
      ·split at h
       ·rename_i g _
        split at h
        ·rename_i bv hbv
         have hv := (ofOperand_eval h0 (show O.ev E (.t g) = some (.bool bv) from hbv) hs.env).1
         cases bv with
         | true => exact comes_step (.one (step_cond (t := true) (by rw [hv]; simp [conc]))) (ih _ _ _ _ (hK.know hbv) (h.1 rfl) ρ w a b _ cs hb hk (.cons (.code h1) hm) hs)
         | false => exact comes_step (.one (step_cond (t := false) (by rw [hv]; simp [conc]))) (ih _ _ _ _ (hK.know hbv) (h.2 rfl) ρ w a b _ cs hb hk (.cons (.code h2) hm) hs)
        ·exact h.elim
       ·exact h.elim
     ·cases hc
    | block id c =>
     simp only [compCode, Option.map_eq_some_iff] at hc
     obtain ⟨ir', hc, rfl⟩ := hc
     simp only [run] at h
     exact comes_step (.one step_block) (ih _ _ K _ hK h ρ w a b _ cs hb hk (.cons (.code hc) (.cons (.block id) hm)) hs)
    | loop c =>
     simp only [compCode, Option.map_eq_some_iff] at hc
     obtain ⟨ir', hc, rfl⟩ := hc
     simp only [run] at h
     cases hU : U (keyL l) <;> simp only [hU, cond_true, cond_false] at h
     ·exact comes_step (.one step_loop) (h ρ w a b _ cs hb hk (.cons (.code hc) (.cons (.loop hc) hm)) hs)
     ·exact comes_step (.one step_loop) (ih _ _ K _ hK h ρ w a b _ cs hb hk (.cons (.code hc) (.cons (.loop hc) hm)) hs)
    | exit id =>
     simp [compCode] at hc; subst hc
     simp only [run] at h
     split at h
     ·rename_i k' hpop
      obtain ⟨m', h1, h2⟩ := popTo_exitTo hm hpop
      exact comes_step (.one (step_exit h1)) (ih _ _ K _ hK h ρ w a b _ cs hb hk h2 hs)
     ·exact h.elim
    | ret =>
     simp [compCode] at hc; subst hc
     simp only [run] at h
     exact comes_step (.one step_ret) (ret_comes hf h hb hk hs _ cs)
    | _ => simp [compCode] at hc
theorem run_sound {C : Cx} (hf : C.P.funcs[C.f]? = some C.fn) {Γ : List (Nat × Con)} (hΓ : Known C.P Γ) : ∀ (U : Nat -> Bool) (n : Nat) (k : List It) (E : Env) (K : Kn) (H : Heap), KnOk K E -> run Γ U (SemT C) (RetT C) n k E K H -> SemT C k E H :=
 fun U n k E K H hK h => run_sound_all hΓ n C rfl hf U k E K H hK h
end
end
mutual
def Low (m : Nat) : V -> Prop
 | .ptr b .. | .slice b .. | .map b => b < m
 | .func _ a c => Lows m a /\ Lows m c
 | .iface _ v => Low m v
 | .agg _ ps => Lows m ps
 | .arr _ n f => ∀ i, i < n -> Low m (f i)
 | .tup vs => Lows m vs
 | _ => True
def Lows (m : Nat) : List V -> Prop
 | [] => True
 | v :: l => Low m v /\ Lows m l
end
def selB (n i : Nat) : Nat := bif Nat.beq n 1 then 0 else i
def cutB : TypeId × Blk -> TypeId × Blk
 | (t, .row true n f) => (t, .row true n (fun i => f (selB n i)))
 | x => x
theorem selB_lt {n j : Nat} (h : j < n) : selB n j = j := by
 unfold selB
 cases hb : Nat.beq n 1
 ·rfl
 ·have : n = 1 := Nat.eq_of_beq_eq_true hb
  show 0 = j
  omega
def cutH : Nat -> Heap -> Heap
 | 0, _ => []
 | _ + 1, [] => []
 | m + 1, x :: l => cutB x :: cutH m l
def LowB (m : Nat) : TypeId × Blk -> Prop
 | (_, .row _ n f) => ∀ j, j < n -> Low m (f j)
 | (_, .mp es) => ∀ e ∈ es, Low m e.1 /\ Low m e.2
 | _ => True
def LowH (m : Nat) : Heap -> Prop
 | [] => True
 | x :: l => LowB m x /\ LowH m l
def cutE : List Nat -> Env -> Env
 | [], _ => []
 | t :: l, E => match lk E t with
  | some v => (t, v) :: cutE l E
  | none => cutE l E
def LowE (m : Nat) : Env -> Prop
 | [] => True
 | (_, v) :: l => Low m v /\ LowE m l
theorem cutE_lk {E : Env} : ∀ {l : List Nat} {t : Nat} {v : V}, lk (cutE l E) t = some v -> lk E t = some v
 | [], t, v, h => by simp [cutE, lk] at h
 | u :: l, t, v, h => by
  simp only [cutE] at h
  split at h
  ·rename_i x hx
   rw [lk_cons] at h
   by_cases e : u = t
   ·subst e; rw [if_pos rfl] at h; cases h; exact hx
   ·rw [if_neg e] at h; exact cutE_lk h
  ·exact cutE_lk h
theorem LowE.at {m : Nat} : ∀ {E : Env} {t : Nat} {v : V}, LowE m E -> lk E t = some v -> Low m v
 | [], t, v, h, hv => by simp [lk] at hv
 | (u, x) :: l, t, v, h, hv => by
  rw [lk_cons] at hv
  by_cases e : u = t
  ·rw [if_pos e] at hv; cases hv; exact h.1
  ·rw [if_neg e] at hv; exact LowE.at h.2 hv
theorem LowH.at {m : Nat} : ∀ {H : Heap} {b : Nat} {x : TypeId × Blk}, LowH m H -> nth H b = some x -> LowB m x
 | [], b, x, h, hx => by simp [nth] at hx
 | y :: l, 0, x, h, hx => by simp [nth] at hx; subst hx; exact h.1
 | y :: l, b + 1, x, h, hx => LowH.at (b := b) h.2 (by simpa [nth] using hx)
theorem cutH_nth : ∀ {m : Nat} {H : Heap} {b : Nat} {y : TypeId × Blk}, nth (cutH m H) b = some y ↔ ∃ x, nth H b = some x /\ b < m /\ y = cutB x
 | 0, H, b, y => by simp [cutH, nth]
 | m + 1, [], b, y => by simp [cutH, nth]
 | m + 1, x :: l, 0, y => by simp [cutH, nth, eq_comm]
 | m + 1, x :: l, b + 1, y => by
  simp only [cutH, nth]
  rw [cutH_nth]
  simp
theorem cutB_row {x : TypeId × Blk} {t : TypeId} {rw : Bool} {n : Nat} {f : Nat -> V} (h : cutB x = (t, .row rw n f)) : ∃ g, x = (t, .row rw n g) /\ ∀ j, j < n -> f j = g j := by
 unfold cutB at h
 split at h
 ·rename_i t' n' g
  cases h; exact ⟨g, rfl, fun j hj => by show g (selB n j) = g j; rw [selB_lt hj]⟩
 ·subst h; exact ⟨f, rfl, fun j hj => rfl⟩
theorem cutB_ext (x : TypeId × Blk) : BlkExt x (cutB x) := by
 unfold cutB
 split
 ·rename_i t n f
  exact .inr ⟨rfl, _, rfl⟩
 ·exact .refl _
theorem cutB_to (t : TypeId) (rw : Bool) (n : Nat) (f : Nat -> V) : ∃ f', cutB (t, .row rw n f) = (t, .row rw n f') := by
 cases rw
 ·exact ⟨f, rfl⟩
 ·exact ⟨_, rfl⟩
theorem cutB_mut (x : TypeId × Blk) : (cutB x).2.mut = x.2.mut := by
 unfold cutB
 split
 ·rfl
 ·rfl
theorem cutB_live (x : TypeId × Blk) : (cutB x).2.live = x.2.live := by
 unfold cutB
 split
 ·rfl
 ·rfl
theorem cutB_mp {x : TypeId × Blk} {t : TypeId} {es : List (V × V)} (h : cutB x = (t, .mp es)) : x = (t, .mp es) := by
 unfold cutB at h
 split at h
 ·rename_i t' n g
  cases h
 ·exact h
mutual
theorem Wf.cut {P : Program} {H : Heap} {m : Nat} : ∀ (v : V), Wf P H v -> Low m v -> Wf P (cutH m H) v
 | .ptr b off p t, h, hl => by
  unfold Wf at h ⊢
  have hl : b < m := hl
  split at h
  ·rename_i bt rw n f hb
   have hc : nth (cutH m H) b = some (cutB (bt, .row rw n f)) := cutH_nth.2 ⟨_, hb, hl, rfl⟩
   obtain ⟨f', hf⟩ := cutB_to bt rw n f
   rw [hc, hf]; exact h
  ·rename_i t0 hb
   have hc : nth (cutH m H) b = some (cutB (t0, .gone)) := cutH_nth.2 ⟨_, hb, hl, rfl⟩
   rw [hc]; trivial
  ·exact h.elim
 | .slice b base off pre start ln cap t, h, hl => by
  unfold Wf at h ⊢
  have hl : b < m := hl
  split at h
  ·rename_i bt rw n f hb
   have hc : nth (cutH m H) b = some (cutB (bt, .row rw n f)) := cutH_nth.2 ⟨_, hb, hl, rfl⟩
   obtain ⟨f', hf⟩ := cutB_to bt rw n f
   rw [hc, hf]; exact h
  ·rename_i t0 hb
   have hc : nth (cutH m H) b = some (cutB (t0, .gone)) := cutH_nth.2 ⟨_, hb, hl, rfl⟩
   rw [hc]; trivial
  ·exact h.elim
 | .map b, h, hl => by
  unfold Wf at h ⊢
  have hl : b < m := hl
  split at h
  ·rename_i t0 es hb
   rw [show nth (cutH m H) b = some (cutB (t0, .mp es)) from cutH_nth.2 ⟨_, hb, hl, rfl⟩]; trivial
  ·rename_i t0 hb
   rw [show nth (cutH m H) b = some (cutB (t0, .gone)) from cutH_nth.2 ⟨_, hb, hl, rfl⟩]; trivial
  ·exact h.elim
 | .func _ a c, h, hl => ⟨Wfs.cut a h.1 hl.1, Wfs.cut c h.2 hl.2⟩
 | .iface _ v, h, hl => Wf.cut v h hl
 | .agg t ps, h, hl => ⟨h.1, Wfs.cut ps h.2 hl⟩
 | .arr t n f, h, hl => ⟨h.1, fun i hi => Wf.cut (f i) (h.2 i hi) (hl i hi)⟩
 | .tup vs, h, hl => Wfs.cut vs h hl
 | .bool _, _, _ | .int _ _, _, _ | .str _, _, _ | .nilp, _, _ | .nils, _, _ | .nilf, _, _ | .nili, _, _ | .nilm, _, _ => trivial
theorem Wfs.cut {P : Program} {H : Heap} {m : Nat} : ∀ (l : List V), Wfs P H l -> Lows m l -> Wfs P (cutH m H) l
 | [], _, _ => trivial
 | v :: l, h, hl => ⟨Wf.cut v h.1 hl.1, Wfs.cut l h.2 hl.2⟩
end
theorem HRel.cut {P : Program} {ρ : Rho} {H : Heap} {w : World} {m : Nat} (h : HRel P ρ H w) (hl : LowH m (cutH m H)) : HRel P ρ (cutH m H) w := by
 refine ⟨?_, ?_, ?_, ?_, ?_, ?_⟩
 ·intro b t B hb hν
  obtain ⟨⟨t', B'⟩, hx, hm, he⟩ := cutH_nth.1 hb
  have hk := h.blk b t' B' hx hν
  cases B with
  | row rw n f =>
   obtain ⟨g, hg, hfg⟩ := cutB_row he.symm
   cases hg
   obtain ⟨cs, t1, fr, k1, k2, k3, k4, k5⟩ := hk
   exact ⟨cs, t1, fr, k1, k2, k3, k4, fun j hj => by rw [hfg j hj]; exact k5 j hj⟩
  | mp es => cases cutB_mp he.symm; exact hk
  | free => trivial
  | gone => trivial
 ·intro b c tb tc B C hb hc hmut hlive hνb hν hπ
  obtain ⟨⟨t', B'⟩, hx, hm, he⟩ := cutH_nth.1 hb
  obtain ⟨⟨t'', C'⟩, hy, hm', he'⟩ := cutH_nth.1 hc
  have e1 := cutB_mut (t', B'); rw [← he] at e1
  have e2 := cutB_live (t'', C'); rw [← he'] at e2
  exact h.inj b c t' t'' B' C' hx hy (e1 ▸ hmut) (e2 ▸ hlive) hνb hν hπ
 ·intro b t B hb hlive hν
  obtain ⟨⟨t', B'⟩, hx, hm, he⟩ := cutH_nth.1 hb
  have e2 := cutB_live (t', B'); rw [← he] at e2
  exact h.lt b t' B' hx (e2 ▸ hlive) hν
 ·intro b t B hb hB hν
  obtain ⟨⟨t', B'⟩, hx, hm, he⟩ := cutH_nth.1 hb
  have hB' : B'.live = true := by
   have e2 := cutB_live (t', B'); rw [← he] at e2
   exact e2 ▸ hB
  obtain ⟨rw', f, rfl, hε⟩ := h.nul b t' B' hx hB' hν
  have : cutB (t', .row rw' 0 f) = (t', .row rw' 0 f) := by cases rw' <;> rfl
  rw [this] at he; cases he
  exact ⟨rw', f, rfl, hε⟩
 ·intro b t rw n f hb j hj
  obtain ⟨⟨t', B'⟩, hx, hm, he⟩ := cutH_nth.1 hb
  obtain ⟨g, hg, hfg⟩ := cutB_row he.symm
  cases hg
  have := h.wf b t rw n g hx j hj
  rw [hfg j hj]
  have hL : Low m (f j) := hl.at hb j hj
  rw [hfg j hj] at hL
  exact this.cut _ hL
 ·intro b t es hb e hmem
  obtain ⟨⟨t', B'⟩, hx, hm, he⟩ := cutH_nth.1 hb
  cases cutB_mp he.symm
  obtain ⟨w1, w2⟩ := h.wfm b t es hx e hmem
  obtain ⟨l1, l2⟩ := hl.at hb e hmem
  exact ⟨w1.cut _ l1, w2.cut _ l2⟩
theorem Step.cut {P : Program} {ρ0 ρ : Rho} {H0 H : Heap} {w0 w : World} {m : Nat} (s : Step P ρ0 H0 w0 ρ H w) (hm : H0.length <= m) (hl : LowH m (cutH m H)) : Step P ρ0 H0 w0 ρ (cutH m H) w := by
 refine ⟨s.rel.cut hl, ?_, s.agr, s.os, s.tape, s.output, s.size, s.keep, ?_⟩
 ·intro b x hb
  obtain ⟨y, hy, e⟩ := s.ext b x hb
  have : b < m := Nat.lt_of_lt_of_le (nth_lt hb) hm
  exact ⟨cutB y, cutH_nth.2 ⟨y, hy, this, rfl⟩, e.trans (cutB_ext y)⟩
 ·intro b t B hb hmut
  obtain ⟨⟨t', B'⟩, hx, _, he⟩ := cutH_nth.1 hb
  have e1 := cutB_mut (t', B'); rw [← he] at e1
  exact s.new b t' B' hx (e1 ▸ hmut)
theorem semT_cut {C : Cx} {k : List It} {E E' : Env} {H : Heap} {m : Nat} (hm : C.H.length <= m) (hE : ∀ t v, lk E' t = some v -> lk E t = some v) (hlE : LowE m E') (hlH : LowH m (cutH m H)) (h : SemT C k E' (cutH m H)) : SemT C k E H := by
 intro ρ w a b todo cs hb hk ht hs
 refine h ρ w a b todo cs hb hk ht ⟨hs.step.cut hm hlH, fun t v hv => ?_, hs.size, hs.defers⟩
 obtain ⟨h1, h2⟩ := hs.env t v (hE t v hv)
 exact ⟨h1.cut _ (hlE.at hv), h2⟩
def cutS (n0 : Nat) (live : Nat -> List Nat) (m : Nat -> Nat) (S : List It -> Env -> Heap -> Prop) (k : List It) (E : Env) (H : Heap) : Prop :=
 Nat.ble n0 (m (keyL k)) = true /\ LowE (m (keyL k)) (cutE (live (keyL k)) E) /\ LowH (m (keyL k)) (cutH (m (keyL k)) H) /\ S k (cutE (live (keyL k)) E) (cutH (m (keyL k)) H)
def renB (σ : Sg) : TypeId × Blk -> TypeId × Blk
 | (t, .row rw n f) => (t, .row rw n (fun i => ren σ (f i)))
 | (t, .mp es) => (t, .mp (es.map fun e => (ren σ e.1, ren σ e.2)))
 | x => x
mutual
def renOk (σ : Sg) (H : Heap) : V -> Prop
 | .ptr b .. | .map b => ∃ c, nth σ b = some (some c)
 | .slice b bs off pre st n cap t => (∃ c, nth σ b = some (some c)) ∨ (nth σ b = some none /\ bs = 0 /\ pre = [] /\ st = 0 /\ n = 0 /\ cap = none /\ ∃ f, nth H b = some (t, .row true 0 f))
 | .func _ a c => rensOk σ H a /\ rensOk σ H c
 | .iface _ v => renOk σ H v
 | .agg _ ps => rensOk σ H ps
 | .arr _ n f => ∀ i, i < n -> renOk σ H (f i)
 | .tup vs => rensOk σ H vs
 | _ => True
def rensOk (σ : Sg) (H : Heap) : List V -> Prop
 | [] => True
 | v :: l => renOk σ H v /\ rensOk σ H l
end
def RenH (σ0 : Sg) (H : Heap) : Sg -> Heap -> Prop
 | [], [] => True
 | some c :: s, x :: l => nth H c = some (renB σ0 x) /\ RenH σ0 H s l
 | none :: s, x :: l => (∃ t f, x = (t, .row true 0 f)) /\ RenH σ0 H s l
 | _, _ => False
def okB (σ : Sg) (H : Heap) : TypeId × Blk -> Prop
 | (_, .row _ n f) => ∀ j, j < n -> renOk σ H (f j)
 | (_, .mp es) => ∀ e ∈ es, renOk σ H e.1 /\ renOk σ H e.2
 | _ => True
def okH (σ : Sg) (H : Heap) : Heap -> Prop
 | [] => True
 | x :: l => okB σ H x /\ okH σ H l
theorem RenH.at {σ0 : Sg} {H : Heap} : ∀ {s : Sg} {l : Heap}, RenH σ0 H s l -> ∀ {b : Nat} {x : TypeId × Blk}, nth l b = some x -> (∃ c, nth s b = some (some c) /\ nth H c = some (renB σ0 x)) ∨ (nth s b = some none /\ ∃ t f, x = (t, .row true 0 f))
 | [], [], _, b, x, hx => by simp [nth] at hx
 | some c :: s, y :: l, h, 0, x, hx => by simp [nth] at hx; subst hx; exact .inl ⟨c, rfl, h.1⟩
 | some c :: s, y :: l, h, b + 1, x, hx => h.2.at (b := b) (by simpa [nth] using hx)
 | none :: s, y :: l, h, 0, x, hx => by simp [nth] at hx; subst hx; exact .inr ⟨rfl, h.1⟩
 | none :: s, y :: l, h, b + 1, x, hx => h.2.at (b := b) (by simpa [nth] using hx)
 | [], _ :: _, h, _, _, _ => h.elim
 | some _ :: _, [], h, _, _, _ => h.elim
 | none :: _, [], h, _, _, _ => h.elim
theorem RenH.len {σ0 : Sg} {H : Heap} : ∀ {s : Sg} {l : Heap}, RenH σ0 H s l -> s.length = l.length
 | [], [], _ => rfl
 | some c :: s, y :: l, h => by simp [h.2.len]
 | none :: s, y :: l, h => by simp [h.2.len]
 | [], _ :: _, h => h.elim
 | some _ :: _, [], h => h.elim
 | none :: _, [], h => h.elim
theorem okH.at {σ : Sg} {H : Heap} : ∀ {l : Heap}, okH σ H l -> ∀ {b : Nat} {x : TypeId × Blk}, nth l b = some x -> okB σ H x
 | [], _, b, x, hx => by simp [nth] at hx
 | y :: l, h, 0, x, hx => by simp [nth] at hx; subst hx; exact h.1
 | y :: l, h, b + 1, x, hx => h.2.at (b := b) (by simpa [nth] using hx)
structure RhoR (σ : Sg) (ρ ρ' : Rho) : Prop where
 was : ∀ b c, nth σ b = some (some c) -> ρ'.π b = ρ.π c /\ ρ'.κ b = ρ.κ c /\ ρ'.δ b = ρ.δ c /\ ρ'.ν b = ρ.ν c /\ ρ'.ε b = ρ.ε c
 nul : ∀ b, nth σ b = some none -> ρ'.ν b = true /\ ρ'.ε b = (none, 0)
mutual
theorem conc_ren {σ : Sg} {H : Heap} {ρ ρ' : Rho} (r : RhoR σ ρ ρ') : ∀ (v : V), renOk σ H v -> conc ρ' v = conc ρ (ren σ v)
 | .ptr b off p t, h => by
  obtain ⟨c, hc⟩ := h
  obtain ⟨h1, _, h3, _⟩ := r.was b c hc
  simp only [ren, hc, conc, h1, h3]
 | .slice b bs off pre st n cap t, h => by
  rcases h with ⟨c, hc⟩ | ⟨hc, h1, h2, h3, h4, h5, _⟩
  ·obtain ⟨h1, h2, h3, h4, h5⟩ := r.was b c hc
   simp only [ren, hc, conc, h1, h2, h3, h4, h5]
  ·obtain ⟨k1, k2⟩ := r.nul b hc
   simp only [ren, hc, conc, k1, k2, cond_true]
 | .map b, h => by
  obtain ⟨c, hc⟩ := h
  obtain ⟨h1, _⟩ := r.was b c hc
  simp only [ren, hc, conc, h1]
 | .func f a c, h => by simp only [ren, conc, vals_ren r a h.1, vals_ren r c h.2]
 | .iface t v, h => by simp only [ren, conc, conc_ren r v h]
 | .agg t ps, h => by simp only [ren, conc, concs_ren r ps h]
 | .arr t n f, h => by
  simp only [ren, conc]
  congr 2
  rw [List.flatMap_def, List.flatMap_def]; congr 1
  apply List.map_congr_left
  intro i hi
  rw [conc_ren r (f i) (h i (List.mem_range.1 hi))]
 | .tup vs, h => by simp only [ren, conc, vals_ren r vs h]
 | .bool _, _ | .int _ _, _ | .str _, _ | .nilp, _ | .nils, _ | .nilf, _ | .nili, _ | .nilm, _ => by simp only [ren, conc]
theorem concs_ren {σ : Sg} {H : Heap} {ρ ρ' : Rho} (r : RhoR σ ρ ρ') : ∀ (l : List V), rensOk σ H l -> concs ρ' l = concs ρ (rens σ l)
 | [], _ => rfl
 | v :: l, h => by simp only [rens, concs, conc_ren r v h.1, concs_ren r l h.2]
theorem vals_ren {σ : Sg} {H : Heap} {ρ ρ' : Rho} (r : RhoR σ ρ ρ') : ∀ (l : List V), rensOk σ H l -> vals ρ' l = vals ρ (rens σ l)
 | [], _ => rfl
 | v :: l, h => by simp only [rens, vals, conc_ren r v h.1, vals_ren r l h.2]
end
theorem tkB_same {d : Option TypeDesc} {v u : V} (h : ∀ tk, tkV tk v = tkV tk u) (hv : tkB d v = true) : tkB d u = true := by
 unfold tkB at hv ⊢
 split at hv
 ·rename_i tk htk; rw [← h]; exact hv
 ·cases hv
mutual
theorem fit_ren {P : Program} {σ : Sg} {H : Heap} : ∀ (v : V) (t : TypeId), renOk σ H v -> Fit P (ren σ v) t -> Fit P v t
 | .ptr b off p t', t, h, hf => by
  obtain ⟨c, hc⟩ := h
  simp only [ren, hc] at hf
  exact ⟨hf.1, hf.2.1, tkB_same (fun tk => by cases tk <;> rfl) hf.2.2⟩
 | .slice b bs off pre st n cap t', t, h, hf => by
  rcases h with ⟨c, hc⟩ | ⟨hc, _⟩ <;> simp only [ren, hc] at hf <;> exact ⟨hf.1, hf.2.1, tkB_same (fun tk => by cases tk <;> rfl) hf.2.2⟩
 | .map b, t, h, hf => by
  obtain ⟨c, hc⟩ := h
  simp only [ren, hc] at hf
  exact ⟨hf.1, hf.2.1, tkB_same (fun tk => by cases tk <;> rfl) hf.2.2⟩
 | .func f a c, t, h, hf => by
  simp only [ren] at hf
  exact ⟨hf.1, hf.2.1, tkB_same (fun tk => by cases tk <;> rfl) hf.2.2⟩
 | .iface t' v, t, h, hf => by
  simp only [ren] at hf
  exact ⟨hf.1, hf.2.1, tkB_same (fun tk => by cases tk <;> rfl) hf.2.2⟩
 | .agg t' ps, t, h, hf => by
  simp only [ren, Fit] at hf ⊢
  obtain ⟨h1, fs, h2, h3⟩ := hf
  exact ⟨h1, fs, h2, fits_ren ps _ _ _ h h3⟩
 | .arr t' n f, t, h, hf => by
  simp only [ren, Fit] at hf ⊢
  obtain ⟨h1, e, h2, h3, h4⟩ := hf
  exact ⟨h1, e, h2, h3, fun i hi => fit_ren (f i) e (h i hi) (h4 i hi)⟩
 | .tup _, t, h, hf => by simp only [ren] at hf; exact hf.elim
 | .bool _, t, _, hf | .int _ _, t, _, hf | .str _, t, _, hf | .nilp, t, _, hf | .nils, t, _, hf | .nilf, t, _, hf | .nili, t, _, hf | .nilm, t, _, hf => by
  simp only [ren] at hf; exact hf
theorem fits_ren {P : Program} {σ : Sg} {H : Heap} : ∀ (l : List V) (fs : List Field) (o s : Nat), rensOk σ H l -> Fits P (rens σ l) fs o s -> Fits P l fs o s
 | [], _, _, _, _, hf => hf
 | v :: l, f :: fs, o, s, h, hf => by
  simp only [rens, Fits] at hf ⊢
  exact ⟨hf.1, fit_ren v _ h.1 hf.2.1, fits_ren l fs _ _ h.2 hf.2.2⟩
 | _ :: _, [], _, _, _, hf => by simp only [rens, Fits] at hf
end
def kindB : TypeId × Blk -> Nat × Nat × Nat
 | (t, .row _ n _) => (t, 0, n)
 | (_, .mp _) => (0, 1, 0)
 | (_, .gone) => (0, 2, 0)
 | (_, .free) => (0, 3, 0)
def SameK (σ : Sg) (H H' : Heap) : Prop := ∀ b c, nth σ b = some (some c) -> ∃ x y, nth H' b = some x /\ nth H c = some y /\ kindB x = kindB y
theorem kind_wf {P : Program} {H H' : Heap} {b c : Nat} {x y : TypeId × Blk} (hx : nth H' b = some x) (hy : nth H c = some y) (hk : kindB x = kindB y) :
 (∀ off p t, Wf P H (.ptr c off p t) ↔ Wf P H' (.ptr b off p t)) /\ (∀ bs off pre st n cap t, Wf P H (.slice c bs off pre st n cap t) ↔ Wf P H' (.slice b bs off pre st n cap t)) /\ (Wf P H (.map c) ↔ Wf P H' (.map b)) := by
 obtain ⟨tx, X⟩ := x
 obtain ⟨ty, Y⟩ := y
 refine ⟨fun off p t => ?_, fun bs off pre st n cap t => ?_, ?_⟩ <;> unfold Wf <;> rw [hx, hy] <;> cases X <;> cases Y <;> simp [kindB] at hk ⊢ <;> (obtain ⟨rfl, rfl⟩ := hk; rfl)
mutual
theorem wf_ren {P : Program} {σ : Sg} {H H' : Heap} (hH : SameK σ H H') : ∀ (v : V), renOk σ H' v -> Wf P H (ren σ v) -> Wf P H' v
 | .ptr b off p t, h, hw => by
  obtain ⟨c, hc⟩ := h
  obtain ⟨x, y, h1, h2, h3⟩ := hH b c hc
  simp only [ren, hc] at hw
  exact ((kind_wf h1 h2 h3).1 _ _ _).1 hw
 | .slice b bs off pre st n cap t, h, hw => by
  rcases h with ⟨c, hc⟩ | ⟨hc, rfl, rfl, rfl, rfl, rfl, f, hf⟩
  ·obtain ⟨x, y, h1, h2, h3⟩ := hH b c hc
   simp only [ren, hc] at hw
   exact ((kind_wf h1 h2 h3).2.1 _ _ _ _ _ _ _).1 hw
  ·unfold Wf
   rw [hf]
   exact .inl ⟨rfl, rfl, rfl, Nat.le_refl _, by simp, fun h => by omega⟩
 | .map b, h, hw => by
  obtain ⟨c, hc⟩ := h
  obtain ⟨x, y, h1, h2, h3⟩ := hH b c hc
  simp only [ren, hc] at hw
  exact (kind_wf h1 h2 h3).2.2.1 hw
 | .func f a c, h, hw => ⟨wfs_ren hH a h.1 (by simp only [ren] at hw; exact hw.1), wfs_ren hH c h.2 (by simp only [ren] at hw; exact hw.2)⟩
 | .iface t v, h, hw => wf_ren hH v h (by simp only [ren] at hw; exact hw)
 | .agg t ps, h, hw => by
  simp only [ren] at hw
  exact ⟨fit_ren (H := H') (.agg t ps) t h (by simp only [ren]; exact hw.1), wfs_ren hH ps h hw.2⟩
 | .arr t n f, h, hw => by
  simp only [ren] at hw
  exact ⟨fit_ren (H := H') (.arr t n f) t h (by simp only [ren]; exact hw.1), fun i hi => wf_ren hH (f i) (h i hi) (hw.2 i hi)⟩
 | .tup vs, h, hw => wfs_ren hH vs h (by simp only [ren] at hw; exact hw)
 | .bool _, _, _ | .int _ _, _, _ | .str _, _, _ | .nilp, _, _ | .nils, _, _ | .nilf, _, _ | .nili, _, _ | .nilm, _, _ => trivial
theorem wfs_ren {P : Program} {σ : Sg} {H H' : Heap} (hH : SameK σ H H') : ∀ (l : List V), rensOk σ H' l -> Wfs P H (rens σ l) -> Wfs P H' l
 | [], _, _ => trivial
 | v :: l, h, hw => ⟨wf_ren hH v h.1 (by simp only [rens] at hw; exact hw.1), wfs_ren hH l h.2 (by simp only [rens] at hw; exact hw.2)⟩
end
mutual
theorem ren_fit {P : Program} {σ : Sg} {H : Heap} : ∀ (v : V) (t : TypeId), renOk σ H v -> Fit P v t -> Fit P (ren σ v) t
 | .ptr b off p t', t, h, hf => by
  obtain ⟨c, hc⟩ := h
  simp only [ren, hc]
  exact ⟨hf.1, hf.2.1, tkB_same (fun tk => by cases tk <;> rfl) hf.2.2⟩
 | .slice b bs off pre st n cap t', t, h, hf => by
  rcases h with ⟨c, hc⟩ | ⟨hc, _⟩ <;> simp only [ren, hc] <;> exact ⟨hf.1, hf.2.1, tkB_same (fun tk => by cases tk <;> rfl) hf.2.2⟩
 | .map b, t, h, hf => by
  obtain ⟨c, hc⟩ := h
  simp only [ren, hc]
  exact ⟨hf.1, hf.2.1, tkB_same (fun tk => by cases tk <;> rfl) hf.2.2⟩
 | .func f a c, t, h, hf => by
  simp only [ren]
  exact ⟨hf.1, hf.2.1, tkB_same (fun tk => by cases tk <;> rfl) hf.2.2⟩
 | .iface t' v, t, h, hf => by
  simp only [ren]
  exact ⟨hf.1, hf.2.1, tkB_same (fun tk => by cases tk <;> rfl) hf.2.2⟩
 | .agg t' ps, t, h, hf => by
  simp only [ren, Fit] at hf ⊢
  obtain ⟨h1, fs, h2, h3⟩ := hf
  exact ⟨h1, fs, h2, ren_fits ps _ _ _ h h3⟩
 | .arr t' n f, t, h, hf => by
  simp only [ren, Fit] at hf ⊢
  obtain ⟨h1, e, h2, h3, h4⟩ := hf
  exact ⟨h1, e, h2, h3, fun i hi => ren_fit (f i) e (h i hi) (h4 i hi)⟩
 | .tup _, t, h, hf => hf.elim
 | .bool _, t, _, hf | .int _ _, t, _, hf | .str _, t, _, hf | .nilp, t, _, hf | .nils, t, _, hf | .nilf, t, _, hf | .nili, t, _, hf | .nilm, t, _, hf => by
  simp only [ren]; exact hf
theorem ren_fits {P : Program} {σ : Sg} {H : Heap} : ∀ (l : List V) (fs : List Field) (o s : Nat), rensOk σ H l -> Fits P l fs o s -> Fits P (rens σ l) fs o s
 | [], _, _, _, _, hf => hf
 | v :: l, f :: fs, o, s, h, hf => by
  simp only [rens, Fits] at hf ⊢
  exact ⟨hf.1, ren_fit v _ h.1 hf.2.1, ren_fits l fs _ _ h.2 hf.2.2⟩
 | _ :: _, [], _, _, _, hf => by simp only [Fits] at hf
end
mutual
theorem ren_wf {P : Program} {σ : Sg} {H H' : Heap} (hH : SameK σ H H') : ∀ (v : V), renOk σ H' v -> Wf P H' v -> Wf P H (ren σ v)
 | .ptr b off p t, h, hw => by
  obtain ⟨c, hc⟩ := h
  obtain ⟨x, y, h1, h2, h3⟩ := hH b c hc
  simp only [ren, hc]
  exact ((kind_wf h1 h2 h3).1 _ _ _).2 hw
 | .slice b bs off pre st n cap t, h, hw => by
  rcases h with ⟨c, hc⟩ | ⟨hc, _⟩
  ·obtain ⟨x, y, h1, h2, h3⟩ := hH b c hc
   simp only [ren, hc]
   exact ((kind_wf h1 h2 h3).2.1 _ _ _ _ _ _ _).2 hw
  ·simp only [ren, hc]; trivial
 | .map b, h, hw => by
  obtain ⟨c, hc⟩ := h
  obtain ⟨x, y, h1, h2, h3⟩ := hH b c hc
  simp only [ren, hc]
  exact (kind_wf h1 h2 h3).2.2.2 hw
 | .func f a c, h, hw => by simp only [ren]; exact ⟨ren_wfs hH a h.1 hw.1, ren_wfs hH c h.2 hw.2⟩
 | .iface t v, h, hw => by simp only [ren]; exact ren_wf hH v h hw
 | .agg t ps, h, hw => by
  have := ren_fit (H := H') (.agg t ps) t h hw.1
  simp only [ren] at this ⊢
  exact ⟨this, ren_wfs hH ps h hw.2⟩
 | .arr t n f, h, hw => by
  have := ren_fit (H := H') (.arr t n f) t h hw.1
  simp only [ren] at this ⊢
  exact ⟨this, fun i hi => ren_wf hH (f i) (h i hi) (hw.2 i hi)⟩
 | .tup vs, h, hw => by simp only [ren]; exact ren_wfs hH vs h hw
 | .bool _, _, _ | .int _ _, _, _ | .str _, _, _ | .nilp, _, _ | .nils, _, _ | .nilf, _, _ | .nili, _, _ | .nilm, _, _ => by simp only [ren]; trivial
theorem ren_wfs {P : Program} {σ : Sg} {H H' : Heap} (hH : SameK σ H H') : ∀ (l : List V), rensOk σ H' l -> Wfs P H' l -> Wfs P H (rens σ l)
 | [], _, _ => trivial
 | v :: l, h, hw => by simp only [rens]; exact ⟨ren_wf hH v h.1 hw.1, ren_wfs hH l h.2 hw.2⟩
end
theorem kindB_ren (σ : Sg) (x : TypeId × Blk) : kindB (renB σ x) = kindB x := by
 obtain ⟨t, B⟩ := x; cases B <;> rfl
def onceS : Sg -> Bool
 | [] => true
 | some c :: s => !(s.any fun x => match x with | some d => Nat.beq c d | none => false) && onceS s
 | none :: s => onceS s
theorem onceS_at : ∀ {s : Sg}, onceS s = true -> ∀ {a b c : Nat}, nth s a = some (some c) -> nth s b = some (some c) -> a = b
 | [], _, a, b, c, h, _ => by simp [nth] at h
 | x :: s, h, 0, 0, c, _, _ => rfl
 | x :: s, h, 0, b + 1, c, ha, hb => by
  exfalso
  simp [nth] at ha; subst ha
  simp only [onceS, Bool.and_eq_true, Bool.not_eq_true'] at h
  have hm : some c ∈ s := by rw [nth_eq] at hb; exact List.mem_of_getElem? (by simpa [nth] using hb)
  have := List.any_eq_false.1 h.1 _ hm
  simp at this
 | x :: s, h, a + 1, 0, c, ha, hb => by
  exfalso
  simp [nth] at hb; subst hb
  simp only [onceS, Bool.and_eq_true, Bool.not_eq_true'] at h
  have hm : some c ∈ s := by rw [nth_eq] at ha; exact List.mem_of_getElem? (by simpa [nth] using ha)
  have := List.any_eq_false.1 h.1 _ hm
  simp at this
 | x :: s, h, a + 1, b + 1, c, ha, hb => by
  have h' : onceS s = true := by
   cases x with
   | none => exact h
   | some d => simp only [onceS, Bool.and_eq_true] at h; exact h.2
  rw [onceS_at h' (a := a) (b := b) (by simpa [nth] using ha) (by simpa [nth] using hb)]
def idS : Nat -> Nat -> Sg -> Bool
 | 0, _, _ => true
 | m + 1, i, some c :: s => Nat.beq c i && idS m (i + 1) s
 | _ + 1, _, _ => false
theorem idS_at : ∀ {m i : Nat} {s : Sg}, idS m i s = true -> ∀ b, b < m -> nth s b = some (some (i + b))
 | 0, _, _, _, b, hb => by omega
 | m + 1, i, some c :: s, h, 0, hb => by
  simp only [idS, Bool.and_eq_true] at h
  rw [beq_eq h.1]; rfl
 | m + 1, i, some c :: s, h, b + 1, hb => by
  simp only [idS, Bool.and_eq_true] at h
  have := idS_at h.2 b (by omega)
  simp only [nth]; rw [this]; congr 2; omega
 | m + 1, i, none :: s, h, b, hb => by simp [idS] at h
 | m + 1, i, [], h, b, hb => by simp [idS] at h
def sgAt {α : Type} (σ : Sg) (g : Nat -> α) (d : α) (b : Nat) : α := match nth σ b with
 | some (some c) => g c
 | _ => d
def rhoR (σ : Sg) (ρ : Rho) (z : Nat) : Rho := ⟨sgAt σ ρ.π z, sgAt σ ρ.κ 0, sgAt σ ρ.δ 0, sgAt σ ρ.ν true, sgAt σ ρ.ε (none, 0)⟩
theorem rhoR_ok (σ : Sg) (ρ : Rho) (z : Nat) : RhoR σ ρ (rhoR σ ρ z) :=
 ⟨fun b c h => by simp [rhoR, sgAt, h], fun b h => by simp [rhoR, sgAt, h]⟩
theorem Step.ren {P : Program} {ρ0 ρ : Rho} {H0 H H' : Heap} {w0 w : World} {σ : Sg} (s : Step P ρ0 H0 w0 ρ H w) (hid : idS H0.length 0 σ = true) (hon : onceS σ = true) (hr : RenH σ H σ H') (hok : okH σ H' H') :
 ∃ ρ', Step P ρ0 H0 w0 ρ' H' w /\ RhoR σ ρ ρ' /\ SameK σ H H' := by
 have hlen := hr.len
 have hH : ∀ b c, nth σ b = some (some c) -> ∃ x, nth H' b = some x /\ nth H c = some (renB σ x) := fun b c hc => by
  have hb : b < H'.length := by rw [← hlen]; exact nth_lt hc
  have hx : nth H' b = some H'[b] := by rw [nth_eq]; simp [hb]
  rcases hr.at hx with ⟨d, h1, h2⟩ | ⟨h1, _⟩
  ·rw [hc] at h1; cases h1; exact ⟨_, hx, h2⟩
  ·rw [hc] at h1; cases h1
 have hR := rhoR_ok σ ρ w.heap.size
 have hK : SameK σ H H' := fun b c hc => by
  obtain ⟨x, h1, h2⟩ := hH b c hc
  exact ⟨x, _, h1, h2, (kindB_ren σ x).symm⟩
 refine ⟨rhoR σ ρ w.heap.size, ?_, hR, hK⟩
 generalize hρ : rhoR σ ρ w.heap.size = ρ' at hR
 have hz : ∀ b, nth σ b = some none -> ρ'.π b = w.heap.size := fun b hb => by rw [← hρ]; simp [rhoR, sgAt, hb]
 have real : ∀ {b : Nat} {x : TypeId × Blk}, nth H' b = some x -> ρ'.ν b = false -> ∃ c, nth σ b = some (some c) /\ nth H c = some (renB σ x) /\ ρ.ν c = false := fun {b x} hx hν => by
  rcases hr.at hx with ⟨c, h1, h2⟩ | ⟨h1, _⟩
  ·exact ⟨c, h1, h2, by rw [← (hR.was b c h1).2.2.2.1]; exact hν⟩
  ·rw [(hR.nul b h1).1] at hν; cases hν
 have mutB : ∀ (x : TypeId × Blk), (renB σ x).2.mut = x.2.mut /\ (renB σ x).2.live = x.2.live := fun x => by
  obtain ⟨t, B⟩ := x; cases B <;> exact ⟨rfl, rfl⟩
 have wfr : ∀ v, renOk σ H' v -> Wf P H (Dd.ren σ v) -> Wf P H' v := fun v h1 h2 => wf_ren hK v h1 h2
 refine ⟨⟨?_, ?_, ?_, ?_, ?_, ?_⟩, ?_, ?_, s.os, s.tape, s.output, s.size, s.keep, ?_⟩
 ·intro b t B hb hν
  obtain ⟨c, h1, h2, hνc⟩ := real hb hν
  obtain ⟨k1, k2, k3, k4, k5⟩ := hR.was b c h1
  cases B with
  | row rw n f =>
   obtain ⟨cs, t', fr, e1, e2, e3, e4, e5⟩ := s.rel.blk c _ _ h2 hνc
   have hokb : ∀ j, j < n -> renOk σ H' (f j) := hok.at hb
   refine ⟨cs, t', fr, by rw [k1]; exact e1, e2, by rw [k2]; exact e3, by rw [k3, k2]; exact e4, fun j hj => ⟨fit_ren (f j) t (hokb j hj) (e5 j hj).1, ?_⟩⟩
   rw [k3, (e5 j hj).2]
   simp only [cl]
   rw [conc_ren hR (f j) (hokb j hj)]
  | mp es =>
   obtain ⟨es', clock, e1, e2⟩ := s.rel.blk c _ _ h2 hνc
   have hokb : ∀ e ∈ es, renOk σ H' e.1 /\ renOk σ H' e.2 := hok.at hb
   refine ⟨es', clock, by rw [k1]; exact e1, ?_⟩
   rw [e2, List.map_map]
   apply List.map_congr_left
   intro e he
   simp only [Function.comp]
   rw [conc_ren hR e.1 (hokb e he).1, conc_ren hR e.2 (hokb e he).2]
  | free => trivial
  | gone => trivial
 ·intro b c tb tc B C hb hc hm hl hνb hνc hπ
  obtain ⟨b', h1, h2, k1⟩ := real hb hνb
  obtain ⟨c', h3, h4, k2⟩ := real hc hνc
  rw [(hR.was b b' h1).1, (hR.was c c' h3).1] at hπ
  have e1 := (mutB (tb, B)).1; have e2 := (mutB (tc, C)).2
  have : b' = c' := s.rel.inj b' c' _ _ _ _ (by rw [h2]) (by rw [h4]) (by rw [e1]; exact hm) (by rw [e2]; exact hl) k1 k2 hπ
  subst this
  exact onceS_at hon h1 h3
 ·intro b t B hb hl hν
  obtain ⟨c, h1, h2, hνc⟩ := real hb hν
  rw [(hR.was b c h1).1]
  exact s.rel.lt c _ _ (by rw [h2]) (by rw [(mutB (t, B)).2]; exact hl) hνc
 ·intro b t B hb hl hν
  rcases hr.at hb with ⟨c, h1, h2⟩ | ⟨h1, t', f, h2⟩
  ·obtain ⟨k1, k2, k3, k4, k5⟩ := hR.was b c h1
   obtain ⟨rw', g, hg, hε⟩ := s.rel.nul c _ _ (by rw [h2]) (by rw [(mutB (t, B)).2]; exact hl) (by rw [← k4]; exact hν)
   cases B with
   | row rwb n f => simp only [renB] at hg; cases hg; exact ⟨_, f, rfl, fun h => by rw [k5]; exact hε h⟩
   | mp es => simp only [renB] at hg; cases hg
   | free => cases hl
   | gone => cases hl
  ·cases h2
   exact ⟨true, f, rfl, fun _ => (hR.nul b h1).2⟩
 ·intro b t rw n f hb j hj
  rcases hr.at hb with ⟨c, h1, h2⟩ | ⟨h1, t', f', h2⟩
  ·exact wfr _ (hok.at hb j hj) (s.rel.wf c _ _ _ _ h2 j hj)
  ·cases h2; omega
 ·intro b t es hb e he
  rcases hr.at hb with ⟨c, h1, h2⟩ | ⟨h1, t', f', h2⟩
  ·have hokb := hok.at hb e he
   have := s.rel.wfm c _ _ h2 (Dd.ren σ e.1, Dd.ren σ e.2) (List.mem_map.2 ⟨e, he, rfl⟩)
   exact ⟨wfr _ hokb.1 this.1, wfr _ hokb.2 this.2⟩
  ·cases h2
 ·intro b x hb
  obtain ⟨y, hy, hext⟩ := s.ext b x hb
  have hσ := idS_at hid b (nth_lt hb)
  rw [Nat.zero_add] at hσ
  obtain ⟨z, hz1, hz2⟩ := hH b b hσ
  rw [hy] at hz2
  refine ⟨z, hz1, ?_⟩
  obtain ⟨t, B⟩ := z
  obtain ⟨tx, X⟩ := x
  cases hz2
  cases B with
  | row rw n f =>
   cases X with
   | row rx nx fx =>
    rcases hext with h | ⟨h1, f', h2⟩
    ·cases h
    ·cases h2; exact .inr ⟨h1, f, rfl⟩
   | gone => cases hext
   | mp es => rcases hext with h | ⟨_, h⟩ <;> cases h
   | free => trivial
  | mp es =>
   cases X with
   | row rx nx fx => (rcases hext with h | ⟨h1, f', h2⟩; (cases h); (cases h2))
   | gone => cases hext
   | mp es' => exact .inr ⟨es, rfl⟩
   | free => trivial
  | free =>
   cases X with
   | row rx nx fx => (rcases hext with h | ⟨h1, f', h2⟩; (cases h); (cases h2))
   | gone => cases hext
   | mp es' => rcases hext with h | ⟨_, h⟩ <;> cases h
   | free => trivial
  | gone =>
   cases X with
   | row rx nx fx => exact .inl rfl
   | gone => rfl
   | mp es' => exact .inl rfl
   | free => trivial
 ·intro b t B hb hB
  have hσ := idS_at hid b (nth_lt hb)
  rw [Nat.zero_add] at hσ
  obtain ⟨k1, k2, k3, k4, k5⟩ := hR.was b b hσ
  obtain ⟨m1, m2, m3, m4, m5⟩ := s.agr b t B hb hB
  exact ⟨k1.trans m1, k2.trans m2, k3.trans m3, k4.trans m4, k5.trans m5⟩
 ·intro b t B hb hm
  rcases hr.at hb with ⟨c, h1, h2⟩ | ⟨h1, t', f', h2⟩
  ·rw [(hR.was b c h1).1]
   exact s.new c _ _ (by rw [h2]) (by rw [(mutB (t, B)).1]; exact hm)
  ·right; rw [hz b h1]; exact s.size
theorem semT_ren {C : Cx} {k : List It} {E E' : Env} {H H' : Heap} {σ : Sg} (hid : idS C.H.length 0 σ = true) (hon : onceS σ = true) (hr : RenH σ H σ H') (hok : okH σ H' H')
 (hE : ∀ t v, lk E' t = some v -> renOk σ H' v /\ lk E t = some (Dd.ren σ v)) (h : SemT C k E' H') : SemT C k E H := by
 intro ρ w a b todo cs hb hk ht hs
 obtain ⟨ρ', hst, hR, hH⟩ := hs.step.ren hid hon hr hok
 refine h ρ' w a b todo cs hb hk ht ⟨hst, fun t v hv => ?_, hs.size, hs.defers⟩
 obtain ⟨h1, h2⟩ := hE t v hv
 obtain ⟨h3, h4⟩ := hs.env t _ h2
 exact ⟨wf_ren hH v h1 h3, by rw [h4, conc_ren hR v h1]⟩
def SameB : TypeId × Blk -> TypeId × Blk -> Prop
 | (t, .row rw n f), y => ∃ g, y = (t, .row rw n g) /\ ∀ i, i < n -> f i = g i
 | x, y => x = y
def SameH : Heap -> Heap -> Prop
 | [], [] => True
 | x :: l, y :: m => SameB x y /\ SameH l m
 | _, _ => False
theorem SameB.refl : ∀ x, SameB x x
 | (t, .row rw n f) => ⟨f, rfl, fun _ _ => rfl⟩
 | (_, .gone) => rfl
 | (_, .mp _) => rfl
 | (_, .free) => rfl
theorem SameB.mut : ∀ {x y}, SameB x y -> y.2.mut = x.2.mut
 | (t, .row rw n f), _, ⟨g, rfl, _⟩ => rfl
 | (_, .gone), _, h => by cases h; rfl
 | (_, .mp _), _, h => by cases h; rfl
 | (_, .free), _, h => by cases h; rfl
theorem SameB.live : ∀ {x y}, SameB x y -> y.2.live = x.2.live
 | (t, .row rw n f), _, ⟨g, rfl, _⟩ => rfl
 | (_, .gone), _, h => by cases h; rfl
 | (_, .mp _), _, h => by cases h; rfl
 | (_, .free), _, h => by cases h; rfl
theorem SameB.ext : ∀ {x y}, SameB x y -> BlkExt x y
 | (t, .row rw n f), _, ⟨g, rfl, _⟩ => .inr ⟨rfl, g, rfl⟩
 | (_, .gone), _, h => by cases h; exact .refl _
 | (_, .mp _), _, h => by cases h; exact .refl _
 | (_, .free), _, h => by cases h; exact .refl _
theorem SameH.refl : ∀ H, SameH H H
 | [] => trivial
 | x :: l => ⟨.refl x, .refl l⟩
theorem SameH.to : ∀ {H H' : Heap}, SameH H H' -> ∀ {b x}, nth H b = some x -> ∃ y, nth H' b = some y /\ SameB x y
 | [], [], _, b, x, h => by simp [nth] at h
 | x :: l, y :: m, h, 0, z, hz => by simp [nth] at hz; subst hz; exact ⟨y, rfl, h.1⟩
 | x :: l, y :: m, h, b + 1, z, hz => h.2.to (b := b) (by simpa [nth] using hz)
 | [], _ :: _, h, _, _, _ => h.elim
 | _ :: _, [], h, _, _, _ => h.elim
theorem SameH.of : ∀ {H H' : Heap}, SameH H H' -> ∀ {b y}, nth H' b = some y -> ∃ x, nth H b = some x /\ SameB x y
 | [], [], _, b, x, h => by simp [nth] at h
 | x :: l, y :: m, h, 0, z, hz => by simp [nth] at hz; subst hz; exact ⟨x, rfl, h.1⟩
 | x :: l, y :: m, h, b + 1, z, hz => h.2.of (b := b) (by simpa [nth] using hz)
 | [], _ :: _, h, _, _, _ => h.elim
 | _ :: _, [], h, _, _, _ => h.elim
theorem SameH.ext {H H' : Heap} (s : SameH H H') : Ext H H' := fun b x h => by
 obtain ⟨y, hy, e⟩ := s.to h
 exact ⟨y, hy, e.ext⟩
theorem HRel.same {P : Program} {ρ : Rho} {H H' : Heap} {w : World} (s : SameH H H') (h : HRel P ρ H w) : HRel P ρ H' w := by
 refine ⟨?_, ?_, ?_, ?_, ?_, ?_⟩
 ·intro b t B hb hν
  obtain ⟨⟨t', B'⟩, hx, e⟩ := s.of hb
  have hk := h.blk b t' B' hx hν
  cases B' with
  | row rw n f =>
   obtain ⟨g, he, hfg⟩ := e
   cases he
   obtain ⟨cs, t1, fr, k1, k2, k3, k4, k5⟩ := hk
   exact ⟨cs, t1, fr, k1, k2, k3, k4, fun j hj => by rw [← hfg j hj]; exact k5 j hj⟩
  | mp es => cases e; exact hk
  | free => cases e; trivial
  | gone => cases e; trivial
 ·intro b c tb tc B C hb hc hmut hlive hνb hν hπ
  obtain ⟨⟨t', B'⟩, hx, e⟩ := s.of hb
  obtain ⟨⟨t'', C'⟩, hy, e'⟩ := s.of hc
  exact h.inj b c t' t'' B' C' hx hy (e.mut ▸ hmut) (e'.live ▸ hlive) hνb hν hπ
 ·intro b t B hb hlive hν
  obtain ⟨⟨t', B'⟩, hx, e⟩ := s.of hb
  exact h.lt b t' B' hx (e.live ▸ hlive) hν
 ·intro b t B hb hB hν
  obtain ⟨⟨t', B'⟩, hx, e⟩ := s.of hb
  obtain ⟨rw', f, rfl, hε⟩ := h.nul b t' B' hx (e.live ▸ hB) hν
  obtain ⟨g, he, _⟩ := e
  cases he
  exact ⟨rw', g, rfl, hε⟩
 ·intro b t rw n f hb j hj
  obtain ⟨⟨t', B'⟩, hx, e⟩ := s.of hb
  cases B' with
  | row rw' n' f' =>
   obtain ⟨g, he, hfg⟩ := e
   cases he
   rw [← hfg j hj]
   exact (h.wf b _ _ _ _ hx j hj).ext s.ext
  | mp es => cases e
  | free => cases e
  | gone => cases e
 ·intro b t es hb e hmem
  obtain ⟨⟨t', B'⟩, hx, e'⟩ := s.of hb
  cases B' with
  | row rw' n' f' => obtain ⟨g, he, _⟩ := e'; cases he
  | mp es' =>
   cases e'
   obtain ⟨w1, w2⟩ := h.wfm b t _ hx e hmem
   exact ⟨w1.ext s.ext, w2.ext s.ext⟩
  | free => cases e'
  | gone => cases e'
theorem Step.same {P : Program} {ρ0 ρ : Rho} {H0 H H' : Heap} {w0 w : World} (h : SameH H H') (s : Step P ρ0 H0 w0 ρ H w) : Step P ρ0 H0 w0 ρ H' w := by
 refine ⟨s.rel.same h, s.ext.trans h.ext, s.agr, s.os, s.tape, s.output, s.size, s.keep, ?_⟩
 intro b t B hb hmut
 obtain ⟨⟨t', B'⟩, hx, e⟩ := h.of hb
 exact s.new b t' B' hx (e.mut ▸ hmut)
theorem semT_same {C : Cx} {k : List It} {E : Env} {H H' : Heap} (h : SameH H H') (hS : SemT C k E H') : SemT C k E H := by
 intro ρ w a b todo cs hb hk ht hs
 refine hS ρ w a b todo cs hb hk ht ⟨hs.step.same h, fun t v hv => ?_, hs.size, hs.defers⟩
 obtain ⟨h1, h2⟩ := hs.env t v hv
 exact ⟨h1.ext h.ext, h2⟩
def RenX (σ0 : Sg) (H : Heap) : Sg -> Heap -> Prop
 | [], [] => True
 | some c :: s, x :: l => (∃ y, nth H c = some y /\ SameB y (renB σ0 x)) /\ RenX σ0 H s l
 | none :: s, x :: l => (∃ t f, x = (t, .row true 0 f)) /\ RenX σ0 H s l
 | _, _ => False
def backB (σ0 : Sg) : Sg -> Heap -> Nat -> TypeId × Blk -> TypeId × Blk
 | some d :: s, x :: l, c, y => bif Nat.beq d c then renB σ0 x else backB σ0 s l c y
 | none :: s, _ :: l, c, y => backB σ0 s l c y
 | _, _, _, y => y
def backH (σ0 : Sg) (s : Sg) (l : Heap) : Nat -> Heap -> Heap
 | _, [] => []
 | c, y :: m => backB σ0 s l c y :: backH σ0 s l (c + 1) m
theorem backH_nth {σ0 s : Sg} {l : Heap} : ∀ {i c : Nat} {H : Heap}, nth (backH σ0 s l i H) c = (nth H c).map (backB σ0 s l (i + c))
 | i, c, [] => by simp [backH, nth]
 | i, 0, y :: m => by simp [backH, nth]
 | i, c + 1, y :: m => by
  simp only [backH, nth]
  rw [backH_nth, show i + 1 + c = i + (c + 1) by omega]
theorem backB_same {σ0 : Sg} {H : Heap} : ∀ {s : Sg} {l : Heap}, RenX σ0 H s l -> ∀ {c : Nat} {y : TypeId × Blk}, nth H c = some y -> SameB y (backB σ0 s l c y)
 | [], [], _, c, y, hy => by simp only [backB]; exact .refl y
 | some d :: s, x :: l, h, c, y, hy => by
  simp only [backB]
  cases e : Nat.beq d c
  ·exact backB_same h.2 hy
  ·have := Nat.eq_of_beq_eq_true e; subst this
   obtain ⟨z, hz, hs⟩ := h.1
   rw [hy] at hz; cases hz; exact hs
 | none :: s, x :: l, h, c, y, hy => backB_same (s := s) (l := l) h.2 hy
 | [], _ :: _, h, _, _, _ => h.elim
 | some _ :: _, [], h, _, _, _ => h.elim
 | none :: _, [], h, _, _, _ => h.elim
theorem backH_same {σ0 : Sg} {H : Heap} {s : Sg} {l : Heap} (h : RenX σ0 H s l) : SameH H (backH σ0 s l 0 H) := by
 have key : ∀ (m : Heap) (i : Nat), (∀ c y, nth m c = some y -> nth H (i + c) = some y) -> SameH m (backH σ0 s l i m) := by
  intro m
  induction m with
  | nil => intro i _; trivial
  | cons y m ih =>
   intro i hm
   refine ⟨backB_same h (hm 0 y rfl), ih (i + 1) fun c z hz => ?_⟩
   rw [show i + 1 + c = i + (c + 1) by omega]; exact hm (c + 1) z hz
 exact key H 0 fun c y hy => by rw [Nat.zero_add]; exact hy
theorem backB_at {σ0 : Sg} {H : Heap} : ∀ {s : Sg} {l : Heap}, onceS s = true -> RenX σ0 H s l -> ∀ {b c : Nat} {x y : TypeId × Blk}, nth s b = some (some c) -> nth l b = some x -> backB σ0 s l c y = renB σ0 x
 | [], [], _, _, b, c, x, y, hs, hl => by simp [nth] at hs
 | some d :: s, z :: l, ho, h, 0, c, x, y, hs, hl => by
  simp [nth] at hs hl; subst hs hl
  have hc : Nat.beq d d = true := Nat.beq_refl d
  simp only [backB, hc, cond_true]
 | some d :: s, z :: l, ho, h, b + 1, c, x, y, hs, hl => by
  have hd : Nat.beq d c = false := by
   cases e : Nat.beq d c
   ·rfl
   ·have := Nat.eq_of_beq_eq_true e; subst this
    have := onceS_at ho (a := 0) (b := b + 1) rfl hs
    omega
  simp only [backB, hd, cond_false]
  simp only [onceS, Bool.and_eq_true] at ho
  exact backB_at ho.2 h.2 (b := b) (by simpa [nth] using hs) (by simpa [nth] using hl)
 | none :: s, z :: l, ho, h, 0, c, x, y, hs, hl => by simp [nth] at hs
 | none :: s, z :: l, ho, h, b + 1, c, x, y, hs, hl => by
  simp only [backB]
  exact backB_at (s := s) (l := l) ho h.2 (b := b) (by simpa [nth] using hs) (by simpa [nth] using hl)
 | [], _ :: _, _, h, _, _, _, _, _, _ => h.elim
 | some _ :: _, [], _, h, _, _, _, _, _, _ => h.elim
 | none :: _, [], _, h, _, _, _, _, _, _ => h.elim
theorem RenX.ren {σ0 : Sg} {H : Heap} : ∀ {s0 : Sg} {l0 : Heap}, onceS s0 = true -> RenX σ0 H s0 l0 -> ∀ {s : Sg} {l : Heap}, RenX σ0 H s l -> (∀ b c x, nth s b = some (some c) -> nth l b = some x -> ∃ b', nth s0 b' = some (some c) /\ nth l0 b' = some x) -> RenH σ0 (backH σ0 s0 l0 0 H) s l
 | s0, l0, ho, h0, [], [], _, _ => trivial
 | s0, l0, ho, h0, some c :: s, x :: l, h, hi => by
  refine ⟨?_, RenX.ren ho h0 h.2 (fun b c' x' h1 h2 => hi (b + 1) c' x' h1 h2)⟩
  obtain ⟨y, hy, _⟩ := h.1
  obtain ⟨b', k1, k2⟩ := hi 0 c x rfl rfl
  rw [backH_nth, hy, Nat.zero_add]
  simp only [Option.map]
  rw [backB_at ho h0 k1 k2]
 | s0, l0, ho, h0, none :: s, x :: l, h, hi => ⟨h.1, RenX.ren ho h0 h.2 (fun b c' x' h1 h2 => hi (b + 1) c' x' h1 h2)⟩
 | _, _, _, _, [], _ :: _, h, _ => h.elim
 | _, _, _, _, some _ :: _, [], h, _ => h.elim
 | _, _, _, _, none :: _, [], h, _ => h.elim
theorem RenX.back {σ : Sg} {H H' : Heap} (ho : onceS σ = true) (h : RenX σ H σ H') : RenH σ (backH σ σ H' 0 H) σ H' :=
 RenX.ren ho h h fun b c x h1 h2 => ⟨b, h1, h2⟩
mutual
def Plain : V -> Prop
 | .ptr .. | .slice .. | .map _ => False
 | .func _ a c => Plains a /\ Plains c
 | .iface _ v => Plain v
 | .agg _ ps => Plains ps
 | .arr _ n f => ∀ i, i < n -> Plain (f i)
 | .tup vs => Plains vs
 | _ => True
def Plains : List V -> Prop
 | [] => True
 | v :: l => Plain v /\ Plains l
end
mutual
theorem plain_conc {ρ ρ' : Rho} : ∀ (v : V), Plain v -> conc ρ' v = conc ρ v
 | .ptr .., h | .slice .., h | .map _, h => h.elim
 | .func _ x c, h => by simp only [conc, plains_vals (ρ := ρ) (ρ' := ρ') x h.1, plains_vals (ρ := ρ) (ρ' := ρ') c h.2]
 | .iface _ v, h => by simp only [conc, plain_conc (ρ := ρ) (ρ' := ρ') v h]
 | .agg t ps, h => by simp only [conc, plains_concs (ρ := ρ) (ρ' := ρ') ps h]
 | .arr t n f, h => by
  simp only [conc]
  congr 2
  rw [List.flatMap_def, List.flatMap_def]; congr 1
  apply List.map_congr_left
  intro i hi
  rw [plain_conc (ρ := ρ) (ρ' := ρ') (f i) (h i (List.mem_range.1 hi))]
 | .tup vs, h => by simp only [conc, plains_vals (ρ := ρ) (ρ' := ρ') vs h]
 | .bool _, _ | .int _ _, _ | .str _, _ | .nilp, _ | .nils, _ | .nilf, _ | .nili, _ | .nilm, _ => by simp only [conc]
theorem plains_concs {ρ ρ' : Rho} : ∀ (l : List V), Plains l -> concs ρ' l = concs ρ l
 | [], _ => rfl
 | v :: l, h => by simp only [concs, plain_conc (ρ := ρ) (ρ' := ρ') v h.1, plains_concs (ρ := ρ) (ρ' := ρ') l h.2]
theorem plains_vals {ρ ρ' : Rho} : ∀ (l : List V), Plains l -> vals ρ' l = vals ρ l
 | [], _ => rfl
 | v :: l, h => by simp only [vals, plain_conc (ρ := ρ) (ρ' := ρ') v h.1, plains_vals (ρ := ρ) (ρ' := ρ') l h.2]
end
mutual
theorem plain_wf {P : Program} {H H' : Heap} : ∀ (v : V), Plain v -> Wf P H v -> Wf P H' v
 | .ptr .., h, _ | .slice .., h, _ | .map _, h, _ => h.elim
 | .func _ x c, h, w => ⟨plains_wfs x h.1 w.1, plains_wfs c h.2 w.2⟩
 | .iface _ v, h, w => plain_wf v h w
 | .agg t ps, h, w => ⟨w.1, plains_wfs ps h w.2⟩
 | .arr t n f, h, w => ⟨w.1, fun i hi => plain_wf (f i) (h i hi) (w.2 i hi)⟩
 | .tup vs, h, w => plains_wfs vs h w
 | .bool _, _, _ | .int _ _, _, _ | .str _, _, _ | .nilp, _, _ | .nils, _, _ | .nilf, _, _ | .nili, _, _ | .nilm, _, _ => trivial
theorem plains_wfs {P : Program} {H H' : Heap} : ∀ (l : List V), Plains l -> Wfs P H l -> Wfs P H' l
 | [], _, _ => trivial
 | v :: l, h, w => ⟨plain_wf v h.1 w.1, plains_wfs l h.2 w.2⟩
end
structure Grew (w w' : World) : Prop where
 os : w'.os = w.os
 tape : w'.tape = w.tape
 output : w'.output = w.output
 size : w.heap.size <= w'.heap.size
 keep : ∀ r, r < w.heap.size -> w'.heap[r]? = w.heap[r]?
theorem Grew.below {w w' : World} (h : Grew w w') : Below w.heap.size w w' := ⟨h.os, h.tape, h.output, h.size, h.keep⟩
theorem BlkRel.grew {P : Program} {ρ : Rho} {w w' : World} {b : Nat} {t : TypeId} {B : Blk} (h : BlkRel P ρ w b t B) (hb : B.live = true -> w'.heap[ρ.π b]? = w.heap[ρ.π b]?) : BlkRel P ρ w' b t B := by
 cases B with
 | row rw n f =>
  obtain ⟨cs, t', fr, h1, h2⟩ := h
  exact ⟨cs, t', fr, by rw [hb rfl]; exact h1, h2⟩
 | mp es =>
  obtain ⟨es', c, h1, h2⟩ := h
  exact ⟨es', c, by rw [hb rfl]; exact h1, h2⟩
 | free => trivial
 | gone => trivial
theorem HRel.grew {P : Program} {ρ : Rho} {H : Heap} {w w' : World} (h : HRel P ρ H w) (g : Grew w w') : HRel P ρ H w' :=
 ⟨fun b t B hb hν => (h.blk b t B hb hν).grew (fun hl => g.keep _ (h.lt b t B hb hl hν)), h.inj, fun b t B hb hl hν => Nat.lt_of_lt_of_le (h.lt b t B hb hl hν) g.size, h.nul, h.wf, h.wfm⟩
theorem Grew.step {P : Program} {ρ : Rho} {H : Heap} {w w' : World} (h : HRel P ρ H w) (g : Grew w w') : Step P ρ H w ρ H w' :=
 ⟨h.grew g, .refl H, .refl H ρ, g.os, g.tape, g.output, g.size, fun r hr _ => g.keep r hr, fun b t B hb hm => .inl ⟨b, t, B, hb, hm, rfl⟩⟩
def NoMut (H : Heap) : Prop := ∀ b t B, nth H b = some (t, B) -> B.mut = false
theorem Step.grew {P : Program} {ρ ρ' : Rho} {H H' : Heap} {w w' : World} (hn : NoMut H) (s : Step P ρ H w ρ' H' w') : Grew w w' :=
 ⟨s.os, s.tape, s.output, s.size, fun r hr => s.keep r hr (fun b t B hb hm => by rw [hn b t B hb] at hm; cases hm)⟩
def retV (rs : List ResultVar) (Q : V -> Heap -> Prop) (E : Env) (H : Heap) : Prop :=
 match resV rs E H with
 | some us => Leaf (Q (oneV us) H)
 | none => False
structure Sem (P : Program) (Γ : List (Nat × Con)) (n0 : Nat) (R : Env -> Heap -> Prop) (S : List It -> Env -> Heap -> Prop) : Prop where
 cut : ∀ k E E' H m, n0 <= m -> (∀ t v, lk E' t = some v -> lk E t = some v) -> LowE m E' -> LowH m (cutH m H) -> S k E' (cutH m H) -> S k E H
 run : ∀ U n k E H, run Γ U S R n k E [] H -> S k E H
 weak : ∀ k E E' H, (∀ t v, lk E' t = some v -> lk E t = some v) -> S k E' H -> S k E H
 same : ∀ k E H H', SameH H H' -> S k E H' -> S k E H
 ren : ∀ k E E' H H' (σ : Sg), idS n0 0 σ = true -> onceS σ = true -> RenH σ H σ H' -> okH σ H' H' -> (∀ t v, lk E' t = some v -> renOk σ H' v /\ lk E t = some (Dd.ren σ v)) -> S k E' H' -> S k E H
theorem semT_sem {C : Cx} (hf : C.P.funcs[C.f]? = some C.fn) {Γ : List (Nat × Con)} (hΓ : Known C.P Γ) {R : Env -> Heap -> Prop} (hR : ∀ E H, R E H -> RetT C E H) : Sem C.P Γ C.H.length R (SemT C) where
 cut := fun k E E' H m hm hE hlE hlH h => semT_cut hm hE hlE hlH h
 run := fun U n k E H h => run_sound hf hΓ U n k E [] H (fun t b hb => by simp [lk] at hb) (run_mono (fun _ _ _ h => h) hR n k E [] H h)
 same := fun k E H H' h1 h => semT_same h1 h
 ren := fun k E E' H H' σ h1 h2 h3 h4 h5 h => semT_ren h1 h2 h3 h4 h5 h
 weak := fun k E E' H hE h ρ w a b todo cs hb hk ht hs => h ρ w a b todo cs hb hk ht ⟨hs.step, fun t v hv => hs.env t v (hE t v hv), hs.size, hs.defers⟩
theorem calls_of_run {P : Program} {f : FuncId} {ir : IR} {np : Nat} {rs : List ResultVar} (hf : Fn P f ir np rs) {Γ : List (Nat × Con)} (hΓ : Known P Γ) {ρ : Rho} {H : Heap} {w : World} {vs : List V} (hR : HRel P ρ H w) (hw : Wfs P H vs)
 (hn : vs.length <= np) {Q : V -> Heap -> Prop} {U : Nat -> Bool} {n : Nat} (h : ∀ S, Sem P Γ H.length (retV rs Q) S -> run Γ U S (retV rs Q) n [.code ir] (argsE 0 vs) [] H) :
 Calls P f (vals ρ vs).toArray w fun e w' => ∃ ρ' H' v, e = .returned (conc ρ' v) /\ Step P ρ H w ρ' H' w' /\ Wf P H' v /\ Q v H' := by
 obtain ⟨fn, code, h1, h2, h3, h4, h5, h6⟩ := hf.ex
 let C : Cx := ⟨P, f, fn, ρ, H, w, fun e w' => ∃ ρ' H' v, e = .returned (conc ρ' v) /\ Step P ρ H w ρ' H' w' /\ Wf P H' v /\ Q v H'⟩
 have hret : ∀ E H', retV rs Q E H' -> RetT C E H' := by
  intro E H' hr ρ' w' a hs
  unfold retV at hr
  split at hr
  ·rename_i us hus
   obtain ⟨k1, k2⟩ := resV_run hs.env hs.step.rel rs us hf.tys hus
   rw [← h4] at k2
   have k3 := array_mapM fn a.tmps k2
   have key : (if h : (vals ρ' us).toArray.size = 1 then (vals ρ' us).toArray[0] else .tuple (vals ρ' us).toArray) = conc ρ' (oneV us) /\ Wf P H' (oneV us) := by
    match us, k1 with
    | [], _ => exact ⟨by simp [vals, oneV, conc], trivial⟩
    | [v], k1 => exact ⟨by simp [vals, oneV], k1.1⟩
    | u :: v :: l, k1 => exact ⟨by simp [vals, oneV, conc], k1⟩
   refine ⟨conc ρ' (oneV us), ?_, ρ', H', oneV us, rfl, hs.step, key.2, hr.out⟩
   show (results fn a.tmps).run P w' = _
   rw [k3, key.1]
  ·exact hr.elim
 have hsem : Sem P Γ H.length (retV rs Q) (SemT C) := semT_sem (C := C) h1 hΓ hret
 have hst := hsem.run U n _ _ _ (h (SemT C) hsem)
 intro cs
 let b : Frame := { (default : Frame) with fn := f, kind := .normal }
 have henter : Frame.enter P f (vals ρ vs).toArray .normal = b.at { tmps := (vals ρ vs).toArray ++ Array.replicate (fn.ntmps - (vals ρ vs).toArray.size) undef, defers := [] } [.code code] := by
  simp [Frame.enter, Frame.at, h1, h2, b]
 have hlen : (vals ρ vs).length = vs.length := by simp [vals_map]
 obtain ⟨e, w', fr, r1, r2, r3, r4⟩ := hst ρ w { tmps := (vals ρ vs).toArray ++ Array.replicate (fn.ntmps - (vals ρ vs).toArray.size) undef, defers := [] } b [.code code] cs rfl rfl (.cons (.code h3) .nil)
  ⟨Step.refl hR, fun t v hv => by
   obtain ⟨_, k2⟩ := lk_argsE 0 vs t v hv
   rw [Nat.sub_zero] at k2
   refine ⟨Wfs_mem.1 hw v (List.mem_of_getElem? k2), ?_⟩
   have ht : t < vs.length := (List.getElem?_eq_some_iff.1 k2).1
   rw [Array.getElem?_append, if_pos (by simp [hlen, ht])]
   simp [vals_map, k2], by simp [hlen]; show vs.length + (fn.ntmps - vs.length) = fn.ntmps; omega, rfl⟩
 rw [← henter] at r2
 exact ⟨e, w', fr, r1, r2, r3, r4⟩
theorem spec_read {P : Program} {f : FuncId} {ir : IR} {np : Nat} {rs : List ResultVar} (hf : Fn P f ir np rs) {Γ : List (Nat × Con)} (hΓ : Known P Γ) {F : List V -> Heap -> Option (Pre × V)} (U : Nat -> Bool) (n : Nat)
 (h : ∀ vs H p v, F vs H = some (p, v) -> Pre.ok p -> ∀ ρ w, HRel P ρ H w -> Wfs P H vs -> ∃ ρs Hs us, HRel P ρs Hs w /\ NoMut Hs /\ vals ρs us = vals ρ vs /\ Wfs P Hs us /\ Plain v /\ us.length <= np /\
  ∀ S, Sem P Γ Hs.length (retV rs fun u _ => u = v) S -> run Γ U S (retV rs fun u _ => u = v) n [.code ir] (argsE 0 us) [] Hs) :
 Spec P f (Con.read F).d := by
 refine ⟨hf.enters, fun vs H p v H' hd hp ρ w hR hw => ?_⟩
 simp only [Con.d, Option.map_eq_some_iff] at hd
 obtain ⟨⟨p', v'⟩, hF, he⟩ := hd
 simp only [Prod.mk.injEq] at he
 obtain ⟨rfl, rfl, rfl⟩ := he
 obtain ⟨ρs, Hs, us, h1, h2, h3, h4, h5, h6, h7⟩ := h vs _ _ _ hF hp ρ w hR hw
 rw [← h3]
 refine (calls_of_run hf hΓ h1 h4 h6 h7).mono ?_
 rintro e w' ⟨ρ', H', u, rfl, hst, hwf, rfl⟩
 have hg := hst.grew h2
 exact ⟨ρ, by rw [plain_conc (ρ := ρ) (ρ' := ρ') u h5], hg.step hR, plain_wf u h5 hwf⟩
theorem cond_t {α : Type} {c : Bool} {x y : α} (h : c = true) : (bif c then x else y) = x := by rw [h]; rfl
theorem cond_f {α : Type} {c : Bool} {x y : α} (h : c = false) : (bif c then x else y) = y := by rw [h]; rfl
theorem br {α : Type} {c : Bool} {F X Y : α} {P Q : Prop} (e : F = bif c then X else Y) (h1 : c = true -> F = X -> P) (h2 : c = false -> F = Y -> Q) : (c = true -> P) /\ (c = false -> Q) :=
 ⟨fun h => h1 h (e.trans (cond_t h)), fun h => h2 h (e.trans (cond_f h))⟩
theorem brf {α : Type} {c : Bool} {F X Y : α} {P Q : Prop} (e : F = bif c then X else Y) (h1 : c = false -> F = Y -> P) (h2 : c = true -> F = X -> Q) : (c = false -> P) /\ (c = true -> Q) :=
 ⟨fun h => h1 h (e.trans (cond_f h)), fun h => h2 h (e.trans (cond_t h))⟩
def Con.isInl : Con -> Bool
 | .inl .. => true
 | _ => false
theorem known_nil {P : Program} : Known P [] := ⟨fun f c h => by simp [lk] at h, fun f ir np rs h => by simp [lk] at h⟩
theorem known_x {P : Program} {f : Nat} {c : Con} {Γ : List (Nat × Con)} (h : SpecX P f c.d) (hi : c.isInl = false) (hΓ : Known P Γ) : Known P ((f, c) :: Γ) := by
 refine ⟨fun g d hg => ?_, fun g ir np rs hg => ?_⟩ <;> rw [lk_cons] at hg <;> by_cases e : f = g
 ·subst e; rw [if_pos rfl] at hg; cases hg; exact h
 ·rw [if_neg e] at hg; exact hΓ.1 g d hg
 ·subst e; rw [if_pos rfl] at hg; cases hg; cases hi
 ·rw [if_neg e] at hg; exact hΓ.2 g ir np rs hg
theorem known_ext {P : Program} {f : Nat} {c : Con} {Γ : List (Nat × Con)} (h : ExtOf P f c.d) (hΓ : Known P Γ) (hi : c.isInl = false := by rfl) : Known P ((f, c) :: Γ) := known_x (.inr h) hi hΓ
theorem known_cons {P : Program} {f : Nat} {c : Con} {Γ : List (Nat × Con)} (h : Spec P f c.d) (hΓ : Known P Γ) (hi : c.isInl = false := by rfl) : Known P ((f, c) :: Γ) := known_x (.inl h) hi hΓ
theorem known_inl {P : Program} {f : Nat} {ir : IR} {np : Nat} {rs : List ResultVar} {Γ : List (Nat × Con)} (h : Fn P f ir np rs) (hΓ : Known P Γ) : Known P ((f, .inl ir np rs) :: Γ) := by
 refine ⟨fun g d hg => ?_, fun g ir' np' rs' hg => ?_⟩ <;> rw [lk_cons] at hg <;> by_cases e : f = g
 ·subst e; rw [if_pos rfl] at hg; cases hg; exact .inl ⟨h.enters, fun vs H p v H' hd => by cases hd⟩
 ·rw [if_neg e] at hg; exact hΓ.1 g d hg
 ·subst e; rw [if_pos rfl] at hg; cases hg; exact h
 ·rw [if_neg e] at hg; exact hΓ.2 g ir' np' rs' hg
@[reducible] def mnI (a b : Int) : Int := if b < a then b else a
@[reducible] def mxI (a b : Int) : Int := if b > a then b else a
def dB : V -> Option Bool
 | .bool b => some b
 | _ => none
theorem dB_eq {v : V} {b : Bool} (h : dB v = some b) : v = .bool b := by
 unfold dB at h; split at h <;> cases h; rfl
def dI (k : IntKind) : V -> Option Int
 | .int k' n => bif kb k' k then some n else none
 | _ => none
theorem dI_eq {k : IntKind} {v : V} {n : Int} (h : dI k v = some n) : v = .int k n := by
 unfold dI at h
 split at h
 ·rename_i k' m
  cases e : kb k' k <;> simp only [e, cond_true, cond_false] at h
  ·cases h
  ·cases h; rw [kb_eq e]
 ·cases h
@[irreducible] def Ran (Γ : List (Nat × Con)) (U : Nat -> Bool) (S : List It -> Env -> Heap -> Prop) (R : Env -> Heap -> Prop) (n : Nat) (k : List It) (E : Env) (H : Heap) : Prop := run Γ U S R n k E [] H
theorem Ran.out {Γ : List (Nat × Con)} {U : Nat -> Bool} {S : List It -> Env -> Heap -> Prop} {R : Env -> Heap -> Prop} {n : Nat} {k : List It} {E : Env} {H : Heap} (h : Ran Γ U S R n k E H) : run Γ U S R n k E [] H := by
 unfold Ran at h; exact h
theorem Sem.seg {P : Program} {Γ : List (Nat × Con)} {n0 : Nat} {R : Env -> Heap -> Prop} {S : List It -> Env -> Heap -> Prop} (hS : Sem P Γ n0 R S) (live : Nat -> List Nat) (m : Nat -> Nat) {U : Nat -> Bool} {n : Nat} {k : List It} {E : Env} {H : Heap}
 (h : Ran Γ U (cutS n0 live m S) R n k E H) : S k E H :=
 hS.run U n k E H (run_mono (fun k E H h => hS.cut k E _ H _ (Nat.le_of_ble_eq_true h.1) (fun t v => cutE_lk) h.2.1 h.2.2.1 h.2.2.2) (fun _ _ h => h) n k E [] H h.out)
theorem Ran.cut {P : Program} {Γ : List (Nat × Con)} {n0 : Nat} {R : Env -> Heap -> Prop} {S : List It -> Env -> Heap -> Prop} (hS : Sem P Γ n0 R S) (live : Nat -> List Nat) (m : Nat -> Nat) {U : Nat -> Bool} {n : Nat} {k : List It} {E : Env} {H : Heap}
 (h : Ran Γ U (cutS n0 live m S) R n k E H) : Ran Γ U S R n k E H := by
 unfold Ran
 exact run_mono (fun k E H h => hS.cut k E _ H _ (Nat.le_of_ble_eq_true h.1) (fun t v => cutE_lk) h.2.1 h.2.2.1 h.2.2.2) (fun _ _ h => h) n k E [] H h.out
theorem S_of {S : List It -> Env -> Heap -> Prop} {k : List It} {E E' : Env} {H H' : Heap} (hE : E' = E) (hH : H' = H) (h : S k E H) : S k E' H' := by subst hE; subst hH; exact h
theorem plains_nil : Plains [] := trivial
theorem plains_cons {v : V} {l : List V} (h : Plain v) (hl : Plains l) : Plains (v :: l) := ⟨h, hl⟩
theorem plain_int {k : IntKind} {n : Int} : Plain (.int k n) := trivial
theorem plain_bool {b : Bool} : Plain (.bool b) := trivial
theorem spec_pure2 {P : Program} {f : FuncId} {ir : IR} {np : Nat} {rs : List ResultVar} (hf : Fn P f ir np rs) {Γ : List (Nat × Con)} (hΓ : Known P Γ) {F : List V -> Option (Pre × V)} (U : Nat -> Bool) (n : Nat)
 (h : ∀ vs p v, F vs = some (p, v) -> Pre.ok p -> ∃ us, (∀ ρ, vals ρ us = vals ρ vs) /\ (∀ H, Wfs P H vs -> Wfs P H us) /\ Plains us /\ Plain v /\ us.length <= np /\ ∀ S, Sem P Γ 0 (retV rs fun u _ => u = v) S -> Ran Γ U S (retV rs fun u _ => u = v) n [.code ir] (argsE 0 us) []) :
 Spec P f (Con.pure F).d := by
 refine ⟨hf.enters, fun vs H p v H' hd hp ρ w hR hw => ?_⟩
 simp only [Con.d, Option.map_eq_some_iff] at hd
 obtain ⟨⟨p', v'⟩, hF, he⟩ := hd
 simp only [Prod.mk.injEq] at he
 obtain ⟨rfl, rfl, rfl⟩ := he
 obtain ⟨us, h0, h0', h1, h2, h3, h4⟩ := h vs _ _ hF hp
 have hR0 : HRel P ρ [] w := ⟨fun b t B hb => by simp [nth] at hb, fun b c tb tc B C hb => by simp [nth] at hb, fun b t B hb => by simp [nth] at hb, fun b t B hb => by simp [nth] at hb, fun b t r n f hb => by simp [nth] at hb, fun b t es hb => by simp [nth] at hb⟩
 rw [← h0]
 refine (calls_of_run hf hΓ hR0 (plains_wfs us h1 (h0' H hw)) h3 (fun S hS => (h4 S hS).out)).mono ?_
 rintro e w' ⟨ρ', H', u, rfl, hst, hwf, rfl⟩
 have hg := hst.grew (fun b t B hb => by simp [nth] at hb)
 exact ⟨ρ, by rw [plain_conc (ρ := ρ) (ρ' := ρ') u h2], hg.step hR, plain_wf u h2 hwf⟩
structure Eqv (v w : V) : Prop where
 conc : ∀ ρ, conc ρ v = conc ρ w
 fit : ∀ P t, Fit P v t -> Fit P w t
 wf : ∀ P H, Wf P H v -> Wf P H w
theorem Eqv.refl (v : V) : Eqv v v := ⟨fun _ => rfl, fun _ _ h => h, fun _ _ h => h⟩
theorem Eqv.of {v w : V} (h : v = w) : Eqv v w := by subst h; exact .refl v
theorem Eqv.arr {t n : Nat} {f g : Nat -> V} (h : ∀ i, i < n -> f i = g i) : Eqv (.arr t n f) (.arr t n g) := by
 have hf : ∀ P t', Fit P (.arr t n f) t' -> Fit P (.arr t n g) t' := fun P t' hF => by
  simp only [Fit] at hF ⊢
  obtain ⟨h1, e, h2, h3, h4⟩ := hF
  exact ⟨h1, e, h2, h3, fun i hi => by rw [← h i hi]; exact h4 i hi⟩
 refine ⟨fun ρ => ?_, hf, fun P H hw => ⟨hf _ _ hw.1, fun i hi => by rw [← h i hi]; exact hw.2 i hi⟩⟩
 simp only [Dd.conc]
 congr 2
 rw [List.flatMap_def, List.flatMap_def]; congr 1
 apply List.map_congr_left
 intro i hi
 rw [h i (List.mem_range.1 hi)]
inductive Eqvs : List V -> List V -> Prop where
 | nil : Eqvs [] []
 | cons {v w : V} {l m : List V} : Eqv v w -> Eqvs l m -> Eqvs (v :: l) (w :: m)
theorem Eqvs.concs {l m : List V} (h : Eqvs l m) (ρ : Rho) : concs ρ l = concs ρ m := by
 induction h with
 | nil => rfl
 | cons h _ ih => simp only [Dd.concs, h.conc ρ, ih]
theorem Eqvs.vals {l m : List V} (h : Eqvs l m) (ρ : Rho) : vals ρ l = vals ρ m := by
 induction h with
 | nil => rfl
 | cons h _ ih => simp only [Dd.vals, h.conc ρ, ih]
theorem Eqvs.fits {P : Program} {l m : List V} (h : Eqvs l m) : ∀ (fs : List Field) (o s : Nat), Fits P l fs o s -> Fits P m fs o s := by
 induction h with
 | nil => intro fs o s h; exact h
 | cons h _ ih =>
  intro fs o s hF
  cases fs with
  | nil => simp only [Fits] at hF
  | cons f fs => exact ⟨hF.1, h.fit _ _ hF.2.1, ih _ _ _ hF.2.2⟩
theorem Eqvs.wfs {P : Program} {H : Heap} {l m : List V} (h : Eqvs l m) (hw : Wfs P H l) : Wfs P H m := by
 induction h with
 | nil => trivial
 | cons h _ ih => exact ⟨h.wf _ _ hw.1, ih hw.2⟩
theorem Eqv.agg {t : Nat} {l m : List V} (h : Eqvs l m) : Eqv (.agg t l) (.agg t m) := by
 have hf : ∀ P t', Fit P (.agg t l) t' -> Fit P (.agg t m) t' := fun P t' hF => by
  simp only [Fit] at hF ⊢
  obtain ⟨h1, fs, h2, h3⟩ := hF
  exact ⟨h1, fs, h2, h.fits _ _ _ h3⟩
 exact ⟨fun ρ => by simp only [Dd.conc, h.concs ρ], hf, fun P H hw => ⟨hf _ _ hw.1, h.wfs hw.2⟩⟩
def dArr {α : Type} [Inhabited α] (t n : Nat) (d : V -> Option α) : V -> Option (Nat -> α)
 | .arr t' n' f => bif Nat.beq t' t && Nat.beq n' n && (List.range n).all (fun i => (d (f i)).isSome) then some (fun i => (d (f i)).getD default) else none
 | _ => none
theorem dArr_eqv {α : Type} [Inhabited α] {t n : Nat} {d : V -> Option α} {e : α -> V} (hd : ∀ v a, d v = some a -> v = e a) {v : V} {g : Nat -> α} (h : dArr t n d v = some g) : Eqv v (.arr t n (fun i => e (g i))) := by
 unfold dArr at h
 split at h
 ·rename_i t' n' f
  cases hc : (Nat.beq t' t && Nat.beq n' n && (List.range n).all fun i => (d (f i)).isSome) <;> simp only [hc, cond_true, cond_false] at h
  ·cases h
  ·simp only [Bool.and_eq_true] at hc
   obtain ⟨⟨h1, h2⟩, h3⟩ := hc
   obtain rfl := beq_eq h1
   obtain rfl := beq_eq h2
   cases h
   refine Eqv.arr fun i hi => ?_
   have h4 := List.all_eq_true.1 h3 i (List.mem_range.2 hi)
   obtain ⟨a, ha⟩ := Option.isSome_iff_exists.1 h4
   show f i = e ((d (f i)).getD default)
   rw [ha]; exact hd _ _ ha
 ·cases h
theorem Fn.mk' {P : Program} {f : FuncId} {ir : IR} {np : Nat} {rs : List ResultVar} {fn : Func} {code : Code} (h1 : P.funcs[f]? = some fn) (h2 : fn.body = some code) (h3 : compCode P fn.ntmps code = some ir) (h4 : fn.results.toList = rs) (h5 : Nat.ble np fn.ntmps = true) (h6 : (fn.name == "runtime.NumGoroutine") = false) (h7 : (resTys rs).all (tyOk P) = true) : Fn P f ir np rs :=
 ⟨⟨fn, code, h1, h2, h3, h4, Nat.le_of_ble_eq_true h5, h6⟩, h7⟩
theorem Fn.mk2 {P : Program} {f : FuncId} {ir : IR} {np : Nat} {rs : List ResultVar} {fn : Func} {code : Code} (h1 : P.funcs[f]? = some fn) (h2 : fn.body = some code := by kernel_rfl) (h3 : compCode P fn.ntmps code = some ir := by kernel_rfl) (h4 : fn.results.toList = rs := by kernel_rfl) (h5 : Nat.ble np fn.ntmps = true := by kernel_rfl) (h6 : (fn.name == "runtime.NumGoroutine") = false := by kernel_rfl) (h7 : (resTys rs).all (tyOk P) = true := by kernel_rfl) : Fn P f ir np rs :=
 Fn.mk' h1 h2 h3 h4 h5 h6 h7
structure View where
 π : Nat
 κ : Nat
 δ : Nat
 ν : Bool
 ε : Option Addr × Nat
 t : TypeId
 n : Nat
 f : Nat -> V
def hOf : List View -> Heap
 | [] => []
 | v :: l => (v.t, .row false v.n v.f) :: hOf l
def pick {α : Type} (d : α) (g : View -> α) : List View -> Nat -> α
 | [], _ => d
 | v :: _, 0 => g v
 | _ :: l, i + 1 => pick d g l i
def rOf (l : List View) : Rho := ⟨pick 0 View.π l, pick 0 View.κ l, pick 0 View.δ l, pick false View.ν l, pick (none, 0) View.ε l⟩
structure ViewOk (P : Program) (w : World) (v : View) : Prop where
 nul : v.ν = true -> v.n = 0
 real : v.ν = false -> ∃ (cs : List Value) (t' : TypeId) (fr : Nat × Nat), w.heap[v.π]? = some (.cells cs.toArray t' fr) /\ v.n <= v.κ /\ v.δ + v.κ * P.cellsOf v.t <= cs.length /\
  ∀ j, j < v.n -> Fit P (v.f j) v.t /\ ∀ ρ, seg cs (v.δ + j * P.cellsOf v.t) (P.cellsOf v.t) = cl ρ (v.f j)
 plain : ∀ j, j < v.n -> Plain (v.f j)
 wf : ∀ j, j < v.n -> Wf P [] (v.f j)
theorem hOf_nth : ∀ {l : List View} {b : Nat} {t : TypeId} {B : Blk}, nth (hOf l) b = some (t, B) -> ∃ v ∈ l, t = v.t /\ B = .row false v.n v.f /\ ∀ (α : Type) (d : α) (g : View -> α), pick d g l b = g v
 | [], b, t, B, h => by simp [hOf, nth] at h
 | v :: l, 0, t, B, h => by
  simp [hOf, nth] at h
  obtain ⟨rfl, rfl⟩ := h
  exact ⟨v, by simp, rfl, rfl, fun α d g => rfl⟩
 | v :: l, b + 1, t, B, h => by
  obtain ⟨u, hu, h1, h2, h3⟩ := hOf_nth (l := l) (b := b) (by simpa [hOf, nth] using h)
  exact ⟨u, by simp [hu], h1, h2, fun α d g => h3 α d g⟩
theorem hrel_views {P : Program} {w : World} {l : List View} (h : ∀ v ∈ l, ViewOk P w v) : HRel P (rOf l) (hOf l) w := by
 refine ⟨?_, ?_, ?_, ?_, ?_, ?_⟩
 ·intro b t B hb hν
  obtain ⟨v, hv, rfl, rfl, hp⟩ := hOf_nth hb
  have hν : v.ν = false := by rw [← hp Bool false View.ν]; exact hν
  obtain ⟨cs, t', fr, h1, h2, h3, h4⟩ := (h v hv).real hν
  refine ⟨cs, t', fr, ?_, (fun h => by cases h), ?_, ?_, fun j hj => ⟨(h4 j hj).1, ?_⟩⟩
  ·show w.heap[pick 0 View.π l b]? = _
   rw [hp]; exact h1
  ·show v.n <= pick 0 View.κ l b
   rw [hp]; exact h2
  ·show pick 0 View.δ l b + pick 0 View.κ l b * _ <= _
   rw [hp, hp]; exact h3
  ·show seg cs (pick 0 View.δ l b + _) _ = _
   rw [hp]; exact (h4 j hj).2 _
 ·intro b c tb tc B C hb hc hm
  obtain ⟨v, hv, rfl, rfl, hp⟩ := hOf_nth hb
  cases hm
 ·intro b t B hb hl hν
  obtain ⟨v, hv, rfl, rfl, hp⟩ := hOf_nth hb
  have hν : v.ν = false := by rw [← hp Bool false View.ν]; exact hν
  obtain ⟨cs, t', fr, h1, _⟩ := (h v hv).real hν
  show pick 0 View.π l b < _
  rw [hp]
  exact (Array.getElem?_eq_some_iff.1 h1).1
 ·intro b t B hb hB hν
  obtain ⟨v, hv, rfl, rfl, hp⟩ := hOf_nth hb
  have hν : v.ν = true := by rw [← hp Bool false View.ν]; exact hν
  exact ⟨false, v.f, by rw [(h v hv).nul hν], fun h => by cases h⟩
 ·intro b t rw n f hb j hj
  obtain ⟨v, hv, rfl, hB, hp⟩ := hOf_nth hb
  cases hB
  exact plain_wf _ ((h v hv).plain j hj) ((h v hv).wf j hj)
 ·intro b t es hb
  obtain ⟨v, hv, rfl, hB, hp⟩ := hOf_nth hb
  cases hB
theorem nomut_views (l : List View) : NoMut (hOf l) := fun b t B hb => by
 obtain ⟨v, hv, rfl, rfl, hp⟩ := hOf_nth hb
 rfl
def sl {α : Type} [Inhabited α] (d : V -> Option α) (t : Nat) (H : Heap) : V -> Option (Pre × Nat × (Nat -> α))
 | .nils => some (some True, 0, fun _ => default)
 | .slice b _ _ [] st n none t' => match nth H b with
  | some (t'', .row _ _ f) => bif Nat.beq t t' && Nat.beq t t'' then some (some (∀ i, i < n -> (d (f (i + st))).isSome = true), n, fun i => (d (f (i + st))).getD default) else none
  | _ => none
 | _ => none
theorem sl_view2 {α : Type} [Inhabited α] {P : Program} {ρ : Rho} {H : Heap} {w : World} {d : V -> Option α} {e : α -> V} {t : Nat} {x : V} {p : Pre} {n : Nat} {g : Nat -> α} (he : ∀ v a, d v = some a -> v = e a) (hpl : ∀ a, Plain (e a)) (h : sl d t H x = some (p, n, g)) (hp : Pre.ok p)
 (hR : HRel P ρ H w) (hw : Wf P H x) :
 ∃ v : View, ViewOk P w v /\ v.t = t /\ v.n = n /\ v.f = (fun i => e (g i)) /\ conc ρ x = (bif v.ν then .slice v.ε.1 0 v.ε.2 else .slice (some ⟨v.π, v.δ, none⟩) n v.κ) /\ (v.ν = false -> v.n ≠ 0) := by
 unfold sl at h
 split at h
 ·cases h
  exact ⟨⟨0, 0, 0, true, (none, 0), t, 0, fun _ => e default⟩, ⟨fun _ => rfl, fun h => (by cases h), fun j hj => hpl _, fun j (hj : j < 0) => by omega⟩, rfl, rfl, rfl, by simp [conc], fun h => by cases h⟩
 ·rename_i b bs off st n' t'
  split at h
  ·rename_i t'' rw m f hb
   cases hc : (Nat.beq t t' && Nat.beq t t'') <;> simp only [hc, cond_true, cond_false] at h
   ·cases h
   ·rw [Bool.and_eq_true] at hc
    obtain rfl := beq_eq hc.1
    obtain rfl := beq_eq hc.2
    cases h
    have hd : ∀ i, i < n -> (d (f (i + st))).isSome = true := hp
    have hfe : ∀ i, i < n -> f (i + st) = e ((d (f (i + st))).getD default) := fun i hi => by
     obtain ⟨a, ha⟩ := Option.isSome_iff_exists.1 (hd i hi)
     rw [ha]; exact he _ _ ha
    by_cases h0 : n = 0
    ·subst h0
     have e1 : ∃ ad cp, conc ρ (.slice b bs off [] st 0 none t) = .slice ad 0 cp := by
      simp only [conc]
      cases ρ.ν b
      ·exact ⟨_, _, rfl⟩
      ·exact ⟨_, _, rfl⟩
     obtain ⟨ad, cp, e1⟩ := e1
     exact ⟨⟨0, 0, 0, true, (ad, cp), t, 0, fun i => e ((d (f (i + st))).getD default)⟩, ⟨fun _ => rfl, fun h => (by cases h), fun j hj => hpl _, fun j (hj : j < 0) => by omega⟩, rfl, rfl, rfl, by rw [e1]; rfl, fun h => by cases h⟩
    ·have hν : ρ.ν b = false := by
      cases hν : ρ.ν b
      ·rfl
      ·have := hR.sl_nul hw (by rw [hb]; rfl) hν; omega
     have hw' : slOk P t m bs off [] st n none t := by
      unfold Wf at hw; rw [hb] at hw; exact hw
     rcases hw' with ⟨_, _, _, hnm, _, hoff⟩ | ⟨i, p, o, T, m', c, h1, _⟩
     ·obtain ⟨cs, t', fr, h1, h2, h3, h4, h5⟩ := hR.blk b _ _ hb hν
      have hof : off (ρ.κ b) = st * P.cellsOf t := hoff (by omega) _ (by omega)
      refine ⟨⟨ρ.π b, ρ.κ b - st, ρ.δ b + off (ρ.κ b), false, (none, 0), t, n, fun i => e ((d (f (i + st))).getD default)⟩, ⟨fun hν => (by cases hν), fun _ => ?_, fun j hj => hpl _, fun j hj => ?_⟩, rfl, rfl, rfl, ?_, fun _ => h0⟩
      ·have hk : (ρ.κ b - st) * P.cellsOf t + st * P.cellsOf t = ρ.κ b * P.cellsOf t := by rw [← Nat.add_mul]; congr 1; omega
       refine ⟨cs, t', fr, h1, by show n <= ρ.κ b - st; omega, by show ρ.δ b + off (ρ.κ b) + (ρ.κ b - st) * P.cellsOf t <= cs.length; omega, fun j hj => ?_⟩
       obtain ⟨k1, k2⟩ := h5 (j + st) (by have : j < n := hj; omega)
       show Fit P (e ((d (f (j + st))).getD default)) t /\ ∀ ρ', seg cs (ρ.δ b + off (ρ.κ b) + j * P.cellsOf t) _ = cl ρ' (e ((d (f (j + st))).getD default))
       rw [← hfe j hj]
       refine ⟨k1, fun ρ' => ?_⟩
       have e2 : ρ.δ b + off (ρ.κ b) + j * P.cellsOf t = ρ.δ b + (j + st) * P.cellsOf t := by rw [hof, Nat.add_mul]; omega
       rw [e2, k2]
       simp only [cl]
       rw [plain_conc (ρ := ρ') (ρ' := ρ) (f (j + st)) (by rw [hfe j hj]; exact hpl _)]
      ·have := hR.wf b _ _ _ _ hb (j + st) (by have : j < n := hj; omega)
       rw [hfe j hj] at this
       exact plain_wf _ (hpl _) this
      ·simp [conc, hν]
     ·cases h1
  ·cases h
 ·cases h
theorem sl_view {α : Type} [Inhabited α] {P : Program} {ρ : Rho} {H : Heap} {w : World} {d : V -> Option α} {e : α -> V} {t : Nat} {x : V} {p : Pre} {n : Nat} {g : Nat -> α} (he : ∀ v a, d v = some a -> v = e a) (hpl : ∀ a, Plain (e a)) (h : sl d t H x = some (p, n, g)) (hp : Pre.ok p)
 (hR : HRel P ρ H w) (hw : Wf P H x) :
 ∃ v : View, ViewOk P w v /\ v.t = t /\ v.n = n /\ v.f = (fun i => e (g i)) /\ conc ρ x = (bif v.ν then .slice v.ε.1 0 v.ε.2 else .slice (some ⟨v.π, v.δ, none⟩) n v.κ) := by
 obtain ⟨v, h1, h2, h3, h4, h5, _⟩ := sl_view2 he hpl h hp hR hw
 exact ⟨v, h1, h2, h3, h4, h5⟩
theorem conc_slV {l : List View} {b n t : Nat} {v : View} (hp : ∀ (α : Type) (d : α) (g : View -> α), pick d g l b = g v) : conc (rOf l) (slV b n t) = (bif v.ν then .slice v.ε.1 0 v.ε.2 else .slice (some ⟨v.π, v.δ, none⟩) n v.κ) := by
 simp [slV, conc, rOf, hp]
theorem vals_cons {ρ ρ' : Rho} {v w : V} {l m : List V} (h : conc ρ v = conc ρ' w) (hl : vals ρ l = vals ρ' m) : vals ρ (v :: l) = vals ρ' (w :: m) := by
 simp only [vals, h, hl]
theorem wf_slV {P : Program} {H : Heap} {b n t : Nat} {rw : Bool} {f : Nat -> V} (hb : nth H b = some (t, .row rw n f)) : Wf P H (slV b n t) := by
 unfold slV Wf
 rw [hb]
 exact .inl ⟨rfl, rfl, rfl, by omega, by simp, by simp⟩
theorem spec_read2 {P : Program} {f : FuncId} {ir : IR} {np : Nat} {rs : List ResultVar} (hf : Fn P f ir np rs) {Γ : List (Nat × Con)} (hΓ : Known P Γ) {F : List V -> Heap -> Option (Pre × V)} (U : Nat -> Bool) (n : Nat)
 (h : ∀ vs H p v, F vs H = some (p, v) -> Pre.ok p -> ∀ ρ w, HRel P ρ H w -> Wfs P H vs -> ∃ (l : List View) (us : List V), (∀ x ∈ l, ViewOk P w x) /\ vals (rOf l) us = vals ρ vs /\ Wfs P (hOf l) us /\ Plain v /\ us.length <= np /\
  ∀ S, Sem P Γ l.length (retV rs fun u _ => u = v) S -> Ran Γ U S (retV rs fun u _ => u = v) n [.code ir] (argsE 0 us) (hOf l)) :
 Spec P f (Con.read F).d :=
 spec_read hf hΓ U n fun vs H p v hF hp ρ w hR hw => by
  obtain ⟨l, us, h1, h3, h4, h5, h6, h7⟩ := h vs H p v hF hp ρ w hR hw
  have hlen : ∀ l : List View, (hOf l).length = l.length := fun l => by
   induction l with
   | nil => rfl
   | cons a l ih => simp [hOf, ih]
  exact ⟨rOf l, hOf l, us, hrel_views h1, nomut_views l, h3, h4, h5, h6, fun S hS => (h7 S (by rw [← hlen l]; exact hS)).out⟩
theorem updF_is {p : V -> Bool} {f : Nat -> V} {k : Nat} {x : V} (hf : ∀ i, p (f i) = true) (hx : p x = true) (i : Nat) : p (updF f k x i) = true := by
 unfold updF
 cases Nat.beq i k
 ·exact hf i
 ·exact hx
theorem shiftS_at : ∀ (k n b : Nat), nth (shiftS n k) b = if b < k then some (some (n + b)) else none
 | 0, n, b => by simp [shiftS, nth]
 | k + 1, n, 0 => by simp [shiftS, nth]
 | k + 1, n, b + 1 => by
  simp only [shiftS, nth]
  rw [shiftS_at k (n + 1) b]
  by_cases h : b < k
  ·rw [if_pos h, if_pos (by omega)]; congr 2; omega
  ·rw [if_neg h, if_neg (by omega)]
def PlainB : TypeId × Blk -> Prop
 | (_, .row rw n f) => rw = true /\ ∀ j, j < n -> Plain (f j)
 | _ => False
mutual
theorem plain_renOk {σ : Sg} {H : Heap} : ∀ (v : V), Plain v -> renOk σ H v
 | .ptr .., h | .slice .., h | .map _, h => h.elim
 | .func _ a c, h => ⟨plains_rensOk a h.1, plains_rensOk c h.2⟩
 | .iface _ v, h => plain_renOk v h
 | .agg _ ps, h => plains_rensOk ps h
 | .arr _ n f, h => fun i hi => plain_renOk (f i) (h i hi)
 | .tup vs, h => plains_rensOk vs h
 | .bool _, _ | .int _ _, _ | .str _, _ | .nilp, _ | .nils, _ | .nilf, _ | .nili, _ | .nilm, _ => trivial
theorem plains_rensOk {σ : Sg} {H : Heap} : ∀ (l : List V), Plains l -> rensOk σ H l
 | [], _ => trivial
 | v :: l, h => ⟨plain_renOk v h.1, plains_rensOk l h.2⟩
end
def rhoF (ρ ρ2 : Rho) (n m : Nat) : Rho :=
  ⟨fun b => if b < n then ρ.π b else ρ2.π (b - n + m), fun b => if b < n then ρ.κ b else ρ2.κ (b - n + m), fun b => if b < n then ρ.δ b else ρ2.δ (b - n + m),
   fun b => if b < n then ρ.ν b else ρ2.ν (b - n + m), fun b => if b < n then ρ.ε b else ρ2.ε (b - n + m)⟩
theorem rhoF_new (ρ ρ2 : Rho) (n m i : Nat) : (rhoF ρ ρ2 n m).π (n + i) = ρ2.π (m + i) /\ (rhoF ρ ρ2 n m).κ (n + i) = ρ2.κ (m + i) /\ (rhoF ρ ρ2 n m).δ (n + i) = ρ2.δ (m + i) /\ (rhoF ρ ρ2 n m).ν (n + i) = ρ2.ν (m + i) /\ (rhoF ρ ρ2 n m).ε (n + i) = ρ2.ε (m + i) := by
 have h : ¬ (n + i < n) := by omega
 have e : n + i - n + m = m + i := by omega
 simp only [rhoF, if_neg h, e]; exact ⟨trivial, trivial, trivial, trivial, trivial⟩
theorem frame_fresh {P : Program} {ρ ρs ρ2 : Rho} {H Hs bl : Heap} {w w' : World} (hR : HRel P ρ H w) (s : Step P ρs Hs w ρ2 (Hs ++ bl) w') (hn : NoMut Hs) (hpl : ∀ x ∈ bl, PlainB x) : Step P ρ H w (rhoF ρ ρ2 H.length Hs.length) (H ++ bl) w' := by
 generalize hρ : rhoF ρ ρ2 H.length Hs.length = ρ3
 have o1 : ∀ b, b < H.length -> ρ3.π b = ρ.π b /\ ρ3.κ b = ρ.κ b /\ ρ3.δ b = ρ.δ b /\ ρ3.ν b = ρ.ν b /\ ρ3.ε b = ρ.ε b := fun b hb => by rw [← hρ]; simp [rhoF, hb]
 have n1 : ∀ i, ρ3.π (H.length + i) = ρ2.π (Hs.length + i) /\ ρ3.κ (H.length + i) = ρ2.κ (Hs.length + i) /\ ρ3.δ (H.length + i) = ρ2.δ (Hs.length + i) /\ ρ3.ν (H.length + i) = ρ2.ν (Hs.length + i) /\ ρ3.ε (H.length + i) = ρ2.ε (Hs.length + i) := fun i => by
  rw [← hρ]; exact rhoF_new ρ ρ2 _ _ i
 have hold : ∀ b x, nth (H ++ bl) b = some x -> (b < H.length /\ nth H b = some x) ∨ ∃ i, b = H.length + i /\ nth bl i = some x /\ nth (Hs ++ bl) (Hs.length + i) = some x := fun b x h => by
  rw [nth_append] at h
  split at h
  ·rename_i hb; exact .inl ⟨hb, h⟩
  ·rename_i hb
   refine .inr ⟨b - H.length, by omega, h, ?_⟩
   rw [nth_append, if_neg (by omega), Nat.add_sub_cancel_left]; exact h
 have hag : Agree H ρ ρ3 := fun b t B hb _ => o1 b (nth_lt hb)
 have hext : Ext H (H ++ bl) := fun b x hb => ⟨x, by rw [nth_append, if_pos (nth_lt hb)]; exact hb, .refl x⟩
 have g := Step.grew hn s
 have plb : ∀ i x, nth bl i = some x -> PlainB x := fun i x h => hpl x (by rw [nth_eq] at h; exact List.mem_of_getElem? h)
 have nnew : ∀ i t B, nth bl i = some (t, B) -> B.mut = true -> w.heap.size <= ρ2.π (Hs.length + i) := fun i t B hi hm => by
  rcases s.new (Hs.length + i) t B (by rw [nth_append, if_neg (by omega), Nat.add_sub_cancel_left]; exact hi) hm with ⟨c, t0, B0, h1, h2, _⟩ | h
  ·rw [hn c t0 B0 h1] at h2; cases h2
  ·exact h
 refine ⟨⟨?_, ?_, ?_, ?_, ?_, ?_⟩, hext, hag, g.os, g.tape, g.output, g.size, fun r hr _ => g.keep r hr, ?_⟩
 ·intro b t B hb hν
  rcases hold b _ hb with ⟨hlt, h⟩ | ⟨i, rfl, h1, h2⟩
  ·obtain ⟨k1, k2, k3, k4, k5⟩ := o1 b hlt
   rw [k4] at hν
   have := (hR.blk b t B h hν).grew (fun hl => g.keep _ (hR.lt b t B h hl hν))
   cases B with
   | row rw n f =>
    obtain ⟨cs, t', fr, e1, e2, e3, e4, e5⟩ := this
    refine ⟨cs, t', fr, by rw [k1]; exact e1, e2, by rw [k2]; exact e3, by rw [k3, k2]; exact e4, fun j hj => ⟨(e5 j hj).1, ?_⟩⟩
    rw [k3, (e5 j hj).2]
    simp only [cl]
    rw [conc_agree hag (f j) (hR.wf b _ _ _ _ h j hj)]
   | mp es =>
    obtain ⟨es', clock, e1, e2⟩ := this
    refine ⟨es', clock, by rw [k1]; exact e1, ?_⟩
    rw [e2]
    apply List.map_congr_left
    intro x hx
    obtain ⟨w1, w2⟩ := hR.wfm b _ _ h x hx
    rw [conc_agree hag _ w1, conc_agree hag _ w2]
   | free => trivial
   | gone => trivial
  ·obtain ⟨k1, k2, k3, k4, k5⟩ := n1 i
   rw [k4] at hν
   have := s.rel.blk _ t B h2 hν
   cases B with
   | row rw n f =>
    obtain ⟨cs, t', fr, e1, e2, e3, e4, e5⟩ := this
    have hp := (plb i _ h1).2
    refine ⟨cs, t', fr, by rw [k1]; exact e1, e2, by rw [k2]; exact e3, by rw [k3, k2]; exact e4, fun j hj => ⟨(e5 j hj).1, ?_⟩⟩
    rw [k3, (e5 j hj).2]
    simp only [cl]
    rw [plain_conc (ρ := ρ2) (ρ' := ρ3) (f j) (hp j hj)]
   | mp es => exact (plb i _ h1).elim
   | free => trivial
   | gone => trivial
 ·intro b c tb tc B C hb hc hm hl hνb hνc hπ
  have hlive : ∀ {C : Blk}, C.mut = true -> C.live = true := fun {C} hm => by cases C <;> first | rfl | cases hm
  rcases hold b _ hb with ⟨hlb, h1⟩ | ⟨i, rfl, h1, h2⟩ <;> rcases hold c _ hc with ⟨hlc, h3⟩ | ⟨j, rfl, h3, h4⟩
  ·rw [(o1 b hlb).1, (o1 c hlc).1] at hπ
   rw [(o1 b hlb).2.2.2.1] at hνb; rw [(o1 c hlc).2.2.2.1] at hνc
   exact hR.inj b c tb tc B C h1 h3 hm hl hνb hνc hπ
  ·exfalso
   rw [(o1 b hlb).1, (n1 j).1] at hπ
   rw [(o1 b hlb).2.2.2.1] at hνb
   have a1 := hR.lt b tb B h1 (hlive hm) hνb
   have a2 : C.mut = true := by
    have := plb j _ h3
    cases C with
    | row rw n f => exact this.1
    | _ => exact this.elim
   have a3 := nnew j _ _ h3 a2
   omega
  ·exfalso
   rw [(n1 i).1, (o1 c hlc).1] at hπ
   rw [(o1 c hlc).2.2.2.1] at hνc
   have a1 := hR.lt c tc C h3 hl hνc
   have a3 := nnew i _ _ h1 hm
   omega
  ·rw [(n1 i).1, (n1 j).1] at hπ
   rw [(n1 i).2.2.2.1] at hνb; rw [(n1 j).2.2.2.1] at hνc
   have := s.rel.inj _ _ _ _ _ _ h2 h4 hm hl hνb hνc hπ
   omega
 ·intro b t B hb hl hν
  rcases hold b _ hb with ⟨hlb, h1⟩ | ⟨i, rfl, h1, h2⟩
  ·rw [(o1 b hlb).1]; rw [(o1 b hlb).2.2.2.1] at hν
   exact Nat.lt_of_lt_of_le (hR.lt b t B h1 hl hν) g.size
  ·rw [(n1 i).1]; rw [(n1 i).2.2.2.1] at hν
   exact s.rel.lt _ t B h2 hl hν
 ·intro b t B hb hl hν
  rcases hold b _ hb with ⟨hlb, h1⟩ | ⟨i, rfl, h1, h2⟩
  ·rw [(o1 b hlb).2.2.2.1] at hν; rw [(o1 b hlb).2.2.2.2]
   exact hR.nul b t B h1 hl hν
  ·rw [(n1 i).2.2.2.1] at hν; rw [(n1 i).2.2.2.2]
   exact s.rel.nul _ t B h2 hl hν
 ·intro b t rw n f hb j hj
  rcases hold b _ hb with ⟨hlb, h1⟩ | ⟨i, rfl, h1, h2⟩
  ·exact (hR.wf b _ _ _ _ h1 j hj).ext hext
  ·exact plain_wf _ ((plb i _ h1).2 j hj) (s.rel.wf _ _ _ _ _ h2 j hj)
 ·intro b t es hb e he
  rcases hold b _ hb with ⟨hlb, h1⟩ | ⟨i, rfl, h1, h2⟩
  ·obtain ⟨w1, w2⟩ := hR.wfm b _ _ h1 e he
   exact ⟨w1.ext hext, w2.ext hext⟩
  ·exact (plb i _ h1).elim
 ·intro b t B hb hm
  rcases hold b _ hb with ⟨hlb, h1⟩ | ⟨i, rfl, h1, h2⟩
  ·exact .inl ⟨b, t, B, h1, hm, (o1 b hlb).1.symm⟩
  ·right; rw [(n1 i).1]; exact nnew i _ _ h1 hm
theorem kind_shift (A bl : Heap) : SameK (shiftS A.length bl.length) (A ++ bl) bl := fun b c h => by
 rw [shiftS_at] at h
 split at h
 ·rename_i hb
  cases h
  have e1 : nth bl b = some bl[b] := by rw [nth_eq]; simp [hb]
  refine ⟨_, _, e1, ?_, rfl⟩
  rw [nth_append, if_neg (by omega), Nat.add_sub_cancel_left]; exact e1
 ·cases h
theorem hOf_len : ∀ l : List View, (hOf l).length = l.length
 | [] => rfl
 | a :: l => by simp [hOf, hOf_len l]
def freshQ (Hs : Heap) (bl : Heap) (v : V) (u : V) (H' : Heap) : Prop :=
 ∃ σ : Sg, idS Hs.length 0 σ = true /\ onceS σ = true /\ RenH σ H' σ (Hs ++ bl) /\ renOk σ (Hs ++ bl) (ren (shiftS Hs.length bl.length) v) /\ u = ren σ (ren (shiftS Hs.length bl.length) v)
theorem blk_eq {α : Type} {σ : Sg} {t : TypeId} {rw : Bool} {n : Nat} {f : Nat -> V} {e : α -> V} {g : Nat -> α} (h : ∀ i, f i = e (g i)) (hp : ∀ x, ren σ (e x) = e x := by intro x; rfl) : some (t, Blk.row rw n f) = some (renB σ (t, .row rw n (fun i => e (g i)))) := by
 simp only [renB, Option.some.injEq, Prod.mk.injEq, Blk.row.injEq, true_and]
 funext i
 rw [h i, hp]
theorem catF_e {α : Type} {e : α -> V} {n s : Nat} {f g : Nat -> V} {f' g' : Nat -> α} (hf : ∀ i, f i = e (f' i)) (hg : ∀ i, g i = e (g' i)) (i : Nat) : catF n f s g i = e (catF n f' s g' i) := by
 unfold catF
 cases Nat.blt i n
 ·exact hg _
 ·exact hf _
theorem cat0_e {α : Type} {e : α -> V} {s : Nat} {f g : Nat -> V} {f' g' : Nat -> α} (hg : ∀ i, g i = e (g' i)) (i : Nat) : catF 0 f s g i = e (catF 0 f' s g' i) := by
 have h : Nat.blt i 0 = false := rfl
 simp only [catF, h, cond_false]
 exact hg _
theorem updF_e {α : Type} {e : α -> V} {f : Nat -> V} {f' : Nat -> α} {k : Nat} {x : V} {x' : α} (hf : ∀ i, f i = e (f' i)) (hx : x = e x') (i : Nat) : updF f k x i = e (updF f' k x' i) := by
 unfold updF
 cases Nat.beq i k
 ·exact hf _
 ·exact hx
def freshD (F : List V -> Heap -> Option (Pre × V × Heap)) (vs : List V) (H : Heap) : Option (Pre × V × Heap) :=
 match F vs H with
 | some (p, v, bl) => some (p, ren (shiftS H.length bl.length) v, H ++ bl)
 | none => none
theorem okH_plain {σ : Sg} {H : Heap} : ∀ (l : Heap), (∀ b t rw n f, nth l b = some (t, .row rw n f) -> ∀ j, j < n -> Plain (f j)) -> (∀ b t es, nth l b ≠ some (t, .mp es)) -> okH σ H l
 | [], _, _ => trivial
 | (t, B) :: l, h, hm => by
  refine ⟨?_, okH_plain l (fun b => h (b + 1)) (fun b => hm (b + 1))⟩
  cases B with
  | row rw n f => exact fun j hj => plain_renOk _ (h 0 t rw n f rfl j hj)
  | mp es => exact absurd rfl (hm 0 t es)
  | free => trivial
  | gone => trivial
theorem spec_fresh {P : Program} {f : FuncId} {ir : IR} {np : Nat} {rs : List ResultVar} (hf : Fn P f ir np rs) {Γ : List (Nat × Con)} (hΓ : Known P Γ) {F : List V -> Heap -> Option (Pre × V × Heap)} (U : Nat -> Bool) (n : Nat)
 (h : ∀ vs H p v bl, F vs H = some (p, v, bl) -> Pre.ok p -> ∀ ρ w, HRel P ρ H w -> Wfs P H vs -> ∃ (l : List View) (us : List V), (∀ x ∈ l, ViewOk P w x) /\ vals (rOf l) us = vals ρ vs /\ Wfs P (hOf l) us /\ us.length <= np /\ (∀ x ∈ bl, PlainB x) /\
  (∀ n, renOk (shiftS n bl.length) [] v) /\ ∀ S, Sem P Γ l.length (retV rs (freshQ (hOf l) bl v)) S -> Ran Γ U S (retV rs (freshQ (hOf l) bl v)) n [.code ir] (argsE 0 us) (hOf l)) :
 Spec P f (Con.heap (freshD F)).d := by
 refine ⟨hf.enters, fun vs H p v' H' hd hp ρ w hR hw => ?_⟩
 simp only [Con.d, freshD] at hd
 split at hd
 ·rename_i p0 v bl hF
  cases hd
  obtain ⟨l, us, h1, h2, h3, h4, h5, h6, h7⟩ := h vs H _ _ _ hF hp ρ w hR hw
  rw [← h2]
  refine (calls_of_run hf hΓ (hrel_views h1) h3 h4 (fun S hS => (h7 S (by rw [hOf_len l] at hS; exact hS)).out)).mono ?_
  rintro e w' ⟨ρ', H1, u, rfl, hst, hwf, σ, s1, s2, s3, s4, rfl⟩
  have hplain : ∀ b t rw n f, nth (hOf l ++ bl) b = some (t, .row rw n f) -> ∀ j, j < n -> Plain (f j) := fun b t rw n f hb j hj => by
   rw [nth_append] at hb
   split at hb
   ·obtain ⟨v, hv, rfl, hB, _⟩ := hOf_nth hb
    cases hB
    exact (h1 v hv).plain j hj
   ·have := h5 _ (by rw [nth_eq] at hb; exact List.mem_of_getElem? hb)
    exact this.2 j hj
  have hnomp : ∀ b t es, nth (hOf l ++ bl) b ≠ some (t, .mp es) := fun b t es hb => by
   rw [nth_append] at hb
   split at hb
   ·obtain ⟨v, hv, rfl, hB, _⟩ := hOf_nth hb; cases hB
   ·exact h5 _ (by rw [nth_eq] at hb; exact List.mem_of_getElem? hb)
  obtain ⟨ρ2, hst2, hrho, hkind⟩ := hst.ren s1 s2 s3 (okH_plain _ hplain hnomp)
  have hwf2 := wf_ren hkind _ s4 hwf
  have hc2 := conc_ren hrho _ s4
  have hfin := frame_fresh hR hst2 (nomut_views l) h5
  refine ⟨rhoF ρ ρ2 H.length (hOf l).length, ?_, hfin, ?_⟩
  ·
   rw [← hc2]
   have key : ∀ (m : Nat) (ρ3 : Rho), (∀ i, ρ3.π (m + i) = ρ2.π (l.length + i) /\ ρ3.κ (m + i) = ρ2.κ (l.length + i) /\ ρ3.δ (m + i) = ρ2.δ (l.length + i) /\ ρ3.ν (m + i) = ρ2.ν (l.length + i) /\ ρ3.ε (m + i) = ρ2.ε (l.length + i)) ->
    conc (rhoF ρ2 ρ2 0 l.length) v = conc ρ3 (ren (shiftS m bl.length) v) := fun m ρ3 h3 => by
    refine conc_ren (H := []) ⟨fun b c hc => ?_, fun b hb => ?_⟩ v (h6 m)
    ·rw [shiftS_at] at hc
     split at hc
     ·cases hc
      have := h3 b
      simp [rhoF, this, Nat.add_comm]
     ·cases hc
    ·rw [shiftS_at] at hb
     split at hb <;> cases hb
   rw [hOf_len]
   rw [← key l.length ρ2 (fun i => ⟨rfl, rfl, rfl, rfl, rfl⟩), key H.length (rhoF ρ ρ2 H.length l.length) (fun i => rhoF_new ρ ρ2 H.length l.length i)]
  ·have h8 : ∀ A : Heap, renOk (shiftS A.length bl.length) bl v := fun A => by
    have := h6 A.length
    exact renOk_heap v this
   have w1 := wf_ren (kind_shift (hOf l) bl) v (h8 (hOf l)) hwf2
   exact ren_wf (kind_shift H bl) v (h8 H) w1
 ·cases hd
 where
 renOk_heap {σ : Sg} {H : Heap} : ∀ (v : V), renOk σ [] v -> renOk σ H v
  | .ptr .., h => h
  | .map _, h => h
  | .slice .., h => by
   rcases h with h | ⟨_, _, _, _, _, _, f, hf⟩
   ·exact .inl h
   ·simp [nth] at hf
  | .func _ a c, h => ⟨rensOk_heap a h.1, rensOk_heap c h.2⟩
  | .iface _ v, h => renOk_heap v h
  | .agg _ ps, h => rensOk_heap ps h
  | .arr _ n f, h => fun i hi => renOk_heap (f i) (h i hi)
  | .tup vs, h => rensOk_heap vs h
  | .bool _, _ | .int _ _, _ | .str _, _ | .nilp, _ | .nils, _ | .nilf, _ | .nili, _ | .nilm, _ => trivial
 rensOk_heap {σ : Sg} {H : Heap} : ∀ (l : List V), rensOk σ [] l -> rensOk σ H l
  | [], _ => trivial
  | v :: l, h => ⟨renOk_heap v h.1, rensOk_heap l h.2⟩
@[reducible] def andI (k : IntKind) (a b : Int) : Int := bitsI (· &&& ·) k a b
@[reducible] def orI (k : IntKind) (a b : Int) : Int := bitsI (· ||| ·) k a b
@[reducible] def xorI (k : IntKind) (a b : Int) : Int := bitsI (· ^^^ ·) k a b
@[reducible] def shlI (k : IntKind) (a b : Int) : Int := k.wrap (a * 2 ^ (min b.toNat k.bits))
@[reducible] def shrI (k : IntKind) (a b : Int) : Int := a.fdiv (2 ^ (min b.toNat k.bits))
theorem wrap_u64 (n : Int) : IntKind.u64.wrap n = n % 18446744073709551616 := by
 simp [IntKind.wrap, IntKind.bits, IntKind.signed]
theorem wrap_i64 (n : Int) : IntKind.i64.wrap n = (n + 9223372036854775808) % 18446744073709551616 - 9223372036854775808 := by
 simp [IntKind.wrap, IntKind.bits, IntKind.signed]; omega
open Go.ChangeShapes Go.WideShapes
def rho0 : Rho := ⟨fun _ => 0, fun _ => 0, fun _ => 0, fun _ => false, fun _ => (none, 0)⟩
theorem mapM_each {α β : Type} {g : α -> Option β} : ∀ {l : List α} {xs : List β}, l.mapM g = some xs -> ∀ f ∈ l, ∃ x, g f = some x
 | [], _, _, f, hf => by simp at hf
 | a :: l, xs, h, f, hf => by
  rw [List.mapM_cons] at h
  cases ha : g a with
  | none => rw [ha] at h; cases h
  | some x =>
   rw [ha] at h
   cases hl : l.mapM g with
   | none => rw [hl] at h; cases h
   | some ys =>
    rcases List.mem_cons.1 hf with rfl | hf
    ·exact ⟨x, ha⟩
    ·exact mapM_each hl f hf
theorem open_struct {H : Type} {enc : TypeId × Value -> H} {P : Program} {W : World} {sp : Nat -> Bool} {held : Bool} {b0 base : Nat} {t : TypeId} {fs : Array Field} {v : Value} {d : DataW H} {p : List MemPlace}
 (ht : P.underlying t = some (.struct fs)) (hval : Value.okWide P W .any b0 t v) (hd : DataW.Trod enc P W base sp held t v d p) :
 ∃ cs : List Value, v = .agg cs.toArray /\ cs.length = P.cellsOf t /\ ∃ fuel, ∀ f ∈ fs.toList, ∃ x, DataW.trod enc P W base sp held fuel f.type ((cs.drop f.offset).take (P.cellsOf f.type)) = some x := by
 simp only [Value.okWide, ht] at hval
 obtain ⟨cs, rfl, hn, _⟩ := hval
 obtain ⟨fuel, hf⟩ := hd
 refine ⟨cs.toList, by simp, by simpa using hn, ?_⟩
 rw [show (Value.agg cs).cells.toList = cs.toList from rfl] at hf
 cases fuel with
 | zero => simp [DataW.trod] at hf
 | succ n =>
  unfold DataW.trod at hf
  rw [ht] at hf
  simp only at hf
  rw [if_pos (by simpa using hn), Option.map_eq_some_iff] at hf
  obtain ⟨xs, hx, _⟩ := hf
  exact ⟨n, mapM_each hx⟩
theorem wf_agg {P : Program} {H : Heap} {t : TypeId} {ps : List V} (h : fitB P (.agg t ps) t = true) (hp : Wfs P H ps) : Wf P H (.agg t ps) := ⟨fitB_fit P _ _ h, hp⟩
theorem add_block (a : Addr) (n : Nat) : (a.add n).block = a.block := by unfold Addr.add; split <;> rfl
theorem add_off (a : Addr) (n : Nat) : (a.add n).off = a.off + n := by
 unfold Addr.add
 split
 ·rename_i h; rw [h]; rfl
 ·rfl
theorem add_spot (a : Addr) (n : Nat) (h : a.spot = none) : (a.add n).spot = none := by
 unfold Addr.add
 split
 ·exact h
 ·rfl
theorem cell_eq {w : World} {a b : Addr} (h1 : a.block = b.block) (h2 : a.off = b.off) (h3 : a.spot = b.spot) : w.cell? a = w.cell? b := by
 obtain ⟨_, _, _⟩ := a; obtain ⟨_, _, _⟩ := b
 simp only at h1 h2 h3
 subst h1 h2 h3; rfl
theorem trod_fields {H : Type} {enc : TypeId × Value -> H} {P : Program} {W : World} {sp : Nat -> Bool} {held : Bool} {base n : Nat} {t : TypeId} {fs : Array Field} {cs : List Value} {x : DataW H × List MemPlace}
 (ht : P.underlying t = some (.struct fs)) (hn : cs.length = P.cellsOf t) (hf : DataW.trod enc P W base sp held n t cs = some x) :
 ∃ fuel, ∀ f ∈ fs.toList, ∃ x, DataW.trod enc P W base sp held fuel f.type ((cs.drop f.offset).take (P.cellsOf f.type)) = some x := by
 cases n with
 | zero => simp [DataW.trod] at hf
 | succ n =>
  unfold DataW.trod at hf
  rw [ht] at hf
  simp only at hf
  rw [if_pos hn, Option.map_eq_some_iff] at hf
  obtain ⟨xs, hx, _⟩ := hf
  exact ⟨n, mapM_each hx⟩
theorem law_walk_read {P : Program} {f : FuncId} {c : List V -> Heap -> Option (Pre × V)} {vs : List V} {l : List View} {p : Pre} (hs : Spec P f (Con.read c).d) {W : World} (hl : ∀ x ∈ l, ViewOk P W x) (hc : c vs (hOf l) = some (p, .bool true)) (hp : Pre.ok p) (hw : Wfs P (hOf l) vs) :
 Calls P f (vals (rOf l) vs).toArray W fun e W' => e = .returned (.bool true) /\ Below W.heap.size W W' := by
 refine (hs.2 vs (hOf l) p (.bool true) (hOf l) (by simp only [Con.d, hc]; rfl) hp (rOf l) W (hrel_views hl) hw).mono ?_
 rintro e w' ⟨ρ', rfl, hst, _⟩
 exact ⟨by simp [conc], (hst.grew (nomut_views l)).below⟩
def cutV (live : Nat -> List Nat) (S : List It -> Env -> Heap -> Prop) (k : List It) (E : Env) (H : Heap) : Prop := S k (cutE (live (keyL k)) E) H
theorem Sem.segV {P : Program} {Γ : List (Nat × Con)} {n0 : Nat} {R : Env -> Heap -> Prop} {S : List It -> Env -> Heap -> Prop} (hS : Sem P Γ n0 R S) (live : Nat -> List Nat) {U : Nat -> Bool} {n : Nat} {k : List It} {E : Env} {H : Heap}
 (h : Ran Γ U (cutV live S) R n k E H) : S k E H :=
 hS.run U n k E H (run_mono (fun k E H h => hS.weak k E _ H (fun t v => cutE_lk) h) (fun _ _ h => h) n k E [] H h.out)
theorem Ran.cutV {P : Program} {Γ : List (Nat × Con)} {n0 : Nat} {R : Env -> Heap -> Prop} {S : List It -> Env -> Heap -> Prop} (hS : Sem P Γ n0 R S) (live : Nat -> List Nat) {U : Nat -> Bool} {n : Nat} {k : List It} {E : Env} {H : Heap}
 (h : Ran Γ U (cutV live S) R n k E H) : Ran Γ U S R n k E H := by
 unfold Ran
 exact run_mono (fun k E H h => hS.weak k E _ H (fun t v => cutE_lk) h) (fun _ _ h => h) n k E [] H h.out
def RenE (σ : Sg) (H' : Heap) (E : Env) : Env -> Prop
 | [] => True
 | (t, v) :: l => (renOk σ H' v /\ lk E t = some (ren σ v)) /\ RenE σ H' E l
theorem RenE.at {σ : Sg} {H' : Heap} {E : Env} : ∀ {l : Env}, RenE σ H' E l -> ∀ t v, lk l t = some v -> renOk σ H' v /\ lk E t = some (ren σ v)
 | [], _, t, v, h => by simp [lk] at h
 | (u, x) :: l, h, t, v, hv => by
  rw [lk_cons] at hv
  by_cases e : u = t
  ·subst e; rw [if_pos rfl] at hv; cases hv; exact h.1
  ·rw [if_neg e] at hv; exact RenE.at h.2 t v hv
theorem Sem.to {P : Program} {Γ : List (Nat × Con)} {n0 : Nat} {R : Env -> Heap -> Prop} {S : List It -> Env -> Heap -> Prop} (hS : Sem P Γ n0 R S) {k : List It} {E : Env} {H : Heap} (E' : Env) (H' : Heap) (σ : Sg)
 (h1 : idS n0 0 σ = true) (h2 : onceS σ = true) (h3 : RenX σ H σ H') (h4 : okH σ H' H') (h5 : RenE σ H' E E') (h : S k E' H') : S k E H :=
 hS.same k E H _ (backH_same h3) (hS.ren k E E' _ H' σ h1 h2 (h3.back h2) h4 (fun t v hv => RenE.at h5 t v hv) h)
theorem boxX {σ : Sg} {t : TypeId} {rw : Bool} {f : Nat -> V} {v : V} (h : f 0 = ren σ v) : ∃ y, some (t, Blk.row rw 1 f) = some y /\ SameB y (renB σ (t, .row rw 1 (fun _ => v))) :=
  ⟨_, rfl, _, rfl, fun i hi => by obtain rfl : i = 0 := by omega
                                  exact h⟩
theorem rowX {α : Type} {σ : Sg} {t : TypeId} {rw : Bool} {n : Nat} {f : Nat -> V} {e : α -> V} {g : Nat -> α} (h : ∀ i, f i = e (g i)) (hp : ∀ x, ren σ (e x) = e x := by intro x; rfl) : ∃ y, some (t, Blk.row rw n f) = some y /\ SameB y (renB σ (t, .row rw n (fun i => e (g i)))) :=
 ⟨_, rfl, _, rfl, fun i _ => by rw [h i, hp]⟩
theorem rflX {σ : Sg} {x : TypeId × Blk} {y : TypeId × Blk} (h : y = renB σ x) : ∃ z, some y = some z /\ SameB z (renB σ x) := ⟨y, rfl, by rw [h]; exact .refl _⟩
theorem okrow {α : Type} {σ : Sg} {H : Heap} {n : Nat} {f : Nat -> V} {e : α -> V} {g : Nat -> α} (h : ∀ i, f i = e (g i)) (hp : ∀ x, renOk σ H (e x)) : ∀ j, j < n -> renOk σ H (f j) := fun j _ => by rw [h j]; exact hp _
def dS : V -> Option ByteArray
 | .str s => some s
 | _ => none
theorem dS_eq {v : V} {s : ByteArray} (h : dS v = some s) : v = .str s := by
 unfold dS at h; split at h <;> cases h; rfl
section
section
variable {P : Program} {ρ : Rho} {H : Heap} {w : World}
theorem turn_step {b : Nat} {t t1 : TypeId} {n : Nat} {f g : Nat -> V} {w' : World} {cs' : List Value} (hR : HRel P ρ H w) (hb : nth H b = some (t, .row true n f)) (hν : ρ.ν b = false)
 (hcs : w'.heap[ρ.π b]? = some (.cells cs'.toArray t1 (0, 0))) (hlen : ρ.δ b + ρ.κ b * P.cellsOf t <= cs'.length)
 (hrow : ∀ j, j < n -> Fit P (g j) t /\ seg cs' (ρ.δ b + j * P.cellsOf t) (P.cellsOf t) = cl ρ (g j)) (hwf : ∀ j, j < n -> Wf P H (g j))
 (hoth : ∀ r, r < w.heap.size -> r ≠ ρ.π b -> w'.heap[r]? = w.heap[r]?) (hsize : w.heap.size <= w'.heap.size) (h1 : w'.os = w.os) (h2 : w'.tape = w.tape) (h3 : w'.output = w.output) :
 Step P ρ H w ρ (setNth H b (t, .row true n g)) w' := by
 have he : Ext H (setNth H b (t, .row true n g)) := Ext.set hb
 obtain ⟨_, _, _, _, _, hn, _, _⟩ := hR.blk b t _ hb hν
 refine ⟨⟨?_, ?_, ?_, ?_, ?_, ?_⟩, he, .refl H ρ, h1, h2, h3, hsize, ?_, ?_⟩
 ·intro c tc C hC hνc
  rw [nth_setNth _ _ _ _ _ hb] at hC
  by_cases e : c = b
  ·subst e
   rw [if_pos rfl] at hC; cases hC
   exact ⟨cs', t1, (0, 0), hcs, fun _ => rfl, hn, hlen, hrow⟩
  ·rw [if_neg e] at hC
   have hold := hR.blk c tc C hC hνc
   have hpi : C.live = true -> ρ.π c ≠ ρ.π b := fun hl h => e (hR.inj b c t tc _ C hb hC rfl hl hν hνc h.symm).symm
   cases C with
   | row rw' m g' =>
    obtain ⟨cs1, t2, fr2, hc2, hrest⟩ := hold
    exact ⟨cs1, t2, fr2, by rw [hoth _ (hR.lt c tc _ hC rfl hνc) (hpi rfl)]; exact hc2, hrest⟩
   | mp es =>
    obtain ⟨es', clock, hm, hrest⟩ := hold
    exact ⟨es', clock, by rw [hoth _ (hR.lt c tc _ hC rfl hνc) (hpi rfl)]; exact hm, hrest⟩
   | free => trivial
   | gone => trivial
 ·intro c d tc td C D hC hD hm hl hνb hνd hpi
  rw [nth_setNth _ _ _ _ _ hb] at hC hD
  have back : ∀ (z : Nat) (tz : TypeId) (Z : Blk), (if z = b then some (t, Blk.row true n g) else nth H z) = some (tz, Z) -> ∃ tz' Z', nth H z = some (tz', Z') /\ Z'.mut = Z.mut /\ Z'.live = Z.live := by
   intro z tz Z hz
   by_cases e : z = b
   ·subst e; rw [if_pos rfl] at hz; cases hz; exact ⟨t, _, hb, rfl, rfl⟩
   ·rw [if_neg e] at hz; exact ⟨tz, Z, hz, rfl, rfl⟩
  obtain ⟨tc', C', hC', m1, l1⟩ := back c tc C hC
  obtain ⟨td', D', hD', m2, l2⟩ := back d td D hD
  exact hR.inj c d tc' td' C' D' hC' hD' (m1.trans hm) (l2.trans hl) hνb hνd hpi
 ·intro c tc C hC hl hνc
  rw [nth_setNth _ _ _ _ _ hb] at hC
  by_cases e : c = b
  ·subst e; exact Nat.lt_of_lt_of_le (hR.lt c t _ hb rfl hνc) hsize
  ·rw [if_neg e] at hC; exact Nat.lt_of_lt_of_le (hR.lt c tc C hC hl hνc) hsize
 ·intro c tc C hC hB hνc
  rw [nth_setNth _ _ _ _ _ hb] at hC
  by_cases e : c = b
  ·subst e; rw [hν] at hνc; cases hνc
  ·rw [if_neg e] at hC; exact hR.nul c tc C hC hB hνc
 ·intro c tc rw' m g' hC j hj
  rw [nth_setNth _ _ _ _ _ hb] at hC
  by_cases e : c = b
  ·subst e
   rw [if_pos rfl] at hC; cases hC
   exact (hwf j hj).ext he
  ·rw [if_neg e] at hC; exact (hR.wf c _ _ _ _ hC j hj).ext he
 ·intro c tc es hC e' he'
  rw [nth_setNth _ _ _ _ _ hb] at hC
  by_cases e : c = b
  ·subst e; rw [if_pos rfl] at hC; cases hC
  ·rw [if_neg e] at hC
   obtain ⟨k1, k2⟩ := hR.wfm c _ _ hC e' he'
   exact ⟨k1.ext he, k2.ext he⟩
 ·intro r hr hk
  exact hoth r hr fun h => hk b t _ hb rfl h.symm
 ·intro c tc C hC hm
  rw [nth_setNth _ _ _ _ _ hb] at hC
  by_cases e : c = b
  ·subst e; exact .inl ⟨c, t, _, hb, rfl, rfl⟩
  ·rw [if_neg e] at hC; exact .inl ⟨c, tc, C, hC, hm, rfl⟩
theorem setNth_appD {α : Type} : ∀ (l m : List α) (x y : α), setNth (l ++ x :: m) l.length y = l ++ y :: m
 | [], _, _, _ => rfl
 | a :: l, m, x, y => by simp only [List.cons_append, List.length_cons, setNth, setNth_appD l m x y]
theorem setNth_lenD {α : Type} : ∀ (l : List α) (i : Nat) (x : α), (setNth l i x).length = l.length
 | [], _, _ => rfl
 | a :: l, 0, _ => rfl
 | a :: l, i + 1, x => by simp [setNth, setNth_lenD l i x]
theorem null_rel {b t0 t : Nat} {f : Nat -> V} {π : Nat} (hR : HRel P ρ H w) (hb : nth H b = some (t0, .free)) :
 HRel P ⟨updF ρ.π b π, ρ.κ, ρ.δ, updF ρ.ν b true, updF ρ.ε b (none, 0)⟩ (setNth H b (t, .row true 0 f)) w /\ Agree H ρ ⟨updF ρ.π b π, ρ.κ, ρ.δ, updF ρ.ν b true, updF ρ.ε b (none, 0)⟩ := by
 have hag : Agree H ρ ⟨updF ρ.π b π, ρ.κ, ρ.δ, updF ρ.ν b true, updF ρ.ε b (none, 0)⟩ := fun c t B hc hB => by
  have hne : c ≠ b := by rintro rfl; rw [hb] at hc; cases hc; exact hB rfl
  simp only [updF_apply, if_neg hne]; exact ⟨trivial, trivial, trivial, trivial, trivial⟩
 have hex := ext_new hb (t, .row true 0 f)
 refine ⟨⟨?_, ?_, ?_, ?_, ?_, ?_⟩, hag⟩
 ·intro c tc C hC hν
  rw [nth_setNth _ _ _ _ _ hb] at hC
  by_cases e : c = b
  ·subst e; simp [updF_apply] at hν
  ·rw [if_neg e] at hC
   have hν : ρ.ν c = false := by simpa only [updF_apply, if_neg e] using hν
   have hold := hR.blk c tc C hC hν
   cases C with
   | row rw' m g =>
    obtain ⟨cs', t2, fr2, hc2, h1, h2, h3, h4⟩ := hold
    refine ⟨cs', t2, fr2, by simpa only [updF_apply, if_neg e] using hc2, h1, h2, h3, fun j hj => ⟨(h4 j hj).1, ?_⟩⟩
    have := conc_agree hag (g j) (hR.wf c _ _ _ _ hC j hj)
    simp only
    rw [(h4 j hj).2]
    simp only [cl] at this ⊢
    rw [this]
   | mp es =>
    obtain ⟨es', clock, hm, hes⟩ := hold
    refine ⟨es', clock, by simpa only [updF_apply, if_neg e] using hm, ?_⟩
    rw [hes]
    apply List.map_congr_left
    intro x hx
    obtain ⟨h1, h2⟩ := hR.wfm c _ _ hC x hx
    rw [conc_agree hag _ h1, conc_agree hag _ h2]
   | free => trivial
   | gone => trivial
 ·intro c d tc td C D hC hD hm hl hνb hν hpi
  rw [nth_setNth _ _ _ _ _ hb] at hC hD
  have e : c ≠ b := by rintro rfl; simp [updF_apply] at hνb
  have e' : d ≠ b := by rintro rfl; simp [updF_apply] at hν
  rw [if_neg e] at hC; rw [if_neg e'] at hD
  simp only [updF_apply, if_neg e, if_neg e'] at hνb hν hpi
  exact hR.inj c d tc td C D hC hD hm hl hνb hν hpi
 ·intro c tc C hC hl hν
  rw [nth_setNth _ _ _ _ _ hb] at hC
  have e : c ≠ b := by rintro rfl; simp [updF_apply] at hν
  rw [if_neg e] at hC
  simp only [updF_apply, if_neg e] at hν ⊢
  exact hR.lt c tc C hC hl hν
 ·intro c tc C hC hB hν
  rw [nth_setNth _ _ _ _ _ hb] at hC
  by_cases e : c = b
  ·subst e; rw [if_pos rfl] at hC; cases hC; exact ⟨true, f, rfl, fun _ => by simp [updF_apply]⟩
  ·rw [if_neg e] at hC
   simp only [updF_apply, if_neg e] at hν ⊢
   exact hR.nul c tc C hC hB hν
 ·intro c tc rw' m g hC j hj
  rw [nth_setNth _ _ _ _ _ hb] at hC
  by_cases e : c = b
  ·subst e; rw [if_pos rfl] at hC; cases hC; omega
  ·rw [if_neg e] at hC; exact (hR.wf c _ _ _ _ hC j hj).ext hex
 ·intro c tc es hC e' he'
  rw [nth_setNth _ _ _ _ _ hb] at hC
  by_cases e : c = b
  ·subst e; rw [if_pos rfl] at hC; cases hC
  ·rw [if_neg e] at hC
   obtain ⟨k1, k2⟩ := hR.wfm c _ _ hC e' he'
   exact ⟨k1.ext hex, k2.ext hex⟩
theorem take_step {b : Nat} {t : TypeId} {n k : Nat} {f : Nat -> V} (hR : HRel P ρ H w) (hb : nth H b = some (t, .row true n f)) (hk : k <= n) :
 ∃ ρ', Step P ρ H w ρ' (setNth H b (t, .gone) ++ [(t, .row true k f)]) w /\ Wf P (setNth H b (t, .gone) ++ [(t, .row true k f)]) (slV H.length k t) /\
  conc ρ' (slV H.length k t) = conc ρ (slV b k t) := by
 have hp := pad_step 1 hR
 have hlb : b < H.length := nth_lt hb
 have hb1 : nth (H ++ pad 1) b = some (t, .row true n f) := by rw [nth_append, if_pos hlb]; exact hb
 have hg := gone_step (t' := t) hp.rel hb1 (w' := w) (fun _ _ => rfl) rfl rfl rfl rfl
 have hs1 := hp.trans hg
 have hf : nth (setNth (H ++ pad 1) b (t, .gone)) H.length = some (0, .free) := by
  rw [nth_setNth _ _ _ _ _ hb1, if_neg (by omega), nth_append, if_neg (by omega), Nat.sub_self]; rfl
 have hset : setNth (setNth (H ++ pad 1) b (t, .gone)) H.length (t, .row true k f) = setNth H b (t, .gone) ++ [(t, .row true k f)] := by
  have : ∀ (l : Heap) (b : Nat) (x y : TypeId × Blk), b < l.length -> setNth (l ++ [x]) b y = setNth l b y ++ [x] := by
   intro l
   induction l with
   | nil => intro b x y h; simp at h
   | cons a l ih =>
    intro b x y h
    cases b with
    | zero => rfl
    | succ b => simp only [List.cons_append, setNth, ih b x y (by simpa using h)]
  rw [show pad 1 = [((0 : Nat), Blk.free)] from rfl, this _ _ _ _ hlb]
  have := setNth_appD (setNth H b (t, .gone)) [] (0, .free) (t, .row true k f)
  rw [setNth_lenD] at this; exact this
 have hwf : Wf P (setNth H b (t, .gone) ++ [(t, .row true k f)]) (slV H.length k t) := by rw [← hset]; exact wf_new hf (Nat.le_refl _)
 have hext := hs1.ext.trans (ext_new hf (t, .row true k f))
 rw [hset] at hext
 have hagr : ∀ ρ', Agree (setNth (H ++ pad 1) b (t, .gone)) ρ ρ' -> Agree H ρ ρ' := fun ρ' hag c tc C hC hB => by
  have hc1 : nth (H ++ pad 1) c = some (tc, C) := by rw [nth_append, if_pos (nth_lt hC)]; exact hC
  refine hag c (if c = b then t else tc) (if c = b then .gone else C) ?_ ?_
  ·rw [nth_setNth _ _ _ _ _ hb1]; split
   ·simp
   ·rw [hc1]
  ·split
   ·simp
   ·exact hB
 have hne : H.length ≠ b := by omega
 cases hν : ρ.ν b with
 | true =>
  obtain ⟨rwb, fb, hrb, hε⟩ := hR.nul b _ _ hb rfl hν
  cases hrb
  have hε := hε rfl
  obtain rfl : k = 0 := by omega
  obtain ⟨had, hag⟩ := null_rel (t := t) (f := f) (π := ρ.π b) hs1.rel hf
  rw [hset] at had
  refine ⟨_, ⟨had, hext, hagr _ hag, rfl, rfl, rfl, Nat.le_refl _, fun _ _ _ => rfl, ?_⟩, hwf, ?_⟩
  ·intro d td D hD hm
   rw [← hset, nth_setNth _ _ _ _ _ hf] at hD
   by_cases e : d = H.length
   ·subst e; exact .inl ⟨b, t, _, hb, rfl, by simp only [updF_apply, if_pos]⟩
   ·rw [if_neg e] at hD
    rcases hs1.new d td D hD hm with ⟨c', tc', C', h1, h2, h3⟩ | h
    ·exact .inl ⟨c', tc', C', h1, h2, by simp only [updF_apply, if_neg e]; exact h3⟩
    ·right; simp only [updF_apply, if_neg e]; exact h
  ·simp [slV, conc, updF_apply, hν, hε]
 | false =>
  obtain ⟨cs, t1, fr, hcs, hfr, hnk, hlen, hrow⟩ := hR.blk b _ _ hb hν
  obtain rfl := hfr rfl
  obtain ⟨had, hag⟩ := adopt_rel (P := P) (ρ := ρ) (w := w) (t := t) (n := k) (π := ρ.π b) (κ := ρ.κ b) (δ := ρ.δ b) (f := f) hs1.rel hf (fun j hj => ⟨(hrow j (by omega)).1, (hR.wf b _ _ _ _ hb j (by omega)).ext hs1.ext⟩) (by omega) hcs (fun d td D hD hl hνd hpi => by
   rw [nth_setNth _ _ _ _ _ hb1] at hD
   by_cases e : d = b
   ·subst e; rw [if_pos rfl] at hD; cases hD; cases hl
   ·rw [if_neg e] at hD
    exact e (hp.rel.inj b d _ td _ D hb1 hD rfl hl hν hνd hpi.symm).symm) hlen (fun j hj => (hrow j (by omega)).2)
  rw [hset] at had
  refine ⟨_, ⟨had, hext, hagr _ hag, rfl, rfl, rfl, Nat.le_refl _, fun _ _ _ => rfl, ?_⟩, hwf, ?_⟩
  ·intro d td D hD hm
   rw [← hset, nth_setNth _ _ _ _ _ hf] at hD
   by_cases e : d = H.length
   ·subst e; exact .inl ⟨b, t, _, hb, rfl, by simp only [updF_apply, if_pos]⟩
   ·rw [if_neg e] at hD
    rcases hs1.new d td D hD hm with ⟨c', tc', C', h1, h2, h3⟩ | h
    ·exact .inl ⟨c', tc', C', h1, h2, by simp only [updF_apply, if_neg e]; exact h3⟩
    ·right; simp only [updF_apply, if_neg e]; exact h
  ·simp [slV, conc, updF_apply, hν]
end
end
theorem open_sliceF {H : Type} {enc : TypeId × Value -> H} {P : Program} {W : World} {held : Bool} {t et : TypeId} {fuel : Nat} {vs : List Value} {z : DataW H × List MemPlace} {α : Type} [Inhabited α] {e : α -> V} {Q : α -> Prop}
 (ht : P.underlying t = some (.slice et)) (hc : 1 <= P.cellsOf et) (hf : DataW.trod enc P W 0 (fun _ => true) held fuel t vs = some z)
 (hopen : ∀ n cs x, cs.length = P.cellsOf et -> DataW.trod enc P W 0 (fun _ => true) held n et cs = some x -> ∃ a, cs = cl rho0 (e a) /\ Q a)
 (hfit : ∀ a, Fit P (e a) et) (hwf : ∀ a, Wf P [] (e a)) (hpl : ∀ a, Plain (e a)) :
 ∃ (w : View) (g : Nat -> α), ViewOk P W w /\ w.t = et /\ w.f = (fun i => e (g i)) /\ (∀ i, i < w.n -> Q (g i)) /\ vs = [bif w.ν then .slice w.ε.1 0 w.ε.2 else .slice (some ⟨w.π, w.δ, none⟩) w.n w.κ] := by
 have empty : ∀ (ad : Option Addr) (c : Nat), ∃ (w : View) (g : Nat -> α), ViewOk P W w /\ w.t = et /\ w.f = (fun i => e (g i)) /\ (∀ i, i < w.n -> Q (g i)) /\ [Value.slice ad 0 c] = [bif w.ν then .slice w.ε.1 0 w.ε.2 else .slice (some ⟨w.π, w.δ, none⟩) w.n w.κ] := fun ad c =>
  ⟨⟨0, 0, 0, true, (ad, c), et, 0, fun _ => e default⟩, fun _ => default, ⟨fun _ => rfl, fun h => (by cases h), fun j hj => hpl _, fun j hj => hwf _⟩, rfl, rfl, fun i hi => absurd hi (Nat.not_lt_zero i), rfl⟩
 rcases DataW.trod_slice ht hf with ⟨hcs, _⟩ | ⟨x, len, cap, elems, rest, n, _, hcs, _, hb, hl, hm, hlen, hel, hsp, _⟩
 ·subst hcs
  exact empty none 0
 ·subst hcs
  by_cases h0 : len = 0
  ·subst h0; exact empty (some x) cap
  ·obtain ⟨hrl, hr⟩ := hsp rfl
   have each : ∀ i, i < cap -> ∃ y : α, W.cells? 0 (x.add (i * P.cellsOf et)) (P.cellsOf et) = some (cl rho0 (e y)) /\ Q y := by
    intro i hi
    have : ∃ z, (W.cells? 0 (x.add (i * P.cellsOf et)) (P.cellsOf et)).bind (DataW.trod enc P W 0 (fun _ => true) held n et) = some z := by
     by_cases hil : i < len
     ·rw [hel i hil]; exact ⟨_, List.getElem?_eq_getElem (by omega)⟩
     ·have := hr (i - len) (by omega)
      rw [show len + (i - len) = i from by omega] at this
      rw [this]; exact ⟨_, List.getElem?_eq_getElem (by omega)⟩
    obtain ⟨z, hz⟩ := this
    obtain ⟨cs, hcs, hz⟩ := Option.bind_eq_some_iff.1 hz
    obtain ⟨y, hy, hq⟩ := hopen n cs z (World.cells?_some hcs).2.1 hz
    exact ⟨y, by rw [hcs, hy], hq⟩
   have cell : ∀ i, i < cap -> ∀ y, W.cells? 0 (x.add (i * P.cellsOf et)) (P.cellsOf et) = some (cl rho0 (e y)) -> ∀ k, k < P.cellsOf et -> W.cell? ((x.add (i * P.cellsOf et)).add k) = (cl rho0 (e y))[k]? := fun i hi y hy k hk => (World.cells?_some hy).2.2 k hk
   have hlenE : ∀ y, (cl rho0 (e y)).length = P.cellsOf et := fun y => cl_len rho0 (e y) et (hfit y)
   obtain ⟨y0, hy0, _⟩ := each 0 (by omega)
   have c0 := cell 0 (by omega) y0 hy0 0 (by omega)
   have e00 : (x.add (0 * P.cellsOf et)).add 0 = x := by simp [Addr.add]
   rw [e00, List.getElem?_eq_getElem (by rw [hlenE]; omega)] at c0
   have hsome : ∃ cs t' fr, W.heap[x.block]? = some (.cells cs t' fr) /\ x.spot = none := by
    unfold World.cell? at c0
    split at c0
    ·rename_i cs t' fr hh
     cases hs : x.spot with
     | none => exact ⟨cs, t', fr, hh, rfl⟩
     | some z => rw [hs] at c0; simp at c0
    ·cases c0
   obtain ⟨cs, t', fr, hheap, hspot⟩ := hsome
   have at_ : ∀ m, W.cell? (x.add m) = cs[x.off + m]? := fun m => by
    unfold World.cell?
    rw [add_block, hheap, add_spot x m hspot, add_off]
    rfl
   have twice : ∀ m k, W.cell? ((x.add m).add k) = W.cell? (x.add (m + k)) := fun m k =>
    cell_eq (by simp only [add_block]) (by simp only [add_off]; omega) (by rw [add_spot _ _ (add_spot _ _ hspot), add_spot _ _ hspot])
   refine ⟨⟨x.block, cap, x.off, false, (none, 0), et, len, fun i => e (if h : i < cap then (each i h).choose else default)⟩, fun i => if h : i < cap then (each i h).choose else default, ⟨fun h => (by cases h), fun _ => ?_, fun j hj => hpl _, fun j hj => hwf _⟩, rfl, rfl, fun i hi => ?_, ?_⟩
   ·refine ⟨cs.toList, t', fr, by simpa using hheap, hl, ?_, fun j hj => ⟨hfit _, fun ρ => ?_⟩⟩
    ·obtain ⟨y, hy, _⟩ := each (cap - 1) (by omega)
     have h1 := cell (cap - 1) (by omega) y hy (P.cellsOf et - 1) (by omega)
     rw [twice, at_, List.getElem?_eq_getElem (by rw [hlenE]; omega)] at h1
     have h2 := (Array.getElem?_eq_some_iff.1 h1).1
     have h3 : (cap - 1) * P.cellsOf et + P.cellsOf et = cap * P.cellsOf et := by
      rw [← Nat.succ_mul]; congr 1; omega
     show x.off + cap * P.cellsOf et <= cs.toList.length
     rw [Array.length_toList]
     omega
    ·have hjc : j < cap := Nat.lt_of_lt_of_le (show j < len from hj) hl
     show seg cs.toList (x.off + j * P.cellsOf et) (P.cellsOf et) = cl ρ (e (if h : j < cap then (each j h).choose else default))
     rw [dif_pos hjc]
     have hy := (each j hjc).choose_spec.1
     generalize (each j hjc).choose = y at hy
     have hρ : cl ρ (e y) = cl rho0 (e y) := by simp only [cl]; rw [plain_conc (ρ := rho0) (ρ' := ρ) (e y) (hpl y)]
     rw [hρ]
     apply List.ext_getElem?
     intro k
     simp only [seg, List.getElem?_take, List.getElem?_drop]
     split
     ·rename_i hk
      have h1 := cell j hjc y hy k hk
      rw [twice, at_] at h1
      rw [← h1, Array.getElem?_toList, Nat.add_assoc]
     ·rename_i hk
      rw [List.getElem?_eq_none (by rw [hlenE]; omega)]
   ·have hic : i < cap := Nat.lt_of_lt_of_le (show i < len from hi) hl
    show Q (if h : i < cap then (each i h).choose else default)
    rw [dif_pos hic]
    exact (each i hic).choose_spec.2
   ·obtain ⟨bb, oo, ss⟩ := x
    simp only at hspot
    subst hspot
    rfl
end Dd
