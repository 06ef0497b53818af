/- Texts of this seat, joined: J7, J75, J85, J124, JC, H15, H19, H195, J11, P1, P2, P3, P4, P55, P8, JR0. -/
import Derived.Test.YtopnnipdijcpoaaChecked
import Derived.Ground.Names2Prog
import Derived.Shelf.Slices.CompactI
import Derived.Lib.RowBridge
import Derived.Test.YtopnnipdijcpoaaT5
namespace Dd
set_option linter.unusedVariables false
set_option linter.unusedSimpArgs false
set_option maxRecDepth 100000
open Go
def RawOk (x : SRaw) : Prop := (0 <= x.a /\ x.a < 18446744073709551616) /\ (0 <= x.b /\ x.b < 18446744073709551616)
structure CsOk (c : SCase) : Prop where
 ins : PIns c.ins
 second : PIns c.second
 raws : ∀ i, i < c.nr -> RawOk (c.regs i)
theorem zR_ok : RegOk zR := by unfold zR; decide
theorem tm20 (a : Int) : -1048576 <= Int.tmod a 1048576 /\ Int.tmod a 1048576 <= 1048576 := by
 by_cases h : 0 <= a
 ·have h1 := Int.tmod_nonneg 1048576 h
  have h2 := Int.tmod_lt_of_pos a (show (0 : Int) < 1048576 by decide)
  omega
 ·have e : Int.tmod a 1048576 = -(Int.tmod (-a) 1048576) := by rw [Int.neg_tmod, Int.neg_neg]
  have h1 := Int.tmod_nonneg 1048576 (show 0 <= -a by omega)
  have h2 := Int.tmod_lt_of_pos (-a) (show (0 : Int) < 1048576 by decide)
  omega
theorem mm_num {a b : Int} (h1 : 0 <= a /\ a < 18446744073709551616) (h2 : 0 <= b /\ b < 18446744073709551616) : 0 <= mnI a b /\ mnI a b <= mxI a b /\ mxI a b < 18446744073709551616 := by
 unfold mnI mxI
 split <;> split <;> omega
theorem mm_ptr (a b : Int) : -1048576 <= mnI (Int.tmod a 1048576) (Int.tmod b 1048576) /\ mnI (Int.tmod a 1048576) (Int.tmod b 1048576) <= mxI (Int.tmod a 1048576) (Int.tmod b 1048576) /\ mxI (Int.tmod a 1048576) (Int.tmod b 1048576) <= 1048576 := by
 have h1 := tm20 a
 have h2 := tm20 b
 unfold mnI mxI
 split <;> split <;> omega
theorem made_ok {x : SRaw} (h : RawOk x) : RegOk (F_made x) := by
 have n1 := mm_num h.1 h.2
 have n2 := mm_ptr x.lo x.hi
 have z1 : (0 : Int) <= 0 /\ (0 : Int) <= 0 /\ (0 : Int) < 18446744073709551616 := by decide
 have z2 : (-1048576 : Int) <= 0 /\ (0 : Int) <= 0 /\ (0 : Int) <= 1048576 := by decide
 unfold F_made
 cases (Int.tmod (andI .i64 x.kind 255) 7 : Int) == 1 <;> cases F_rPointer (Int.tmod (andI .i64 x.kind 255) 7) <;> cases decide ((Int.tmod (andI .i64 x.kind 255) 7 : Int) >= 4) <;>
  simp only [cond_true, cond_false] <;> first | exact ⟨n1, n2⟩ | exact ⟨n1, z2⟩ | exact ⟨z1, n2⟩ | exact ⟨z1, z2⟩
def RegsOk (f : Nat -> SReg) : Prop := ∀ k, k < 11 -> RegOk (f k)
theorem regs_upd {f : Nat -> SReg} (h : RegsOk f) {k : Nat} {x : SReg} (hx : RegOk x) : RegsOk (updF f k x) := fun j hj => by
 rw [updF_at]
 split
 ·exact hx
 ·exact h j hj
theorem L_state_1_regs (n0 : Nat) (g0 : Nat -> SRaw) (n1 : Nat) (g1 : Nat -> Bool) (x : Nat -> SReg) : ∀ (fuel : Nat) (s : Int) (y : Nat -> Bool), 0 <= s -> s <= 512 -> 512 < s + fuel -> (L_state_1 fuel n0 g0 n1 g1 x s y).regs = x := by
 intro fuel
 induction fuel with
 | zero => intro s y h0 h1 h; omega
 | succ fuel ih =>
  intro s y h0 h1 h
  rw [L_state_1]
  by_cases c1 : s < ((n1 : Nat) : Int)
  ·rw [decide_eq_true c1, cond_true]
   by_cases c2 : s < 512
   ·rw [decide_eq_true c2, cond_true, i64_id (by omega) (by omega)]
    exact ih _ _ (by omega) (by omega) (by omega)
   ·rw [decide_eq_false c2, cond_false]
  ·rw [decide_eq_false c1, cond_false]
theorem L_state_0_regs {n0 : Nat} {g0 : Nat -> SRaw} (hg : ∀ i, i < n0 -> RawOk (g0 i)) (n1 : Nat) (g1 : Nat -> Bool) : ∀ (fuel : Nat) (s : Int) (x : Nat -> SReg), 0 <= s -> s <= 11 -> 11 < s + fuel -> RegsOk x -> RegsOk (L_state_0 fuel n0 g0 n1 g1 s x).regs := by
 intro fuel
 induction fuel with
 | zero => intro s y h0 h1 h; omega
 | succ fuel ih =>
  intro s x h0 h1 h hx
  rw [L_state_0]
  by_cases c1 : s < ((n0 : Nat) : Int)
  ·rw [decide_eq_true c1, cond_true]
   by_cases c2 : s < 11
   ·rw [decide_eq_true c2, cond_true, i64_id (by omega) (by omega)]
    exact ih _ _ (by omega) (by omega) (by omega) (regs_upd hx (made_ok (hg _ (by omega))))
   ·rw [decide_eq_false c2, cond_false, L_state_1_regs _ _ _ _ _ 513 0 _ (by decide) (by decide) (by decide)]; exact hx
  ·rw [decide_eq_false c1, cond_false, L_state_1_regs _ _ _ _ _ 513 0 _ (by decide) (by decide) (by decide)]; exact hx
theorem state_ok {n0 : Nat} {g0 : Nat -> SRaw} (hg : ∀ i, i < n0 -> RawOk (g0 i)) (n1 : Nat) (g1 : Nat -> Bool) : RegsOk (F_state n0 g0 n1 g1).regs :=
 L_state_0_regs hg n1 g1 12 0 _ (by decide) (by decide) (by decide) (fun _ _ => zR_ok)
theorem look_of {c : SCase} (hc : CsOk c) (h : (!(F_program c).2) = false) {s : SState} (hs : RegsOk s.regs) : pre_Step (F_env c) s (F_program c).1.1 (F_program c).1.2 0 :=
 (prog_ok hc.ins hc.second (by simpa using h)).look hs
open Go.RowKit Go.Proofs
def csM (G : Pre × SCase -> Option (Pre × V × Heap)) : List V -> Option (List Nat × (List (Option (TypeId × Blk)) -> Option (Pre × V × Heap)))
 | [.agg t [i, j, r, s, c, e, m]] => some ([blkOf r, blkOf s, blkOf m], fun Bs => match Bs with
  | [Br, Bs, Bm] => bif Nat.beq t 29 then
   (d24 i).bind fun i' => (d24 j).bind fun j' => (slB d76 76 Br r).bind fun r' => (slB dB 4 Bs s).bind fun s' => (dI .i64 c).bind fun c' => (dI .i64 e).bind fun e' => (slB d73 73 Bm m).bind fun m' =>
    G (some (Pre.ok r'.1 /\ Pre.ok s'.1 /\ Pre.ok m'.1), ⟨i', j', r'.2.1, r'.2.2, s'.2.1, s'.2.2, c', e', m'.2.1, m'.2.2⟩) else none
  | _ => none)
 | _ => none
theorem csM_is {G : Pre × SCase -> Option (Pre × V × Heap)} {vs : List V} {H : Heap} {rs : List Nat} {K : List (Option (TypeId × Blk)) -> Option (Pre × V × Heap)} {r : Pre × V × Heap} (h : csM G vs = some (rs, K)) (hK : K (rs.map (nth H)) = some r) :
 ∃ x, vs = [x] /\ (csD H x).bind G = some r := by
 unfold csM at h
 split at h
 ·rename_i t i j a s c e m
  simp only [Option.some.injEq, Prod.mk.injEq] at h
  obtain ⟨rfl, rfl⟩ := h
  refine ⟨_, rfl, ?_⟩
  simp only [List.map_cons, List.map_nil] at hK
  cases hc : Nat.beq t 29 <;> simp only [hc, cond_true, cond_false] at hK
  ·cases hK
  ·obtain ⟨i1, hi1, hK⟩ := bseq hK
   obtain ⟨j1, hj1, hK⟩ := bseq hK
   obtain ⟨a1, ha1, hK⟩ := bseq hK
   obtain ⟨s1, hs1, hK⟩ := bseq hK
   obtain ⟨c1, hc1, hK⟩ := bseq hK
   obtain ⟨e1, he1, hK⟩ := bseq hK
   obtain ⟨m1, hm1, hK⟩ := bseq hK
   unfold csD
   simp only [hc, cond_true, hi1, hj1, slB_sl ha1, slB_sl hs1, hc1, he1, slB_sl hm1, Option.bind_some]
   exact hK
 ·cases h
theorem spec_csM {f : FuncId} {c : List V -> Heap -> Option (Pre × V × Heap)} {G : Pre × SCase -> Option (Pre × V × Heap)} (hc : ∀ x H, c [x] H = (csD H x).bind G) (h : Spec Try.prog f (Con.heap (freshD c)).d) : Spec Try.prog f (Con.mkr (csM G)).d := by
 refine ⟨h.1, fun vs H p v H' hd => h.2 vs H p v H' ?_⟩
 simp only [Con.d, freshD] at hd ⊢
 split at hd
 ·rename_i rs K hF
  simp only [Option.map_eq_some_iff] at hd
  obtain ⟨⟨p1, v1, bl⟩, hr, he⟩ := hd
  obtain ⟨x, rfl, hx⟩ := csM_is hF hr
  rw [hc, hx]; exact congrArg some he
 ·cases hd
def gm_env (F_env : SCase -> SEnv) (s0 : Pre × SCase) : Option (Pre × V × Heap) :=
 some (some (Pre.ok s0.1), (V.agg 49 [(V.int .i64 (F_env s0.2).ctx), (V.int .i64 (F_env s0.2).emit), (slV 0 (F_env s0.2).nm 73)]), [(73, .row true (F_env s0.2).nm (fun i => (v73 ((F_env s0.2).maps i))))])
def cc_envM (F_env : SCase -> SEnv) := csM (gm_env F_env)
theorem envM_spec : Spec Try.prog 12 (Con.mkr (cc_envM F_env)).d := spec_csM (c := c_env) (fun _ _ => rfl) env_spec
@[reducible] def insC (c : SCase) (i : SInsn) : SCase := ⟨i, c.second, c.nr, c.regs, c.ns, c.stack, c.ctx, c.emit, c.nm, c.maps⟩
@[reducible] def outC (F_Step : SEnv -> SState -> Nat -> (Nat -> SInsn) -> Int -> (Nat × (Nat -> SOut)) × Int) (F_env : SCase -> SEnv) (F_program : SCase -> (Nat × (Nat -> SInsn)) × Bool) (c : SCase) (s : SState) : (Nat × (Nat -> SOut)) × Int :=
 F_Step (F_env c) s (F_program c).1.1 (F_program c).1.2 0
theorem CsOk.with {c : SCase} (h : CsOk c) {i : SInsn} (hi : PIns i) : CsOk (insC c i) := ⟨hi, h.second, h.raws⟩
theorem look_st {c : SCase} (hc : CsOk c) {n0 : Nat} {g0 : Nat -> SRaw} (hg : ∀ i, i < n0 -> RawOk (g0 i)) {n1 : Nat} {g1 : Nat -> Bool} (h : (!(F_program c).2) = false) : pre_Step (F_env c) (F_state n0 g0 n1 g1) (F_program c).1.1 (F_program c).1.2 0 :=
 look_of hc h (state_ok hg n1 g1)
theorem at0 {n : Nat} (h : (((n : Nat) : Int) != 1) = false) : 0 <= (0 : Int) /\ (0 : Int) < (n : Nat) := by
 have h : (n : Int) = 1 := by simpa using h
 omega
theorem bifO {c : Bool} {x y : (Nat × (Nat -> SOut)) × Int} (hx : x.1.1 <= 2) (hy : y.1.1 <= 2) : (bif c then x else y).1.1 <= 2 := by cases c; exact hy; exact hx
theorem le12 {f : Nat -> SOut} {e : Int} : (((1, f), e) : (Nat × (Nat -> SOut)) × Int).1.1 <= 2 := by show (1 : Nat) <= 2; decide
theorem le02 {f : Nat -> SOut} {e : Int} : (((0, f), e) : (Nat × (Nat -> SOut)) × Int).1.1 <= 2 := by show (0 : Nat) <= 2; decide
theorem le22 {f : Nat -> SOut} {e : Int} : (((2, f), e) : (Nat × (Nat -> SOut)) × Int).1.1 <= 2 := by show (2 : Nat) <= 2; decide
theorem test_le (x : SLook) : (F_test x).1.1 <= 2 := by
 unfold F_test q_test_0 q_test_1 q_test_2 q_test_3 q_test_4 q_test_5 q_test_6 q_test_7 q_test_8
 repeat' (first | (with_reducible apply bifO) | (with_reducible exact le12) | (with_reducible exact le02) | (with_reducible exact le22))
theorem Step_le (e : SEnv) (s : SState) (n : Nat) (l : Nat -> SInsn) (pc : Int) : (F_Step e s n l pc).1.1 <= 2 := by
 unfold F_Step q_Step_0 q_Step_1
 repeat' (first | (with_reducible apply bifO) | (with_reducible exact le12) | (with_reducible exact le02) | exact test_le _)
open Go.Shelf Go.Sort
def laysCompact_ren : Go.Shelf.Ren := ⟨fun | 20 => 37 | n => n, fun | 22 => 62 | 3 => 3 | 4 => 4 | 0 => 0 | n => n, fun | n => n⟩
theorem laysCompact : Go.Proofs.Lays2.n20 Try.prog laysCompact_ren where
 mixed := by kernel_rfl
 f20 := Try.func37.trans (congrArg some (by kernel_rfl))
 t0 := Try.underlying0
 a0 := Try.isAgg0
 z0 := Try.sizeOf0
 v0 := Try.zeroValue0
 t3 := Try.underlying3
 a3 := Try.isAgg3
 z3 := Try.sizeOf3
 v3 := Try.zeroValue3
 t4 := Try.underlying4
 a4 := Try.isAgg4
 z4 := Try.sizeOf4
 v4 := Try.zeroValue4
 t22 := Try.underlying62
 a22 := Try.isAgg62
 z22 := Try.sizeOf62
 v22 := Try.zeroValue62
 i3 := by kernel_rfl
def zsOf (n : Nat) (g : Nat -> Int) : List Int := (List.range n).map g
def cmpL (n : Nat) (g : Nat -> Int) : List Int := Lib.compact (zsOf n g)
def cmpN (n : Nat) (g : Nat -> Int) : Nat := (cmpL n g).length
def cmpF (n : Nat) (g : Nat -> Int) (i : Nat) : Int := (cmpL n g).getD i 0
def intG (f : Nat -> V) (i : Nat) : Int := (dI .i64 (f i)).getD default
def c_Compact : List V -> Heap -> Option (Pre × V × Heap)
 | [.slice b _ off [] 0 n none t], H => match nth H b with
  | some (t', .row true m f) => bif Nat.beq 3 t && Nat.beq 3 t' then some (some (m = n /\ off = (fun _ => 0) /\ (∀ i, i < n -> (dI .i64 (f i)).isSome = true) /\ n <= 1000000), slV H.length (cmpN n (intG f)) 3, setNth H b (3, .gone) ++ [(3, .row true (cmpN n (intG f)) (fun i => .int .i64 (cmpF n (intG f) i)))]) else none
  | _ => none
 | _, _ => none
theorem cells3 : Try.prog.cellsOf 3 = 1 := by kernel_rfl
theorem zsOf_len (n : Nat) (g : Nat -> Int) : (zsOf n g).length = n := by simp [zsOf]
theorem zsOf_at {n : Nat} {g : Nat -> Int} {j : Nat} (h : j < n) : (zsOf n g).toArray[j]! = g j := by
 rw [getElem!_pos _ j (by simpa [zsOf] using h)]; simp [zsOf]
theorem fit_int (x : Int) : Fit Try.prog (.int .i64 x) 3 := fitB_fit _ _ _ (by kernel_rfl)
theorem intG_eq {f : Nat -> V} {n : Nat} (h : ∀ i, i < n -> (dI .i64 (f i)).isSome = true) {i : Nat} (hi : i < n) : f i = .int .i64 (intG f i) := by
 obtain ⟨a, ha⟩ := Option.isSome_iff_exists.1 (h i hi)
 have e := dI_eq ha
 unfold intG; rw [ha]; exact e
theorem sameH_set {b : Nat} {t : TypeId} {rw' : Bool} {n : Nat} {f g : Nat -> V} : ∀ {H : Heap} {b : Nat}, nth H b = some (t, .row rw' n f) -> (∀ i, i < n -> f i = g i) -> SameH H (setNth H b (t, .row rw' n g))
 | [], b, h, _ => by simp [nth] at h
 | x :: l, 0, h, hfg => by simp [nth] at h; subst h; exact ⟨⟨g, rfl, hfg⟩, .refl l⟩
 | x :: l, b + 1, h, hfg => ⟨.refl x, sameH_set (b := b) (by simpa [nth] using h) hfg⟩
theorem putRow_heap {α : Type} [Inhabited α] {enc : α -> Value} {w : World} {b off : Nat} {d : Array α} {cs : List Value} {t1 : TypeId} {fr : Nat × Nat} (h : w.heap[b]? = some (.cells cs.toArray t1 fr)) :
 (putRow enc w b off d).heap[b]? = some (.cells (putCells enc off d cs.toArray).toList.toArray t1 fr) := by
 have hb := (Array.getElem?_eq_some_iff.1 h).1
 simp only [putRow, mapBlock, Array.getElem?_modify, if_pos, h, Option.map_some, onCells, Array.toArray_toList]
theorem putRow_other {α : Type} [Inhabited α] {enc : α -> Value} {w : World} {b off r : Nat} {d : Array α} (h : r ≠ b) : (putRow enc w b off d).heap[r]? = w.heap[r]? := by
 simp only [putRow, mapBlock, Array.getElem?_modify]
 rw [if_neg (fun e => h e.symm)]
theorem putRow_size {α : Type} [Inhabited α] {enc : α -> Value} {w : World} {b off : Nat} {d : Array α} : (putRow enc w b off d).heap.size = w.heap.size := by
 simp [putRow, mapBlock]
theorem seg_put {α : Type} [Inhabited α] {enc : α -> Value} {cs : List Value} {off : Nat} {d : Array α} {j : Nat} (hj : j < d.size) (hl : off + d.size <= cs.length) : seg (putCells enc off d cs.toArray).toList (off + j) 1 = [enc d[j]!] := by
 have h1 : (putCells enc off d cs.toArray).toList[off + j]? = some (enc d[j]!) := by
  rw [Array.getElem?_toList]
  simp only [putCells, Array.getElem?_mapIdx, List.getElem?_toArray]
  rw [List.getElem?_eq_getElem (by omega)]
  simp only [Option.map_some]
  rw [if_pos ⟨by omega, by omega⟩, Nat.add_sub_cancel_left]
 simp only [seg]
 apply List.ext_getElem?
 intro k
 rw [List.getElem?_take, List.getElem?_drop]
 cases k with
 | zero => simp [h1]
 | succ k => simp
theorem holds_of {ρ : Rho} {H : Heap} {w : World} {b n m : Nat} {f : Nat -> V} (hR : HRel Try.prog ρ H w) (hb : nth H b = some (3, .row true n f)) (hν : ρ.ν b = false) (hf : ∀ i, i < n -> f i = .int .i64 (intG f i)) :
 ∃ (cs : List Value) (t1 : TypeId), w.heap[ρ.π b]? = some (.cells cs.toArray t1 (0, 0)) /\ n <= ρ.κ b /\ ρ.δ b + ρ.κ b <= cs.length /\ Holds (Value.int .i64) w (ρ.π b) (ρ.δ b) (zsOf n (intG f)).toArray := by
 obtain ⟨cs, t1, fr, hcs, hfr, hnk, hlen, hrow⟩ := hR.blk b _ _ hb hν
 obtain rfl := hfr rfl
 rw [cells3, Nat.mul_one] at hlen
 refine ⟨cs, t1, hcs, hnk, hlen, fun j hj => ?_⟩
 have hj : j < n := by simpa [zsOf] using hj
 rw [zsOf_at hj]
 obtain ⟨_, h2⟩ := hrow j hj
 rw [cells3, Nat.mul_one, hf j hj] at h2
 have h3 := seg_get (l := cs) (o := ρ.δ b + j) (n := 1) h2 0 (.int .i64 (intG f j)) (by simp [cl, conc, Value.cells])
 refine ⟨by simp [World.cell?, hcs]; simpa using h3, by simp [World.frozen?, hcs]⟩
theorem cmp_le (n : Nat) (g : Nat -> Int) : cmpN n g <= n := by
 have := Lib.compact_length_le (zsOf n g)
 rw [zsOf_len] at this; exact this
theorem Compact_spec : Spec Try.prog 37 (Con.heap c_Compact).d := by
 refine ⟨⟨_, Try.func37, by kernel_rfl, by kernel_rfl⟩, fun vs H p v H' hd hp ρ w hR hw => ?_⟩
 simp only [Con.d] at hd
 unfold c_Compact at hd
 split at hd
 ·rename_i _ b bs off n t
  split at hd
  ·rename_i t' m f hb
   cases hc : (Nat.beq 3 t && Nat.beq 3 t') <;> simp only [hc, cond_true, cond_false] at hd
   ·cases hd
   ·rw [Bool.and_eq_true] at hc
    obtain rfl := beq_eq hc.1
    obtain rfl := beq_eq hc.2
    cases hd
    obtain ⟨rfl, rfl, hi, hn⟩ := hp
    have hf := fun i (h : i < m) => intG_eq hi h
    have hle := cmp_le m (intG f)
    generalize hG : (fun i => V.int .i64 (cmpF m (intG f) i)) = G
    have hwG : ∀ j, j < m -> Wf Try.prog H (G j) := fun j _ => by rw [← hG]; trivial
    -- what is left: a row of as many parts, whose beginning is what is handed back
    suffices key : Calls Try.prog 37 (vals ρ [V.slice b bs (fun _ => 0) [] 0 m none 3]).toArray w fun e w' => ∃ G' : Nat -> V, (∀ j, j < cmpN m (intG f) -> G' j = G j) /\ e = .returned (conc ρ (slV b (cmpN m (intG f)) 3)) /\ Step Try.prog ρ H w ρ (setNth H b (3, .row true m G')) w' by
     refine key.mono ?_
     rintro e w' ⟨G', hG', rfl, hst⟩
     have hb' : nth (setNth H b (3, .row true m G')) b = some (3, .row true m G') := by rw [nth_setNth _ _ _ _ _ hb, if_pos rfl]
     obtain ⟨ρ', s2, hwf, hcc⟩ := take_step hst.rel hb' hle
     have hlen : (setNth H b (3, .row true m G')).length = H.length := setNth_lenD _ _ _
     have hss : setNth (setNth H b (3, .row true m G')) b (3, .gone) = setNth H b (3, Blk.gone) := by
      simp only [setNth_eq, List.set_set]
     have hsame : SameH (setNth H b (3, Blk.gone) ++ [(3, .row true (cmpN m (intG f)) G')]) (setNth H b (3, Blk.gone) ++ [(3, .row true (cmpN m (intG f)) G)]) := by
      have : ∀ l : Heap, SameH (l ++ [(3, .row true (cmpN m (intG f)) G')]) (l ++ [(3, .row true (cmpN m (intG f)) G)]) := by
       intro l
       induction l with
       | nil => exact ⟨⟨G, rfl, hG'⟩, trivial⟩
       | cons x l ih => exact ⟨.refl x, ih⟩
      exact this _
     rw [hss] at s2 hwf
     rw [hlen] at hwf
     rw [hlen] at hcc
     refine ⟨ρ', by rw [hcc], (hst.trans s2).same hsame, hwf.ext hsame.ext⟩
    cases hν : ρ.ν b with
    | true =>
     obtain ⟨rwb, fb, hrb, hε⟩ := hR.nul b _ _ hb rfl hν
     cases hrb
     have hε := hε rfl
     have h0 : cmpN 0 (intG f) = 0 := by omega
     have ev : (vals ρ [V.slice b bs (fun _ => 0) [] 0 0 none 3]).toArray = #[.slice none 0 0] := by simp [vals, conc, hν, hε]
     rw [ev]
     refine (Any.slices_Compact_int_empty laysCompact none 0 w).mono ?_
     rintro e w' ⟨rfl, rfl⟩
     exact ⟨f, fun j hj => by omega, by simp [conc, slV, hν, hε, h0], (Step.refl hR).same (sameH_set (b := b) hb (fun i hi => by omega))⟩
    | false =>
     obtain ⟨cs, t1, hcs, hnk, hlen, hH⟩ := holds_of (m := m) hR hb hν hf
     have hlt := (Array.getElem?_eq_some_iff.1 hcs).1
     have ev : (vals ρ [V.slice b bs (fun _ => 0) [] 0 m none 3]).toArray = #[.slice (some ⟨ρ.π b, ρ.δ b, none⟩) (zsOf m (intG f)).length (ρ.κ b)] := by simp [vals, conc, hν, zsOf_len]
     rw [ev]
     refine (Any.slices_Compact_int laysCompact (ρ.π b) (ρ.δ b) (ρ.κ b) (zsOf m (intG f)) w hH (by rw [zsOf_len]; omega) (by rw [zsOf_len]; exact hnk)).mono ?_
     rintro e w' ⟨rfl, nn, rfl⟩
     generalize hys : (Lib.compact (zsOf m (intG f)) ++ List.replicate ((zsOf m (intG f)).length - (Lib.compact (zsOf m (intG f))).length) (0 : Int)) = ys
     have hyl : ys.length = m := by
      rw [← hys, List.length_append, List.length_replicate, zsOf_len]
      show cmpN m (intG f) + (m - cmpN m (intG f)) = m
      omega
     have h1 : (Sort.ahead w nn).heap[ρ.π b]? = some (.cells cs.toArray t1 (0, 0)) := hcs
     have h2 := putRow_heap (enc := Value.int .i64) (off := ρ.δ b) (d := ys.toArray) h1
     refine ⟨fun j => .int .i64 (ys.getD j 0), fun j hj => ?_, by simp [conc, slV, hν, cmpN, cmpL], turn_step (cs' := (putCells (Value.int .i64) (ρ.δ b) ys.toArray cs.toArray).toList) (t1 := t1) hR hb hν ?_ ?_ ?_ (fun j hj => trivial) ?_ ?_ rfl rfl rfl⟩
     ·rw [← hG, ← hys]
      simp only [cmpF, List.getD]
      rw [List.getElem?_append_left (by exact hj)]; rfl
     ·exact h2
     ·rw [cells3, Nat.mul_one]; simp [putCells]; exact hlen
     ·intro j hj
      rw [cells3, Nat.mul_one, seg_put (by simpa [hyl] using hj) (by simp [hyl]; omega)]
      refine ⟨fit_int _, ?_⟩
      simp only [cl, conc, Value.cells]
      rw [getElem!_pos _ j (by simpa [hyl] using hj)]
      simp [List.getD, List.getElem?_eq_getElem (show j < ys.length by omega)]
     ·intro r hr hne
      rw [putRow_other hne]; rfl
     ·rw [putRow_size]; exact Nat.le_refl _
  ·cases hd
 ·cases hd
@[reducible] def T_Follow : Type := Nat -> (Nat -> SInsn) -> Int -> (Nat × (Nat -> Int))
def F_Follow (n0 : Nat) (g0 : (Nat -> SInsn)) (a1 : Int) : (Nat × (Nat -> Int)) :=
 (bif (((F_Right n0 g0).2 : Int) != 0) then ((0 : Nat), fun _ => default) else (bif (decide (a1 < 0)) then ((0 : Nat), fun _ => default) else (bif (decide (a1 >= ((n0 : Nat) : Int))) then ((0 : Nat), fun _ => default) else (bif ((F_halves n0 g0).2 a1.toNat) then ((0 : Nat), fun _ => default) else (bif (F_exits (g0 a1.toNat)) then ((0 : Nat), fun _ => default) else (bif (F_Wide (g0 a1.toNat)) then ((1 : Nat), (updF (fun _ => 0) 0 (IntKind.i64.wrap (a1 + 2)))) else (bif (((F_scls (g0 a1.toNat)) : Int) == 5) then (bif (((F_what (g0 a1.toNat)) : Int) == 0) then ((1 : Nat), (updF (fun _ => 0) 0 (IntKind.i64.wrap (((IntKind.i64.wrap (a1 + 1)) : Int) + (IntKind.i64.wrap (g0 a1.toNat).off))))) else (bif (F_jumps (g0 a1.toNat)) then (((cmpN 2 (intG (updF (updF (fun _ => (V.int .i64 0)) 0 (V.int .i64 (IntKind.i64.wrap (a1 + 1)))) 1 (V.int .i64 (IntKind.i64.wrap (((IntKind.i64.wrap (a1 + 1)) : Int) + (IntKind.i64.wrap (g0 a1.toNat).off))))))) : Nat), (cmpF 2 (intG (updF (updF (fun _ => (V.int .i64 0)) 0 (V.int .i64 (IntKind.i64.wrap (a1 + 1)))) 1 (V.int .i64 (IntKind.i64.wrap (((IntKind.i64.wrap (a1 + 1)) : Int) + (IntKind.i64.wrap (g0 a1.toNat).off)))))))) else ((1 : Nat), (updF (fun _ => 0) 0 (IntKind.i64.wrap (a1 + 1)))))) else (bif (F_jumps (g0 a1.toNat)) then (((cmpN 2 (intG (updF (updF (fun _ => (V.int .i64 0)) 0 (V.int .i64 (IntKind.i64.wrap (a1 + 1)))) 1 (V.int .i64 (IntKind.i64.wrap (((IntKind.i64.wrap (a1 + 1)) : Int) + (IntKind.i64.wrap (g0 a1.toNat).off))))))) : Nat), (cmpF 2 (intG (updF (updF (fun _ => (V.int .i64 0)) 0 (V.int .i64 (IntKind.i64.wrap (a1 + 1)))) 1 (V.int .i64 (IntKind.i64.wrap (((IntKind.i64.wrap (a1 + 1)) : Int) + (IntKind.i64.wrap (g0 a1.toNat).off)))))))) else ((1 : Nat), (updF (fun _ => 0) 0 (IntKind.i64.wrap (a1 + 1))))))))))))
def pre_Follow (n0 : Nat) (g0 : (Nat -> SInsn)) (a1 : Int) : Prop := n0 <= 1000000 /\ ∀ i, i < n0 -> -32768 <= (g0 i).off /\ (g0 i).off <= 32767
def D_Follow (F_Right : T_Right) (F_halves : T_halves) (F_exits : SInsn -> Bool) (F_Wide : SInsn -> Bool) (F_scls : SInsn -> Int) (F_what : SInsn -> Int) (F_jumps : SInsn -> Bool) : List (Nat × Con) := [(20, .read (cc_Right F_Right)), (31, .heap (freshD (cc_halves F_halves))), (32, .pure (cc_exits F_exits)), (33, .pure (cc_Wide F_Wide)), (34, .pure (cc_scls F_scls)), (35, .pure (cc_what F_what)), (36, .pure (cc_jumps F_jumps)), (37, .heap c_Compact)]
theorem D_Follow_known : Known Try.prog (D_Follow F_Right F_halves F_exits F_Wide F_scls F_what F_jumps) := (known_cons Right_spec (known_cons halves_spec (known_cons exits_spec (known_cons Wide_spec (known_cons scls_spec (known_cons what_spec (known_cons jumps_spec (known_cons Compact_spec known_nil))))))))
def ir_Follow : IR := (.seq (.region 0 [po 4 (.mov (.k (.nils)))] none) (.seq (.seq (.region 0 [po 10 (.mov (.t 0)), po 11 (.call 20 [.t 10]), po 9 (.mov (.t 11)), po 12 (.extract (.t 9) 0), po 13 (.extract (.t 9) 1), po 5 (.mov (.t 12)), po 6 (.mov (.t 13))] none) (.seq (.region 0 [po 14 (.mov (.t 6)), po 15 (.bin .neq (.t 14) (.k (.int .i64 (0)))), po 16 (.mov (.t 15)), pg 17 (.mov (.t 1)) 16 false, pg 18 (.bin .lss (.t 17) (.k (.int .i64 (0)))) 16 false, po 19 (.pick (.t 16) (.k (.bool true)) (.t 18)), po 20 (.mov (.t 19)), pg 21 (.mov (.t 1)) 20 false, pg 22 (.mov (.t 0)) 20 false, pg 23 (.len false (.t 22)) 20 false, pg 24 (.bin .geq (.t 21) (.t 23)) 20 false, po 25 (.pick (.t 20) (.k (.bool true)) (.t 24)), po 26 (.mov (.t 25)), pg 27 (.mov (.t 0)) 26 false, pg 28 (.call 31 [.t 27]) 26 false, pg 29 (.mov (.t 1)) 26 false, pg 30 (.slAddr 4 1 (.t 28) (.t 29)) 26 false, pg 31 (.load 4 (.t 30)) 26 false, po 32 (.pick (.t 26) (.k (.bool true)) (.t 31))] none) (.cond (.t 32) (.seq (.region 0 [po 4 (.mov (.k (.nils)))] none) .ret) .skip))) (.seq (.region 1 [po 33 (.mov (.t 0)), po 34 (.mov (.t 1)), po 35 (.slAddr 24 5 (.t 33) (.t 34)), po 36 (.load 24 (.t 35)), po 7 (.alloc 0 24 (.agg 24 [.int .u8 (0), .int .u8 (0), .int .u8 (0), .int .i16 (0), .int .i32 (0)])), ps (.store 24 .agg (.t 7) (.t 36))] none) (.seq (.region 0 [po 37 (.mov (.t 1)), po 38 (.bin .add (.t 37) (.k (.int .i64 (1)))), po 39 (.fieldAddr 24 (.t 7) 3 3 22), po 40 (.load 22 (.t 39)), po 41 (.conv .i64 (.t 40)), po 42 (.bin .add (.t 38) (.t 41)), po 8 (.mov (.t 42))] none) (.seq (.block 0 (.seq (.region 0 [po 44 (.load 24 (.t 7)), po 45 (.call 32 [.t 44]), po 43 (.mov (.t 45))] none) (.cond (.t 43) (.seq (.region 0 [po 4 (.mov (.k (.nils)))] none) .ret) (.seq (.region 0 [po 47 (.load 24 (.t 7)), po 48 (.call 33 [.t 47]), po 46 (.mov (.t 48))] none) (.cond (.t 46) (.seq (.region 1 [po 49 (.mov (.t 1)), po 50 (.bin .add (.t 49) (.k (.int .i64 (2)))), po 51 (.bslice 0 3 1 (.int .i64) (.int .i64 (0)) [(0, (.t 50))]), po 4 (.mov (.t 51))] none) .ret) (.seq (.region 0 [po 53 (.load 24 (.t 7)), po 54 (.call 34 [.t 53]), po 55 (.bin .eql (.t 54) (.k (.int .u8 (5)))), po 56 (.mov (.t 55)), pg 57 (.load 24 (.t 7)) 56 true, pg 58 (.call 35 [.t 57]) 56 true, pg 59 (.bin .eql (.t 58) (.k (.int .u8 (0)))) 56 true, po 60 (.pick (.t 56) (.t 59) (.k (.bool false))), po 52 (.mov (.t 60))] none) (.cond (.t 52) (.seq (.region 1 [po 61 (.mov (.t 8)), po 62 (.bslice 0 3 1 (.int .i64) (.int .i64 (0)) [(0, (.t 61))]), po 4 (.mov (.t 62))] none) .ret) (.seq (.region 0 [po 64 (.load 24 (.t 7)), po 65 (.call 36 [.t 64]), po 63 (.mov (.t 65))] none) (.cond (.t 63) (.seq (.region 1 [po 66 (.mov (.t 1)), po 67 (.bin .add (.t 66) (.k (.int .i64 (1)))), po 68 (.mov (.t 8)), po 69 (.bslice 0 3 2 (.int .i64) (.int .i64 (0)) [(0, (.t 67)), (1, (.t 68))]), po 70 (.call 37 [.t 69]), po 4 (.mov (.t 70))] none) .ret) .skip))))))))) (.seq (.region 1 [po 71 (.mov (.t 1)), po 72 (.bin .add (.t 71) (.k (.int .i64 (1)))), po 73 (.bslice 0 3 1 (.int .i64) (.int .i64 (0)) [(0, (.t 72))]), po 4 (.mov (.t 73))] none) .ret))))))
def rs_Follow : List ResultVar := [.tmp 4]
@[reducible] def fq_Follow (r : ((Nat × (Nat -> Int)))) (n0 : Nat) (g0 : (Nat -> SInsn)) : V -> Heap -> Prop := freshQ [(24, .row false n0 (fun i => (v24 (g0 i))))] [(3, .row true r.1 (fun i => (V.int .i64 (r.2 i))))] (slV 0 r.1 3)
def phi_Follow (F_Right : T_Right) (F_halves : T_halves) (F_exits : SInsn -> Bool) (F_Wide : SInsn -> Bool) (F_scls : SInsn -> Int) (F_what : SInsn -> Int) (F_jumps : SInsn -> Bool) (r : ((Nat × (Nat -> Int)))) (n0 : Nat) (g0 : (Nat -> SInsn)) (a1 : Int) : Prop :=
 ((∀ i, i < n0 -> (d24 (v24 (g0 i))).isSome = true) /\ (pre_Right n0 g0)) /\
 ((((F_Right n0 g0).2 : Int) != 0) = false -> ((decide (a1 < 0)) = false -> ((decide (a1 >= ((n0 : Nat) : Int))) = false -> ((∀ i, i < n0 -> (d24 (v24 (g0 i))).isSome = true) /\ (pre_halves n0 g0)) /\ (0 <= a1 /\ a1 < ((F_halves n0 g0).1 : Nat)) /\ (((F_halves n0 g0).2 a1.toNat) = true -> Leaf (fq_Follow r n0 g0 V.nils [(24, .row false n0 (fun i => (v24 (g0 i)))), (4, .row true (F_halves n0 g0).1 (fun i => (V.bool ((F_halves n0 g0).2 i))))])) /\ (((F_halves n0 g0).2 a1.toNat) = false -> (0 <= a1 /\ a1 < (n0 : Nat)) /\ ((F_exits (g0 a1.toNat)) = true -> Leaf (fq_Follow r n0 g0 V.nils [(24, .row false n0 (fun i => (v24 (g0 i)))), (4, .row true (F_halves n0 g0).1 (fun i => (V.bool ((F_halves n0 g0).2 i)))), (24, .row true 1 (updF (fun _ => (V.agg 24 [(V.int .u8 0), (V.int .u8 0), (V.int .u8 0), (V.int .i16 0), (V.int .i32 0)])) 0 (v24 (g0 a1.toNat))))])) /\ ((F_exits (g0 a1.toNat)) = false -> ((F_Wide (g0 a1.toNat)) = true -> Leaf (fq_Follow r n0 g0 (slV 3 1 3) [(24, .row false n0 (fun i => (v24 (g0 i)))), (4, .row true (F_halves n0 g0).1 (fun i => (V.bool ((F_halves n0 g0).2 i)))), (24, .row true 1 (updF (fun _ => (V.agg 24 [(V.int .u8 0), (V.int .u8 0), (V.int .u8 0), (V.int .i16 0), (V.int .i32 0)])) 0 (v24 (g0 a1.toNat)))), (3, .row true 1 (updF (fun _ => (V.int .i64 0)) 0 (V.int .i64 (IntKind.i64.wrap (a1 + 2)))))])) /\ ((F_Wide (g0 a1.toNat)) = false -> ((((F_scls (g0 a1.toNat)) : Int) == 5) = true -> ((((F_what (g0 a1.toNat)) : Int) == 0) = true -> Leaf (fq_Follow r n0 g0 (slV 3 1 3) [(24, .row false n0 (fun i => (v24 (g0 i)))), (4, .row true (F_halves n0 g0).1 (fun i => (V.bool ((F_halves n0 g0).2 i)))), (24, .row true 1 (updF (fun _ => (V.agg 24 [(V.int .u8 0), (V.int .u8 0), (V.int .u8 0), (V.int .i16 0), (V.int .i32 0)])) 0 (v24 (g0 a1.toNat)))), (3, .row true 1 (updF (fun _ => (V.int .i64 0)) 0 (V.int .i64 (IntKind.i64.wrap (((IntKind.i64.wrap (a1 + 1)) : Int) + (IntKind.i64.wrap (g0 a1.toNat).off))))))])) /\ ((((F_what (g0 a1.toNat)) : Int) == 0) = false -> ((F_jumps (g0 a1.toNat)) = true -> ((2 : Nat) = 2 /\ ((fun _ => 0) : Nat -> Nat) = (fun _ => 0) /\ (∀ i, i < 2 -> (dI .i64 ((updF (updF (fun _ => (V.int .i64 0)) 0 (V.int .i64 (IntKind.i64.wrap (a1 + 1)))) 1 (V.int .i64 (IntKind.i64.wrap (((IntKind.i64.wrap (a1 + 1)) : Int) + (IntKind.i64.wrap (g0 a1.toNat).off))))) i)).isSome = true) /\ 2 <= 1000000) /\ Leaf (fq_Follow r n0 g0 (slV 4 (cmpN 2 (intG (updF (updF (fun _ => (V.int .i64 0)) 0 (V.int .i64 (IntKind.i64.wrap (a1 + 1)))) 1 (V.int .i64 (IntKind.i64.wrap (((IntKind.i64.wrap (a1 + 1)) : Int) + (IntKind.i64.wrap (g0 a1.toNat).off))))))) 3) [(24, .row false n0 (fun i => (v24 (g0 i)))), (4, .row true (F_halves n0 g0).1 (fun i => (V.bool ((F_halves n0 g0).2 i)))), (24, .row true 1 (updF (fun _ => (V.agg 24 [(V.int .u8 0), (V.int .u8 0), (V.int .u8 0), (V.int .i16 0), (V.int .i32 0)])) 0 (v24 (g0 a1.toNat)))), (3, .gone), (3, .row true (cmpN 2 (intG (updF (updF (fun _ => (V.int .i64 0)) 0 (V.int .i64 (IntKind.i64.wrap (a1 + 1)))) 1 (V.int .i64 (IntKind.i64.wrap (((IntKind.i64.wrap (a1 + 1)) : Int) + (IntKind.i64.wrap (g0 a1.toNat).off))))))) (fun i => V.int .i64 ((cmpF 2 (intG (updF (updF (fun _ => (V.int .i64 0)) 0 (V.int .i64 (IntKind.i64.wrap (a1 + 1)))) 1 (V.int .i64 (IntKind.i64.wrap (((IntKind.i64.wrap (a1 + 1)) : Int) + (IntKind.i64.wrap (g0 a1.toNat).off))))))) i)))])) /\ ((F_jumps (g0 a1.toNat)) = false -> Leaf (fq_Follow r n0 g0 (slV 3 1 3) [(24, .row false n0 (fun i => (v24 (g0 i)))), (4, .row true (F_halves n0 g0).1 (fun i => (V.bool ((F_halves n0 g0).2 i)))), (24, .row true 1 (updF (fun _ => (V.agg 24 [(V.int .u8 0), (V.int .u8 0), (V.int .u8 0), (V.int .i16 0), (V.int .i32 0)])) 0 (v24 (g0 a1.toNat)))), (3, .row true 1 (updF (fun _ => (V.int .i64 0)) 0 (V.int .i64 (IntKind.i64.wrap (a1 + 1)))))])))) /\ ((((F_scls (g0 a1.toNat)) : Int) == 5) = false -> ((F_jumps (g0 a1.toNat)) = true -> ((2 : Nat) = 2 /\ ((fun _ => 0) : Nat -> Nat) = (fun _ => 0) /\ (∀ i, i < 2 -> (dI .i64 ((updF (updF (fun _ => (V.int .i64 0)) 0 (V.int .i64 (IntKind.i64.wrap (a1 + 1)))) 1 (V.int .i64 (IntKind.i64.wrap (((IntKind.i64.wrap (a1 + 1)) : Int) + (IntKind.i64.wrap (g0 a1.toNat).off))))) i)).isSome = true) /\ 2 <= 1000000) /\ Leaf (fq_Follow r n0 g0 (slV 4 (cmpN 2 (intG (updF (updF (fun _ => (V.int .i64 0)) 0 (V.int .i64 (IntKind.i64.wrap (a1 + 1)))) 1 (V.int .i64 (IntKind.i64.wrap (((IntKind.i64.wrap (a1 + 1)) : Int) + (IntKind.i64.wrap (g0 a1.toNat).off))))))) 3) [(24, .row false n0 (fun i => (v24 (g0 i)))), (4, .row true (F_halves n0 g0).1 (fun i => (V.bool ((F_halves n0 g0).2 i)))), (24, .row true 1 (updF (fun _ => (V.agg 24 [(V.int .u8 0), (V.int .u8 0), (V.int .u8 0), (V.int .i16 0), (V.int .i32 0)])) 0 (v24 (g0 a1.toNat)))), (3, .gone), (3, .row true (cmpN 2 (intG (updF (updF (fun _ => (V.int .i64 0)) 0 (V.int .i64 (IntKind.i64.wrap (a1 + 1)))) 1 (V.int .i64 (IntKind.i64.wrap (((IntKind.i64.wrap (a1 + 1)) : Int) + (IntKind.i64.wrap (g0 a1.toNat).off))))))) (fun i => V.int .i64 ((cmpF 2 (intG (updF (updF (fun _ => (V.int .i64 0)) 0 (V.int .i64 (IntKind.i64.wrap (a1 + 1)))) 1 (V.int .i64 (IntKind.i64.wrap (((IntKind.i64.wrap (a1 + 1)) : Int) + (IntKind.i64.wrap (g0 a1.toNat).off))))))) i)))])) /\ ((F_jumps (g0 a1.toNat)) = false -> Leaf (fq_Follow r n0 g0 (slV 3 1 3) [(24, .row false n0 (fun i => (v24 (g0 i)))), (4, .row true (F_halves n0 g0).1 (fun i => (V.bool ((F_halves n0 g0).2 i)))), (24, .row true 1 (updF (fun _ => (V.agg 24 [(V.int .u8 0), (V.int .u8 0), (V.int .u8 0), (V.int .i16 0), (V.int .i32 0)])) 0 (v24 (g0 a1.toNat)))), (3, .row true 1 (updF (fun _ => (V.int .i64 0)) 0 (V.int .i64 (IntKind.i64.wrap (a1 + 1)))))]))))))) /\ ((decide (a1 >= ((n0 : Nat) : Int))) = true -> Leaf (fq_Follow r n0 g0 V.nils [(24, .row false n0 (fun i => (v24 (g0 i))))]))) /\ ((decide (a1 < 0)) = true -> Leaf (fq_Follow r n0 g0 V.nils [(24, .row false n0 (fun i => (v24 (g0 i))))]))) /\
 ((((F_Right n0 g0).2 : Int) != 0) = true -> Leaf (fq_Follow r n0 g0 V.nils [(24, .row false n0 (fun i => (v24 (g0 i))))]))
theorem Follow_runs (F_Right : T_Right) (F_halves : T_halves) (F_exits : SInsn -> Bool) (F_Wide : SInsn -> Bool) (F_scls : SInsn -> Int) (F_what : SInsn -> Int) (F_jumps : SInsn -> Bool) (r : ((Nat × (Nat -> Int)))) (n0 : Nat) (g0 : (Nat -> SInsn)) (a1 : Int) (S : List It -> Env -> Heap -> Prop) :
 (Ran (D_Follow F_Right F_halves F_exits F_Wide F_scls F_what F_jumps) (fun _ => false) S (retV rs_Follow (fq_Follow r n0 g0)) 4000 [.code ir_Follow] (argsE 0 [(slV 0 n0 24), (V.int .i64 a1)]) [(24, .row false n0 (fun i => (v24 (g0 i))))]) = phi_Follow F_Right F_halves F_exits F_Wide F_scls F_what F_jumps r n0 g0 a1 := by kernel_rfl
theorem Follow_phi (n0 : Nat) (g0 : (Nat -> SInsn)) (a1 : Int) (hp : pre_Follow n0 g0 a1) : phi_Follow F_Right F_halves F_exits F_Wide F_scls F_what F_jumps (F_Follow n0 g0 a1) n0 g0 a1 := by
 unfold phi_Follow
 have e := F_Follow.eq_1 n0 g0 a1
 refine ⟨⟨(fun _ _ => rfl), hp⟩, ?_⟩
 refine brf e (fun h0 e => ?_) (fun h0 e => ?_)
 ·refine brf e (fun h1 e => ?_) (fun h1 e => ?_)
  ·refine brf e (fun h2 e => ?_) (fun h2 e => ?_)
   ·refine ⟨⟨(fun _ _ => rfl), (by clear e; simp only [pre_Follow, pre_halves] at *; omega)⟩, (by clear e; simp only [pre_Follow, decide_eq_true_eq, decide_eq_false_iff_not] at *; have e := @halves_len n0 g0 (by omega); omega), ?_⟩
    refine br e (fun h3 e => ?_) (fun h3 e => ?_)
    ·rw [e]; exact ⟨⟨[some 0, none], rfl, rfl, ⟨rfl, ⟨_, _, rfl⟩, trivial⟩, (.inr ⟨rfl, rfl, rfl, rfl, rfl, rfl, _, rfl⟩), rfl⟩⟩
    refine ⟨(by clear e; simp only [pre_Follow, decide_eq_true_eq, decide_eq_false_iff_not] at *; have e := @halves_len n0 g0 (by omega); omega), ?_⟩
    refine br e (fun h4 e => ?_) (fun h4 e => ?_)
    ·rw [e]; exact ⟨⟨[some 0, none], rfl, rfl, ⟨rfl, ⟨_, _, rfl⟩, trivial⟩, (.inr ⟨rfl, rfl, rfl, rfl, rfl, rfl, _, rfl⟩), rfl⟩⟩
    refine br e (fun h5 e => ?_) (fun h5 e => ?_)
    ·rw [e]; exact ⟨⟨[some 0, some 3], rfl, rfl, ⟨rfl, blk_eq (e := fun x => (V.int .i64 x)) (updF_e (fun _ => rfl) rfl), trivial⟩, (.inl ⟨_, rfl⟩), rfl⟩⟩
    refine br e (fun h6 e => ?_) (fun h6 e => ?_)
    ·refine br e (fun h7 e => ?_) (fun h7 e => ?_)
     ·rw [e]; exact ⟨⟨[some 0, some 3], rfl, rfl, ⟨rfl, blk_eq (e := fun x => (V.int .i64 x)) (updF_e (fun _ => rfl) rfl), trivial⟩, (.inl ⟨_, rfl⟩), rfl⟩⟩
     refine br e (fun h8 e => ?_) (fun h8 e => ?_)
     ·refine ⟨⟨rfl, rfl, (fun i _ => (updF_is (p := fun v => (dI .i64 v).isSome) (updF_is (p := fun v => (dI .i64 v).isSome) (fun _ => rfl) rfl) rfl) i), (by omega)⟩, ?_⟩
      rw [e]; exact ⟨⟨[some 0, some 4], rfl, rfl, ⟨rfl, blk_eq (e := fun x => (V.int .i64 x)) (fun _ => rfl), trivial⟩, (.inl ⟨_, rfl⟩), rfl⟩⟩
     rw [e]; exact ⟨⟨[some 0, some 3], rfl, rfl, ⟨rfl, blk_eq (e := fun x => (V.int .i64 x)) (updF_e (fun _ => rfl) rfl), trivial⟩, (.inl ⟨_, rfl⟩), rfl⟩⟩
    refine br e (fun h7 e => ?_) (fun h7 e => ?_)
    ·refine ⟨⟨rfl, rfl, (fun i _ => (updF_is (p := fun v => (dI .i64 v).isSome) (updF_is (p := fun v => (dI .i64 v).isSome) (fun _ => rfl) rfl) rfl) i), (by omega)⟩, ?_⟩
     rw [e]; exact ⟨⟨[some 0, some 4], rfl, rfl, ⟨rfl, blk_eq (e := fun x => (V.int .i64 x)) (fun _ => rfl), trivial⟩, (.inl ⟨_, rfl⟩), rfl⟩⟩
    rw [e]; exact ⟨⟨[some 0, some 3], rfl, rfl, ⟨rfl, blk_eq (e := fun x => (V.int .i64 x)) (updF_e (fun _ => rfl) rfl), trivial⟩, (.inl ⟨_, rfl⟩), rfl⟩⟩
   rw [e]; exact ⟨⟨[some 0, none], rfl, rfl, ⟨rfl, ⟨_, _, rfl⟩, trivial⟩, (.inr ⟨rfl, rfl, rfl, rfl, rfl, rfl, _, rfl⟩), rfl⟩⟩
  rw [e]; exact ⟨⟨[some 0, none], rfl, rfl, ⟨rfl, ⟨_, _, rfl⟩, trivial⟩, (.inr ⟨rfl, rfl, rfl, rfl, rfl, rfl, _, rfl⟩), rfl⟩⟩
 rw [e]; exact ⟨⟨[some 0, none], rfl, rfl, ⟨rfl, ⟨_, _, rfl⟩, trivial⟩, (.inr ⟨rfl, rfl, rfl, rfl, rfl, rfl, _, rfl⟩), rfl⟩⟩
def cc_Follow (F_Follow : T_Follow) (vs : List V) (H : Heap) : Option (Pre × V × Heap) :=
 match vs with
 | [x0, x1] => (sl (d24) 24 H x0).bind fun s0 => (dI .i64 x1).bind fun a1 => some (some (Pre.ok s0.1 /\ pre_Follow s0.2.1 s0.2.2 a1), (slV 0 (F_Follow s0.2.1 s0.2.2 a1).1 3), [(3, .row true (F_Follow s0.2.1 s0.2.2 a1).1 (fun i => (V.int .i64 ((F_Follow s0.2.1 s0.2.2 a1).2 i))))])
 | _ => none
def c_Follow := cc_Follow F_Follow
theorem Follow_fn : Fn Try.prog 18 ir_Follow 2 rs_Follow := Fn.mk2 (code := Try.f18.body.getD .skip) Try.func18
theorem Follow_spec : Spec Try.prog 18 (Con.heap (freshD c_Follow)).d := by
 refine spec_fresh Follow_fn D_Follow_known (fun _ => false) 4000 (fun vs H p v bl h hp ρ w hR hw => ?_)
 unfold c_Follow cc_Follow at h
 split at h
 ·rename_i x0 x1
  obtain ⟨⟨p0, n0, g0⟩, e0, h⟩ := Option.bind_eq_some_iff.1 h
  obtain ⟨a1, e1, h⟩ := Option.bind_eq_some_iff.1 h
  obtain ⟨rfl, h'⟩ := Prod.mk.inj (Option.some.inj h)
  obtain ⟨rfl, rfl⟩ := Prod.mk.inj h'
  obtain ⟨hp0, hp⟩ := hp
  obtain ⟨w0, w1, _⟩ := hw
  obtain ⟨⟨π0, κ0, δ0, ν0, ε0, t0, m0, f0⟩, k0, ht0, hm0, hf0, q0⟩ := sl_view (e := fun x => (v24 x)) (fun _ _ h => d24_eq h) (fun a => (plain24 a)) e0 hp0 hR w0
  simp only at ht0 hm0 hf0
  have hm0 := hm0.symm
  subst ht0 hm0 hf0
  have q1 : Eqv x1 (V.int .i64 a1) := Eqv.of <| dI_eq e1
  refine ⟨[⟨π0, κ0, δ0, ν0, ε0, 24, n0, fun i => (v24 (g0 i))⟩], [(slV 0 n0 24), (V.int .i64 a1)], ?_, ?_, ?_, Nat.le_refl _, ?_, ?_, ?_⟩
  ·intro x hx; simp only [List.mem_cons, List.not_mem_nil, or_false] at hx
   rcases hx with rfl
   ·exact k0
  ·exact (vals_cons ((conc_slV (v := ⟨π0, κ0, δ0, ν0, ε0, 24, n0, fun i => (v24 (g0 i))⟩) (fun _ _ _ => rfl)).trans q0.symm) (vals_cons ((plain_conc _ plain_int).trans (q1.conc ρ).symm) rfl))
  ·exact ⟨wf_slV rfl, plain_wf _ plain_int (q1.wf _ _ w1), trivial⟩
  ·intro x hx; simp only [List.mem_cons, List.not_mem_nil, or_false] at hx
   rcases hx with rfl
   ·exact ⟨rfl, fun _ _ => plain_int⟩
  ·exact fun n => (.inl ⟨_, rfl⟩)
  ·exact fun S _ => Eq.mpr (Follow_runs F_Right F_halves F_exits F_Wide F_scls F_what F_jumps (F_Follow n0 g0 a1) n0 g0 a1 S) (Follow_phi n0 g0 a1 hp)
 ·cases h
section
def AllOk (n : Nat) (g : Nat -> SInsn) : Prop := ∀ a, a < n -> OkI (g a)
theorem AllOk.off {n : Nat} {g : Nat -> SInsn} (h : AllOk n g) : OffP n g := fun a ha => ⟨(h a ha).off0, (h a ha).off1⟩
theorem or_false3 {a b c d e f : Bool} (h : (a || b || c || d || e || f) = false) : a = false /\ b = false /\ c = false /\ d = false /\ e = false /\ f = false := by
 cases a <;> cases b <;> cases c <;> cases d <;> cases e <;> cases f <;> simp_all
namespace Okay
variable {n : Nat} {g : Nat -> SInsn}
theorem pos (h : Okay n g) : 0 < n := h.enc.1
theorem le (h : Okay n g) : n <= 512 := h.enc.2.1
theorem known (h : Okay n g) {a : Nat} (ha : a < n) (hh : halfS g a = false) : F_Known (g a) = true := (h.enc.2.2 a ha hh).1
theorem second (h : Okay n g) {a : Nat} (ha : a < n) (hh : halfS g a = true) : (g a).op = 0 := by
 cases a with
 | zero => cases hh
 | succ a =>
  have h1 : halfS g a = false := by
   cases e : halfS g a
   ·rfl
   ·rw [halfS, e] at hh; cases hh
  have h2 : (g a).op = 24 := by rw [half_next h1] at hh; simpa using hh
  exact ((h.enc.2.2 a (by omega) h1).2 h2).2.1
theorem wrong (h : Okay n g) {a : Nat} (ha : a < n) (hh : halfS g a = false ∨ a + 1 = n) : wrongS n g a = false := by
 have := h.good a ha
 unfold badS at this
 rcases hh with hh | hh
 ·rw [hh] at this; simpa using this
 ·rw [decide_eq_true hh] at this; simpa using this
theorem last (h : Okay n g) {a : Nat} (ha : a + 1 = n) : F_exits (g a) = true := by
 obtain ⟨_, _, _, _, _, h6⟩ := or_false3 (h.wrong (a := a) (by omega) (.inr ha))
 rw [decide_eq_true ha] at h6
 simpa using h6
theorem next (h : Okay n g) {a : Nat} (ha : a < n) (hx : F_exits (g a) = false) : a + 1 < n := by
 by_cases e : a + 1 = n
 ·rw [h.last e] at hx; cases hx
 ·omega
theorem wide (h : Okay n g) {a : Nat} (ha : a < n) (hh : halfS g a = false) (hw : (g a).op = 24) : a + 2 < n /\ halfS g (a + 2) = false := by
 have h1 : halfS g (a + 1) = true := by rw [half_next hh]; simp [hw]
 have h2 := ((h.enc.2.2 a ha hh).2 hw).1
 have h3 := h.next h2 (ok_second (h.second h2 h1))
 exact ⟨h3, half_after h1⟩
end Okay
theorem compact2 (x y : Int) : Lib.compact [x, y] = if x = y then [x] else [x, y] := by
 unfold Lib.compact
 show Lib.compactUpTo [x, y].toArray 2 = _
 rw [Lib.compactUpTo_succ, Lib.compactUpTo_succ]
 have k0 : Lib.keeps [x, y].toArray 0 = true := by simp [Lib.keeps]
 have e0 : Lib.compactUpTo [x, y].toArray 0 = [] := rfl
 rw [k0, e0]
 by_cases h : x = y
 ·have k1 : Lib.keeps [x, y].toArray 1 = false := Lib.keeps_neg (by omega) (by simp [h])
  rw [k1]; simp [h]
 ·have k1 : Lib.keeps [x, y].toArray 1 = true := Lib.keeps_pos (by simp; exact fun e => h e.symm)
  rw [k1]; simp [h]
theorem zs2 (x y : Int) : zsOf 2 (intG (updF (updF (fun _ => (V.int .i64 0)) 0 (V.int .i64 x)) 1 (V.int .i64 y))) = [x, y] := rfl
theorem cmp2_eq {x : Int} : cmpN 2 (intG (updF (updF (fun _ => (V.int .i64 0)) 0 (V.int .i64 x)) 1 (V.int .i64 x))) = 1 /\ cmpF 2 (intG (updF (updF (fun _ => (V.int .i64 0)) 0 (V.int .i64 x)) 1 (V.int .i64 x))) 0 = x := by
 unfold cmpN cmpF cmpL
 rw [zs2, compact2, if_pos rfl]; exact ⟨rfl, rfl⟩
theorem cmp2_ne {x y : Int} (h : x ≠ y) : cmpN 2 (intG (updF (updF (fun _ => (V.int .i64 0)) 0 (V.int .i64 x)) 1 (V.int .i64 y))) = 2 /\ cmpF 2 (intG (updF (updF (fun _ => (V.int .i64 0)) 0 (V.int .i64 x)) 1 (V.int .i64 y))) 0 = x /\
 cmpF 2 (intG (updF (updF (fun _ => (V.int .i64 0)) 0 (V.int .i64 x)) 1 (V.int .i64 y))) 1 = y := by
 unfold cmpN cmpF cmpL
 rw [zs2, compact2, if_neg h]; exact ⟨rfl, rfl, rfl⟩
inductive Next (g : Nat -> SInsn) (a : Nat) (F : Nat × (Nat -> Int)) : Prop
 | ends (h : F_exits (g a) = true) (k : F.1 = 0)
 | wide (h : F_exits (g a) = false) (w : (g a).op = 24) (k : F.1 = 1) (v : F.2 0 = (a : Int) + 2)
 | ja (h : F_exits (g a) = false) (w : (g a).op ≠ 24) (j : F_jumps (g a) = true) (o : (g a).op = 5) (k : F.1 = 1) (v : F.2 0 = (a : Int) + 1 + (g a).off)
 | one (h : F_exits (g a) = false) (w : (g a).op ≠ 24) (j : F_jumps (g a) = true) (o : (g a).op ≠ 5) (z : (g a).off = 0) (k : F.1 = 1) (v : F.2 0 = (a : Int) + 1)
 | two (h : F_exits (g a) = false) (w : (g a).op ≠ 24) (j : F_jumps (g a) = true) (o : (g a).op ≠ 5) (z : (g a).off ≠ 0) (k : F.1 = 2) (v : F.2 0 = (a : Int) + 1) (u : F.2 1 = (a : Int) + 1 + (g a).off)
 | on (h : F_exits (g a) = false) (w : (g a).op ≠ 24) (j : F_jumps (g a) = false) (k : F.1 = 1) (v : F.2 0 = (a : Int) + 1)
theorem Follow_next {n : Nat} {g : Nat -> SInsn} (hk : AllOk n g) (h : Okay n g) {a : Nat} (ha : a < n) (hh : halfS g a = false) : Next g a (F_Follow n g (a : Int)) := by
 have hn := h.le
 have t : ((a : Int)).toNat = a := rfl
 have hok := hk a ha
 have h0 := hok.off0
 have h1 := hok.off1
 have e : F_Follow n g (a : Int) = bif F_exits (g a) then ((0 : Nat), fun _ => default) else bif F_Wide (g a) then ((1 : Nat), updF (fun _ => 0) 0 ((a : Int) + 2)) else
  bif F_scls (g a) == 5 && F_what (g a) == 0 then ((1 : Nat), updF (fun _ => 0) 0 ((a : Int) + 1 + (g a).off)) else
  bif F_jumps (g a) then (cmpN 2 (intG (updF (updF (fun _ => (V.int .i64 0)) 0 (V.int .i64 ((a : Int) + 1))) 1 (V.int .i64 ((a : Int) + 1 + (g a).off)))), cmpF 2 (intG (updF (updF (fun _ => (V.int .i64 0)) 0 (V.int .i64 ((a : Int) + 1))) 1 (V.int .i64 ((a : Int) + 1 + (g a).off))))) else
  ((1 : Nat), updF (fun _ => 0) 0 ((a : Int) + 1)) := by
  unfold F_Follow
  rw [h.right hk.off, show (((0 : Int), (0 : Int)).2 != 0) = false from rfl, cond_false, decide_eq_false (show ¬ (a : Int) < 0 by omega), cond_false, decide_eq_false (show ¬ (a : Int) >= ((n : Nat) : Int) by omega), cond_false, t, halves_at (by omega) ha, hh, cond_false]
  rw [i64_id (k := (a : Int) + 1) (by omega) (by omega), i64_id (k := (a : Int) + 2) (by omega) (by omega), i64_id (k := (g a).off) (by omega) (by omega), i64_id (k := (a : Int) + 1 + (g a).off) (by omega) (by omega)]
  cases F_scls (g a) == 5 <;> cases F_what (g a) == 0 <;> rfl
 rw [e]
 have hkn := h.known ha hh
 cases hx : F_exits (g a)
 ·rw [cond_false]
  by_cases hw : (g a).op = 24
  ·rw [F_Wide_eq, beq_iff_eq.2 hw, cond_true]; exact .wide hx hw rfl rfl
  ·rw [F_Wide_eq, beq_eq_false_iff_ne.2 hw, cond_false, ok_ja hok hkn]
   by_cases ho : (g a).op = 5
   ·rw [beq_iff_eq.2 ho, cond_true]
    exact .ja hx hw (ok_ja_jumps hok (by rw [ok_ja hok hkn]; exact beq_iff_eq.2 ho)) ho rfl rfl
   ·rw [beq_eq_false_iff_ne.2 ho, cond_false]
    cases hj : F_jumps (g a)
    ·rw [cond_false]; exact .on hx hw hj rfl rfl
    ·rw [cond_true]
     by_cases hz : (g a).off = 0
     ·rw [hz, Int.add_zero]
      obtain ⟨k1, k2⟩ := @cmp2_eq ((a : Int) + 1)
      exact .one hx hw hj ho hz k1 k2
     ·obtain ⟨k1, k2, k3⟩ := @cmp2_ne ((a : Int) + 1) ((a : Int) + 1 + (g a).off) (by omega)
      exact .two hx hw hj ho hz k1 k2 k3
 ·rw [cond_true]; exact .ends hx rfl
theorem bif_fst {c : Bool} {x y : Nat × (Nat -> Int)} (hx : x.1 <= 2) (hy : y.1 <= 2) : (bif c then x else y).1 <= 2 := by cases c; exact hy; exact hx
theorem Follow_le (n : Nat) (g : Nat -> SInsn) (a : Int) : (F_Follow n g a).1 <= 2 := by
 unfold F_Follow
 repeat' (first | (with_reducible apply bif_fst) | exact cmp_le _ _ | exact Nat.zero_le _ | exact Nat.le_refl _ | (show (1 : Nat) <= 2; omega))
end
theorem CsOk.follow {c : SCase} (hc : CsOk c) (h : (!(F_program c).2) = false) : pre_Follow (F_program c).1.1 (F_program c).1.2 0 := by
 have := prog_ok hc.ins hc.second (by simpa using h)
 exact ⟨by have := this.high; omega, fun i hi => (this.ins i hi).2.2.2.1⟩
mutual
def L_StepOnward_2 : Nat -> SCase -> Int -> Int -> Bool
 | 0, _, _, _ => default
 | n + 1, c0, s10, s13 =>
 (bif (decide ((s13 : Int) < 512)) then (bif ((F_state c0.nr c0.regs c0.ns c0.stack).stack s13.toNat) then (bif (!(((outC F_Step F_env F_program c0 (F_state c0.nr c0.regs c0.ns c0.stack)).1.2 s10.toNat).state.stack s13.toNat)) then false
 else (L_StepOnward_2 n c0 s10 (IntKind.i64.wrap ((s13 : Int) + 1))))
 else (L_StepOnward_2 n c0 s10 (IntKind.i64.wrap ((s13 : Int) + 1))))
 else (L_StepOnward_0 n c0 (IntKind.i64.wrap ((s10 : Int) + 1))))
def L_StepOnward_1 : Nat -> SCase -> Int -> Bool -> Int -> Bool
 | 0, _, _, _, _ => default
 | n + 1, c0, s10, s11, s12 =>
 (bif (decide ((s12 : Int) < (((F_Follow (F_program c0).1.1 (F_program c0).1.2 0).1 : Nat) : Int))) then (bif s11 then (L_StepOnward_1 n c0 s10 true (IntKind.i64.wrap ((s12 : Int) + 1)))
 else (L_StepOnward_1 n c0 s10 ((((F_Follow (F_program c0).1.1 (F_program c0).1.2 0).2 s12.toNat) : Int) == ((outC F_Step F_env F_program c0 (F_state c0.nr c0.regs c0.ns c0.stack)).1.2 s10.toNat).pC) (IntKind.i64.wrap ((s12 : Int) + 1))))
 else (bif (!s11) then false
 else (bif (decide ((((outC F_Step F_env F_program c0 (F_state c0.nr c0.regs c0.ns c0.stack)).1.2 s10.toNat).pC : Int) <= 0)) then false
 else (bif (decide ((((outC F_Step F_env F_program c0 (F_state c0.nr c0.regs c0.ns c0.stack)).1.2 s10.toNat).pC : Int) >= (((F_program c0).1.1 : Nat) : Int))) then false
 else (bif ((c0.ins.dst : Int) != 10) then (bif (!(veqB (v38 (((outC F_Step F_env F_program c0 (F_state c0.nr c0.regs c0.ns c0.stack)).1.2 s10.toNat).state.regs 10)) (v38 ((F_state c0.nr c0.regs c0.ns c0.stack).regs 10)))) then false
 else (L_StepOnward_2 n c0 s10 0))
 else (L_StepOnward_2 n c0 s10 0))))))
def L_StepOnward_0 : Nat -> SCase -> Int -> Bool
 | 0, _, _ => default
 | n + 1, c0, s10 =>
 (bif (decide ((s10 : Int) < (((outC F_Step F_env F_program c0 (F_state c0.nr c0.regs c0.ns c0.stack)).1.1 : Nat) : Int))) then (L_StepOnward_1 n c0 s10 false 0)
 else F_shown)
end
def F_StepOnward (c0 : SCase) : Bool :=
 (bif (!(F_program c0).2) then F_shown else (bif (((outC F_Step F_env F_program c0 (F_state c0.nr c0.regs c0.ns c0.stack)).2 : Int) != 0) then (bif F_shown then (bif (((outC F_Step F_env F_program c0 (F_state c0.nr c0.regs c0.ns c0.stack)).2 : Int) == 7) then (((((outC F_Step F_env F_program c0 (F_state c0.nr c0.regs c0.ns c0.stack)).1.1 : Nat) : Int) : Int) == 0) else false) else false) else (bif (decide (((((outC F_Step F_env F_program c0 (F_state c0.nr c0.regs c0.ns c0.stack)).1.1 : Nat) : Int) : Int) > 2)) then false else (L_StepOnward_0 6001 c0 0))))
def pre_StepOnward (c0 : SCase) : Prop := CsOk c0
def D_StepOnward (F_shown : Bool) (F_program : T_program) (F_state : T_state) (F_env : SCase -> SEnv) (F_Step : T_Step) (F_Follow : T_Follow) : List (Nat × Con) := [(8, .pure (cc_shown F_shown)), (9, .heap (freshD (cc_program F_program))), (13, .read (cc_state F_state)), (12, .mkr (cc_envM F_env)), (11, .heap (freshD (cc_Step F_Step))), (18, .heap (freshD (cc_Follow F_Follow)))]
theorem D_StepOnward_known : Known Try.prog (D_StepOnward F_shown F_program F_state F_env F_Step F_Follow) := (known_cons shown_spec (known_cons program_spec (known_cons state_spec (known_cons envM_spec (known_cons Step_spec (known_cons Follow_spec known_nil))))))
def lb_StepOnward_2 : IR := (.seq (.seq (.region 0 [po 117 (.mov (.t 13)), po 118 (.bin .lss (.t 117) (.k (.int .i64 (512))))] none) (.cond (.t 118) .skip (.exit 4))) (.seq (.block 5 (.seq (.region 0 [po 121 (.mov (.t 13)), po 122 (.fieldAddr 42 (.t 6) 1 66 40), po 123 (.arrAddr 40 512 1 4 (.t 122) (.t 121)), po 124 (.load 4 (.t 123)), po 125 (.mov (.t 124)), pg 126 (.mov (.t 7)) 125 true, pg 127 (.mov (.t 10)) 125 true, pg 128 (.mov (.t 13)) 125 true, pg 129 (.slAddr 54 579 (.t 126) (.t 127)) 125 true, pg 130 (.fieldAddr 54 (.t 129) 1 1 42) 125 true, pg 131 (.fieldAddr 42 (.t 130) 1 66 40) 125 true, pg 132 (.arrAddr 40 512 1 4 (.t 131) (.t 128)) 125 true, pg 133 (.load 4 (.t 132)) 125 true, pg 134 (.un .not (.t 133)) 125 true, po 135 (.pick (.t 125) (.t 134) (.k (.bool false)))] none) (.cond (.t 135) (.seq (.region 0 [po 2 (.mov (.k (.bool false)))] none) .ret) .skip))) (.region 0 [po 119 (.mov (.t 13)), po 120 (.bin .add (.t 119) (.k (.int .i64 (1)))), po 13 (.mov (.t 120))] none)))
def lb_StepOnward_1 : IR := (.seq (.seq (.region 0 [po 59 (.mov (.t 12)), po 60 (.mov (.t 9)), po 61 (.len false (.t 60)), po 62 (.bin .lss (.t 59) (.t 61))] none) (.cond (.t 62) .skip (.exit 2))) (.seq (.block 3 (.region 0 [po 65 (.mov (.t 11)), po 66 (.mov (.t 65)), pg 67 (.mov (.t 9)) 66 false, pg 68 (.mov (.t 12)) 66 false, pg 69 (.slAddr 3 1 (.t 67) (.t 68)) 66 false, pg 70 (.load 3 (.t 69)) 66 false, pg 71 (.mov (.t 7)) 66 false, pg 72 (.mov (.t 10)) 66 false, pg 73 (.slAddr 54 579 (.t 71) (.t 72)) 66 false, pg 74 (.fieldAddr 54 (.t 73) 0 0 3) 66 false, pg 75 (.load 3 (.t 74)) 66 false, pg 76 (.bin .eql (.t 70) (.t 75)) 66 false, po 77 (.pick (.t 66) (.k (.bool true)) (.t 76)), po 11 (.mov (.t 77))] (some [[], [], [], [2], [], [], [2, 3, 4, 5], [2, 3, 4, 5, 6], [2, 3, 4, 5], [2, 3, 4, 5], [2, 3, 4, 5], [], [], []]))) (.region 0 [po 63 (.mov (.t 12)), po 64 (.bin .add (.t 63) (.k (.int .i64 (1)))), po 12 (.mov (.t 64))] none)))
def lb_StepOnward_0 : IR := (.seq (.seq (.region 0 [po 53 (.mov (.t 10)), po 54 (.mov (.t 7)), po 55 (.len false (.t 54)), po 56 (.bin .lss (.t 53) (.t 55))] none) (.cond (.t 56) .skip (.exit 0))) (.seq (.block 1 (.seq (.region 0 [po 11 (.mov (.k (.bool false)))] none) (.seq (.seq (.region 0 [po 12 (.mov (.k (.int .i64 (0))))] none) (.block 2 (.loop lb_StepOnward_1))) (.seq (.seq (.region 0 [po 78 (.mov (.t 11)), po 79 (.un .not (.t 78)), po 80 (.mov (.t 79)), pg 81 (.mov (.t 7)) 80 false, pg 82 (.mov (.t 10)) 80 false, pg 83 (.slAddr 54 579 (.t 81) (.t 82)) 80 false, pg 84 (.fieldAddr 54 (.t 83) 0 0 3) 80 false, pg 85 (.load 3 (.t 84)) 80 false, pg 86 (.bin .leq (.t 85) (.k (.int .i64 (0)))) 80 false, po 87 (.pick (.t 80) (.k (.bool true)) (.t 86)), po 88 (.mov (.t 87)), pg 89 (.mov (.t 7)) 88 false, pg 90 (.mov (.t 10)) 88 false, pg 91 (.slAddr 54 579 (.t 89) (.t 90)) 88 false, pg 92 (.fieldAddr 54 (.t 91) 0 0 3) 88 false, pg 93 (.load 3 (.t 92)) 88 false, pg 94 (.mov (.t 4)) 88 false, pg 95 (.len false (.t 94)) 88 false, pg 96 (.bin .geq (.t 93) (.t 95)) 88 false, po 97 (.pick (.t 88) (.k (.bool true)) (.t 96)), po 98 (.mov (.t 97)), pg 99 (.fieldAddr 29 (.t 1) 0 0 24) 98 false, pg 100 (.fieldAddr 24 (.t 99) 1 1 5) 98 false, pg 101 (.load 5 (.t 100)) 98 false, pg 102 (.bin .neq (.t 101) (.k (.int .u8 (10)))) 98 false, pg 103 (.mov (.t 102)) 98 false, pg 104 (.mov (.t 7)) 103 true, pg 105 (.mov (.t 10)) 103 true, pg 106 (.slAddr 54 579 (.t 104) (.t 105)) 103 true, pg 107 (.fieldAddr 54 (.t 106) 1 1 42) 103 true, pg 108 (.fieldAddr 42 (.t 107) 0 0 39) 103 true, pg 109 (.arrAddr 39 11 6 38 (.t 108) (.k (.int .i64 (10)))) 103 true, pg 110 (.load 38 (.t 109)) 103 true, pg 111 (.fieldAddr 42 (.t 6) 0 0 39) 103 true, pg 112 (.arrAddr 39 11 6 38 (.t 111) (.k (.int .i64 (10)))) 103 true, pg 113 (.load 38 (.t 112)) 103 true, pg 114 (.eqv 38 .agg true (.t 110) (.t 113)) 103 true, pg 115 (.pick (.t 103) (.t 114) (.k (.bool false))) 98 false, po 116 (.pick (.t 98) (.k (.bool true)) (.t 115))] (some [[], [], [], [], [3], [], [], [], [], [], [], [], [11], [], [], [], [11, 12, 13, 14, 15], [11, 12, 13, 14, 15], [], [], [], [], [], [], [], [], [], [26], [], [], [], [], [], [26, 27, 28, 29, 30, 31, 32], [26, 27, 28, 29, 30, 31, 32], [26, 27, 28, 29, 30, 31, 32], [], [], []])) (.cond (.t 116) (.seq (.region 0 [po 2 (.mov (.k (.bool false)))] none) .ret) .skip)) (.seq (.region 0 [po 13 (.mov (.k (.int .i64 (0))))] none) (.block 4 (.loop lb_StepOnward_2))))))) (.region 0 [po 57 (.mov (.t 10)), po 58 (.bin .add (.t 57) (.k (.int .i64 (1)))), po 10 (.mov (.t 58))] none)))
def ir_StepOnward : IR := (.seq (.region 1 [po 1 (.box 0 29 .agg (.t 0)), po 2 (.mov (.k (.bool false)))] none) (.seq (.region 0 [po 14 (.call 8 []), po 3 (.mov (.t 14))] none) (.seq (.region 0 [po 16 (.load 29 (.t 1)), po 17 (.call 9 [.t 16]), po 15 (.mov (.t 17)), po 18 (.extract (.t 15) 0), po 19 (.extract (.t 15) 1), po 4 (.mov (.t 18)), po 5 (.mov (.t 19))] none) (.seq (.seq (.region 0 [po 20 (.mov (.t 5)), po 21 (.un .not (.t 20))] none) (.cond (.t 21) (.seq (.region 0 [po 22 (.mov (.t 3)), po 2 (.mov (.t 22))] none) .ret) .skip)) (.seq (.region 1 [po 23 (.fieldAddr 29 (.t 1) 2 10 25), po 24 (.load 25 (.t 23)), po 25 (.fieldAddr 29 (.t 1) 3 11 26), po 26 (.load 26 (.t 25)), po 27 (.call 13 [.t 24, .t 26]), po 6 (.alloc 0 42 (.agg 42 [.arr 39 11 (fun _ => .agg 38 [.int .i64 (0), .agg 36 [.int .u64 (0), .int .u64 (0)], .int .i64 (0), .int .i64 (0), .int .i64 (0)]), .arr 40 512 (fun _ => .bool false)])), ps (.store 42 .agg (.t 6) (.t 27))] none) (.seq (.region 0 [po 29 (.load 29 (.t 1)), po 30 (.call 12 [.t 29]), po 31 (.load 42 (.t 6)), po 32 (.mov (.t 4)), po 33 (.call 11 [.t 30, .t 31, .t 32, .k (.int .i64 (0))]), po 28 (.mov (.t 33)), po 34 (.extract (.t 28) 0), po 35 (.extract (.t 28) 1), po 7 (.mov (.t 34)), po 8 (.mov (.t 35))] (some [[], [], [0, 1], [0, 1, 2], [], [], [], [6], [7], []])) (.seq (.seq (.region 0 [po 36 (.mov (.t 8)), po 37 (.bin .neq (.t 36) (.k (.int .i64 (0))))] none) (.cond (.t 37) (.seq (.region 0 [po 38 (.mov (.t 3)), po 39 (.mov (.t 38)), pg 40 (.mov (.t 8)) 39 true, pg 41 (.bin .eql (.t 40) (.k (.int .i64 (7)))) 39 true, po 42 (.pick (.t 39) (.t 41) (.k (.bool false))), po 43 (.mov (.t 42)), pg 44 (.mov (.t 7)) 43 true, pg 45 (.len false (.t 44)) 43 true, pg 46 (.bin .eql (.t 45) (.k (.int .i64 (0)))) 43 true, po 47 (.pick (.t 43) (.t 46) (.k (.bool false))), po 2 (.mov (.t 47))] none) .ret) .skip)) (.seq (.region 0 [po 48 (.mov (.t 4)), po 49 (.call 18 [.t 48, .k (.int .i64 (0))]), po 9 (.mov (.t 49))] none) (.seq (.seq (.region 0 [po 50 (.mov (.t 7)), po 51 (.len false (.t 50)), po 52 (.bin .gtr (.t 51) (.k (.int .i64 (2))))] none) (.cond (.t 52) (.seq (.region 0 [po 2 (.mov (.k (.bool false)))] none) .ret) .skip)) (.seq (.seq (.region 0 [po 10 (.mov (.k (.int .i64 (0))))] none) (.block 0 (.loop lb_StepOnward_0))) (.seq (.region 0 [po 136 (.mov (.t 3)), po 2 (.mov (.t 136))] none) .ret)))))))))))
def rs_StepOnward : List ResultVar := [.tmp 2]
def live_StepOnward (d : Nat) : List Nat := bif Nat.beq d 1 then [1, 3, 4, 6, 7, 9, 10] else bif Nat.beq d 3 then [1, 3, 4, 6, 7, 9, 10, 11, 12] else bif Nat.beq d 5 then [1, 3, 4, 6, 7, 9, 10, 13] else []
def kh_StepOnward_2 : List It := [.code lb_StepOnward_2, .inLoop lb_StepOnward_2, .inBlock 4, .inBlock 1, .code (.region 0 [po 57 (.mov (.t 10)), po 58 (.bin .add (.t 57) (.k (.int .i64 (1)))), po 10 (.mov (.t 58))] none), .inLoop lb_StepOnward_0, .inBlock 0, .code (.seq (.region 0 [po 136 (.mov (.t 3)), po 2 (.mov (.t 136))] none) .ret)]
def kh_StepOnward_1 : List It := [.code lb_StepOnward_1, .inLoop lb_StepOnward_1, .inBlock 2, .code (.seq (.seq (.region 0 [po 78 (.mov (.t 11)), po 79 (.un .not (.t 78)), po 80 (.mov (.t 79)), pg 81 (.mov (.t 7)) 80 false, pg 82 (.mov (.t 10)) 80 false, pg 83 (.slAddr 54 579 (.t 81) (.t 82)) 80 false, pg 84 (.fieldAddr 54 (.t 83) 0 0 3) 80 false, pg 85 (.load 3 (.t 84)) 80 false, pg 86 (.bin .leq (.t 85) (.k (.int .i64 (0)))) 80 false, po 87 (.pick (.t 80) (.k (.bool true)) (.t 86)), po 88 (.mov (.t 87)), pg 89 (.mov (.t 7)) 88 false, pg 90 (.mov (.t 10)) 88 false, pg 91 (.slAddr 54 579 (.t 89) (.t 90)) 88 false, pg 92 (.fieldAddr 54 (.t 91) 0 0 3) 88 false, pg 93 (.load 3 (.t 92)) 88 false, pg 94 (.mov (.t 4)) 88 false, pg 95 (.len false (.t 94)) 88 false, pg 96 (.bin .geq (.t 93) (.t 95)) 88 false, po 97 (.pick (.t 88) (.k (.bool true)) (.t 96)), po 98 (.mov (.t 97)), pg 99 (.fieldAddr 29 (.t 1) 0 0 24) 98 false, pg 100 (.fieldAddr 24 (.t 99) 1 1 5) 98 false, pg 101 (.load 5 (.t 100)) 98 false, pg 102 (.bin .neq (.t 101) (.k (.int .u8 (10)))) 98 false, pg 103 (.mov (.t 102)) 98 false, pg 104 (.mov (.t 7)) 103 true, pg 105 (.mov (.t 10)) 103 true, pg 106 (.slAddr 54 579 (.t 104) (.t 105)) 103 true, pg 107 (.fieldAddr 54 (.t 106) 1 1 42) 103 true, pg 108 (.fieldAddr 42 (.t 107) 0 0 39) 103 true, pg 109 (.arrAddr 39 11 6 38 (.t 108) (.k (.int .i64 (10)))) 103 true, pg 110 (.load 38 (.t 109)) 103 true, pg 111 (.fieldAddr 42 (.t 6) 0 0 39) 103 true, pg 112 (.arrAddr 39 11 6 38 (.t 111) (.k (.int .i64 (10)))) 103 true, pg 113 (.load 38 (.t 112)) 103 true, pg 114 (.eqv 38 .agg true (.t 110) (.t 113)) 103 true, pg 115 (.pick (.t 103) (.t 114) (.k (.bool false))) 98 false, po 116 (.pick (.t 98) (.k (.bool true)) (.t 115))] (some [[], [], [], [], [3], [], [], [], [], [], [], [], [11], [], [], [], [11, 12, 13, 14, 15], [11, 12, 13, 14, 15], [], [], [], [], [], [], [], [], [], [26], [], [], [], [], [], [26, 27, 28, 29, 30, 31, 32], [26, 27, 28, 29, 30, 31, 32], [26, 27, 28, 29, 30, 31, 32], [], [], []])) (.cond (.t 116) (.seq (.region 0 [po 2 (.mov (.k (.bool false)))] none) .ret) .skip)) (.seq (.region 0 [po 13 (.mov (.k (.int .i64 (0))))] none) (.block 4 (.loop lb_StepOnward_2)))), .inBlock 1, .code (.region 0 [po 57 (.mov (.t 10)), po 58 (.bin .add (.t 57) (.k (.int .i64 (1)))), po 10 (.mov (.t 58))] none), .inLoop lb_StepOnward_0, .inBlock 0, .code (.seq (.region 0 [po 136 (.mov (.t 3)), po 2 (.mov (.t 136))] none) .ret)]
def kh_StepOnward_0 : List It := [.code lb_StepOnward_0, .inLoop lb_StepOnward_0, .inBlock 0, .code (.seq (.region 0 [po 136 (.mov (.t 3)), po 2 (.mov (.t 136))] none) .ret)]
def phi_StepOnward (F_shown : Bool) (F_program : T_program) (F_state : T_state) (F_env : SCase -> SEnv) (F_Step : T_Step) (F_Follow : T_Follow) (S : List It -> Env -> Heap -> Prop) (r : (Bool)) (c0 : SCase) : Prop :=
 (((∀ i, i < c0.nr -> (d76 (v76 (c0.regs i))).isSome = true) /\ (∀ i, i < c0.ns -> (dB (V.bool (c0.stack i))).isSome = true) /\ (∀ i, i < c0.nm -> (d73 (v73 (c0.maps i))).isSome = true)) /\ (pre_program c0)) /\
 ((!(F_program c0).2) = true -> Leaf ((V.bool F_shown) = (V.bool r))) /\
 ((!(F_program c0).2) = false -> ((∀ i, i < c0.nr -> (d76 (v76 (c0.regs i))).isSome = true) /\ (∀ i, i < c0.ns -> (dB (V.bool (c0.stack i))).isSome = true)) /\ (((∀ i, i < c0.nr -> (d76 (v76 (c0.regs i))).isSome = true) /\ (∀ i, i < c0.ns -> (dB (V.bool (c0.stack i))).isSome = true) /\ (∀ i, i < c0.nm -> (d73 (v73 (c0.maps i))).isSome = true))) /\ ((∀ i, i < (F_env c0).nm -> (d73 (v73 ((F_env c0).maps i))).isSome = true) /\ (∀ i, i < (F_program c0).1.1 -> (d24 (v24 ((F_program c0).1.2 i))).isSome = true) /\ (pre_Step (F_env c0) (F_state c0.nr c0.regs c0.ns c0.stack) (F_program c0).1.1 (F_program c0).1.2 0)) /\ true = true /\ ((((outC F_Step F_env F_program c0 (F_state c0.nr c0.regs c0.ns c0.stack)).2 : Int) != 0) = true -> (F_shown = true -> ((((outC F_Step F_env F_program c0 (F_state c0.nr c0.regs c0.ns c0.stack)).2 : Int) == 7) = true -> Leaf ((V.bool (((((outC F_Step F_env F_program c0 (F_state c0.nr c0.regs c0.ns c0.stack)).1.1 : Nat) : Int) : Int) == 0)) = (V.bool r))) /\ ((((outC F_Step F_env F_program c0 (F_state c0.nr c0.regs c0.ns c0.stack)).2 : Int) == 7) = false -> Leaf ((V.bool false) = (V.bool r)))) /\ (F_shown = false -> Leaf ((V.bool false) = (V.bool r)))) /\ ((((outC F_Step F_env F_program c0 (F_state c0.nr c0.regs c0.ns c0.stack)).2 : Int) != 0) = false -> ((∀ i, i < (F_program c0).1.1 -> (d24 (v24 ((F_program c0).1.2 i))).isSome = true) /\ (pre_Follow (F_program c0).1.1 (F_program c0).1.2 0)) /\ ((decide (((((outC F_Step F_env F_program c0 (F_state c0.nr c0.regs c0.ns c0.stack)).1.1 : Nat) : Int) : Int) > 2)) = true -> Leaf ((V.bool false) = (V.bool r))) /\ ((decide (((((outC F_Step F_env F_program c0 (F_state c0.nr c0.regs c0.ns c0.stack)).1.1 : Nat) : Int) : Int) > 2)) = false -> S kh_StepOnward_0 [(1, (.ptr 3 0 [0] 29)), (3, (V.bool F_shown)), (4, (slV 4 (F_program c0).1.1 24)), (6, (.ptr 5 0 [0] 42)), (7, (slV 7 (outC F_Step F_env F_program c0 (F_state c0.nr c0.regs c0.ns c0.stack)).1.1 54)), (9, (slV 8 (F_Follow (F_program c0).1.1 (F_program c0).1.2 0).1 3)), (10, (V.int .i64 0))] (csC c0 [(29, .row true 1 (fun _ => (csV c0))), (24, .row true (F_program c0).1.1 (fun i => (v24 ((F_program c0).1.2 i)))), (42, .row true 1 (updF (fun _ => (V.agg 42 [(v39 (fun _ => zR)), (v40 (fun _ => false))])) 0 (v42 (F_state c0.nr c0.regs c0.ns c0.stack)))), (73, .row true (F_env c0).nm (fun i => (v73 ((F_env c0).maps i)))), (54, .row true (outC F_Step F_env F_program c0 (F_state c0.nr c0.regs c0.ns c0.stack)).1.1 (fun i => (v54 ((outC F_Step F_env F_program c0 (F_state c0.nr c0.regs c0.ns c0.stack)).1.2 i)))), (3, .row true (F_Follow (F_program c0).1.1 (F_program c0).1.2 0).1 (fun i => (V.int .i64 ((F_Follow (F_program c0).1.1 (F_program c0).1.2 0).2 i))))]))))
theorem StepOnward_runs (F_shown : Bool) (F_program : T_program) (F_state : T_state) (F_env : SCase -> SEnv) (F_Step : T_Step) (F_Follow : T_Follow) (r : (Bool)) (c0 : SCase) (S : List It -> Env -> Heap -> Prop) :
 (Ran (D_StepOnward F_shown F_program F_state F_env F_Step F_Follow) (fun _ => false) (cutV live_StepOnward S) (retV rs_StepOnward fun u _ => u = (V.bool r)) 4000 [.code ir_StepOnward] (argsE 0 [(csV c0)]) (csC c0 [])) = phi_StepOnward F_shown F_program F_state F_env F_Step F_Follow S r c0 := by kernel_rfl
def M_StepOnward_2 (n : Nat) (c0 : SCase) (s10 : Int) (s13 : Int) : Prop := 0 <= s10 /\ s10 < ((outC F_Step F_env F_program c0 (F_state c0.nr c0.regs c0.ns c0.stack)).1.1 : Int) /\ 0 <= s13 /\ s13 <= 512 /\ 2000 * (2 - s10) + 1 + (512 - s13) < n /\ ((outC F_Step F_env F_program c0 (F_state c0.nr c0.regs c0.ns c0.stack)).1.1 : Int) <= 2 /\ ((F_Follow (F_program c0).1.1 (F_program c0).1.2 0).1 : Int) <= 2
def E_StepOnward_2 (F_shown : Bool) (F_program : T_program) (F_state : T_state) (F_env : SCase -> SEnv) (F_Step : T_Step) (F_Follow : T_Follow) (c0 : SCase) (s10 : Int) (s13 : Int) : Env := [(1, (.ptr 3 0 [0] 29)), (3, (V.bool F_shown)), (4, (slV 4 (F_program c0).1.1 24)), (6, (.ptr 5 0 [0] 42)), (7, (slV 6 (outC F_Step F_env F_program c0 (F_state c0.nr c0.regs c0.ns c0.stack)).1.1 54)), (9, (slV 7 (F_Follow (F_program c0).1.1 (F_program c0).1.2 0).1 3)), (10, (V.int .i64 s10)), (13, (V.int .i64 s13))]
def H_StepOnward_2 (F_shown : Bool) (F_program : T_program) (F_state : T_state) (F_env : SCase -> SEnv) (F_Step : T_Step) (F_Follow : T_Follow) (c0 : SCase) (s10 : Int) (s13 : Int) : Heap := (csC c0 [(29, .row true 1 (fun _ => (csV c0))), (24, .row true (F_program c0).1.1 (fun i => (v24 ((F_program c0).1.2 i)))), (42, .row true 1 (fun _ => (v42 (F_state c0.nr c0.regs c0.ns c0.stack)))), (54, .row true (outC F_Step F_env F_program c0 (F_state c0.nr c0.regs c0.ns c0.stack)).1.1 (fun i => (v54 ((outC F_Step F_env F_program c0 (F_state c0.nr c0.regs c0.ns c0.stack)).1.2 i)))), (3, .row true (F_Follow (F_program c0).1.1 (F_program c0).1.2 0).1 (fun i => (V.int .i64 ((F_Follow (F_program c0).1.1 (F_program c0).1.2 0).2 i))))])
def phi_StepOnward_2 (F_shown : Bool) (F_program : T_program) (F_state : T_state) (F_env : SCase -> SEnv) (F_Step : T_Step) (F_Follow : T_Follow) (S : List It -> Env -> Heap -> Prop) (r : Bool) (c0 : SCase) (s10 : Int) (s13 : Int) : Prop :=
 ((decide (s13 < 512)) = true -> (0 <= s13 /\ s13 < (512 : Nat)) /\ (((F_state c0.nr c0.regs c0.ns c0.stack).stack s13.toNat) = true -> (0 <= s10 /\ s10 < ((outC F_Step F_env F_program c0 (F_state c0.nr c0.regs c0.ns c0.stack)).1.1 : Nat)) /\ (0 <= s13 /\ s13 < (512 : Nat)) /\ ((!(((outC F_Step F_env F_program c0 (F_state c0.nr c0.regs c0.ns c0.stack)).1.2 s10.toNat).state.stack s13.toNat)) = true -> Leaf ((V.bool false) = (V.bool r))) /\ ((!(((outC F_Step F_env F_program c0 (F_state c0.nr c0.regs c0.ns c0.stack)).1.2 s10.toNat).state.stack s13.toNat)) = false -> S kh_StepOnward_2 [(1, (.ptr 3 0 [0] 29)), (3, (V.bool F_shown)), (4, (slV 4 (F_program c0).1.1 24)), (6, (.ptr 5 0 [0] 42)), (7, (slV 6 (outC F_Step F_env F_program c0 (F_state c0.nr c0.regs c0.ns c0.stack)).1.1 54)), (9, (slV 7 (F_Follow (F_program c0).1.1 (F_program c0).1.2 0).1 3)), (10, (V.int .i64 s10)), (13, (V.int .i64 (IntKind.i64.wrap (s13 + 1))))] (csC c0 [(29, .row true 1 (fun _ => (csV c0))), (24, .row true (F_program c0).1.1 (fun i => (v24 ((F_program c0).1.2 i)))), (42, .row true 1 (fun _ => (v42 (F_state c0.nr c0.regs c0.ns c0.stack)))), (54, .row true (outC F_Step F_env F_program c0 (F_state c0.nr c0.regs c0.ns c0.stack)).1.1 (fun i => (v54 ((outC F_Step F_env F_program c0 (F_state c0.nr c0.regs c0.ns c0.stack)).1.2 i)))), (3, .row true (F_Follow (F_program c0).1.1 (F_program c0).1.2 0).1 (fun i => (V.int .i64 ((F_Follow (F_program c0).1.1 (F_program c0).1.2 0).2 i))))]))) /\ (((F_state c0.nr c0.regs c0.ns c0.stack).stack s13.toNat) = false -> S kh_StepOnward_2 [(1, (.ptr 3 0 [0] 29)), (3, (V.bool F_shown)), (4, (slV 4 (F_program c0).1.1 24)), (6, (.ptr 5 0 [0] 42)), (7, (slV 6 (outC F_Step F_env F_program c0 (F_state c0.nr c0.regs c0.ns c0.stack)).1.1 54)), (9, (slV 7 (F_Follow (F_program c0).1.1 (F_program c0).1.2 0).1 3)), (10, (V.int .i64 s10)), (13, (V.int .i64 (IntKind.i64.wrap (s13 + 1))))] (csC c0 [(29, .row true 1 (fun _ => (csV c0))), (24, .row true (F_program c0).1.1 (fun i => (v24 ((F_program c0).1.2 i)))), (42, .row true 1 (fun _ => (v42 (F_state c0.nr c0.regs c0.ns c0.stack)))), (54, .row true (outC F_Step F_env F_program c0 (F_state c0.nr c0.regs c0.ns c0.stack)).1.1 (fun i => (v54 ((outC F_Step F_env F_program c0 (F_state c0.nr c0.regs c0.ns c0.stack)).1.2 i)))), (3, .row true (F_Follow (F_program c0).1.1 (F_program c0).1.2 0).1 (fun i => (V.int .i64 ((F_Follow (F_program c0).1.1 (F_program c0).1.2 0).2 i))))]))) /\
 ((decide (s13 < 512)) = false -> S kh_StepOnward_0 [(1, (.ptr 3 0 [0] 29)), (3, (V.bool F_shown)), (4, (slV 4 (F_program c0).1.1 24)), (6, (.ptr 5 0 [0] 42)), (7, (slV 6 (outC F_Step F_env F_program c0 (F_state c0.nr c0.regs c0.ns c0.stack)).1.1 54)), (9, (slV 7 (F_Follow (F_program c0).1.1 (F_program c0).1.2 0).1 3)), (10, (V.int .i64 (IntKind.i64.wrap (s10 + 1))))] (csC c0 [(29, .row true 1 (fun _ => (csV c0))), (24, .row true (F_program c0).1.1 (fun i => (v24 ((F_program c0).1.2 i)))), (42, .row true 1 (fun _ => (v42 (F_state c0.nr c0.regs c0.ns c0.stack)))), (54, .row true (outC F_Step F_env F_program c0 (F_state c0.nr c0.regs c0.ns c0.stack)).1.1 (fun i => (v54 ((outC F_Step F_env F_program c0 (F_state c0.nr c0.regs c0.ns c0.stack)).1.2 i)))), (3, .row true (F_Follow (F_program c0).1.1 (F_program c0).1.2 0).1 (fun i => (V.int .i64 ((F_Follow (F_program c0).1.1 (F_program c0).1.2 0).2 i))))]))
theorem StepOnward_runs_2 (F_shown : Bool) (F_program : T_program) (F_state : T_state) (F_env : SCase -> SEnv) (F_Step : T_Step) (F_Follow : T_Follow) (S : List It -> Env -> Heap -> Prop) (r : Bool) (c0 : SCase) (s10 : Int) (s13 : Int) :
 Ran (D_StepOnward F_shown F_program F_state F_env F_Step F_Follow) (fun _ => false) (cutV live_StepOnward S) (retV rs_StepOnward fun u _ => u = (V.bool r)) 4000 kh_StepOnward_2 (E_StepOnward_2 F_shown F_program F_state F_env F_Step F_Follow c0 s10 s13) (H_StepOnward_2 F_shown F_program F_state F_env F_Step F_Follow c0 s10 s13) = phi_StepOnward_2 F_shown F_program F_state F_env F_Step F_Follow S r c0 s10 s13 := by kernel_rfl
def M_StepOnward_1 (n : Nat) (c0 : SCase) (s10 : Int) (s11 : Bool) (s12 : Int) : Prop := 0 <= s10 /\ s10 < ((outC F_Step F_env F_program c0 (F_state c0.nr c0.regs c0.ns c0.stack)).1.1 : Int) /\ 0 <= s12 /\ s12 <= ((F_Follow (F_program c0).1.1 (F_program c0).1.2 0).1 : Int) /\ 2000 * (2 - s10) + 600 + (2 - s12) < n /\ ((outC F_Step F_env F_program c0 (F_state c0.nr c0.regs c0.ns c0.stack)).1.1 : Int) <= 2 /\ ((F_Follow (F_program c0).1.1 (F_program c0).1.2 0).1 : Int) <= 2
def E_StepOnward_1 (F_shown : Bool) (F_program : T_program) (F_state : T_state) (F_env : SCase -> SEnv) (F_Step : T_Step) (F_Follow : T_Follow) (c0 : SCase) (s10 : Int) (s11 : Bool) (s12 : Int) : Env := [(1, (.ptr 3 0 [0] 29)), (3, (V.bool F_shown)), (4, (slV 4 (F_program c0).1.1 24)), (6, (.ptr 5 0 [0] 42)), (7, (slV 6 (outC F_Step F_env F_program c0 (F_state c0.nr c0.regs c0.ns c0.stack)).1.1 54)), (9, (slV 7 (F_Follow (F_program c0).1.1 (F_program c0).1.2 0).1 3)), (10, (V.int .i64 s10)), (11, (V.bool s11)), (12, (V.int .i64 s12))]
def H_StepOnward_1 (F_shown : Bool) (F_program : T_program) (F_state : T_state) (F_env : SCase -> SEnv) (F_Step : T_Step) (F_Follow : T_Follow) (c0 : SCase) (s10 : Int) (s11 : Bool) (s12 : Int) : Heap := (csC c0 [(29, .row true 1 (fun _ => (csV c0))), (24, .row true (F_program c0).1.1 (fun i => (v24 ((F_program c0).1.2 i)))), (42, .row true 1 (fun _ => (v42 (F_state c0.nr c0.regs c0.ns c0.stack)))), (54, .row true (outC F_Step F_env F_program c0 (F_state c0.nr c0.regs c0.ns c0.stack)).1.1 (fun i => (v54 ((outC F_Step F_env F_program c0 (F_state c0.nr c0.regs c0.ns c0.stack)).1.2 i)))), (3, .row true (F_Follow (F_program c0).1.1 (F_program c0).1.2 0).1 (fun i => (V.int .i64 ((F_Follow (F_program c0).1.1 (F_program c0).1.2 0).2 i))))])
def phi_StepOnward_1 (F_shown : Bool) (F_program : T_program) (F_state : T_state) (F_env : SCase -> SEnv) (F_Step : T_Step) (F_Follow : T_Follow) (S : List It -> Env -> Heap -> Prop) (r : Bool) (c0 : SCase) (s10 : Int) (s11 : Bool) (s12 : Int) : Prop :=
 ((decide (s12 < (((F_Follow (F_program c0).1.1 (F_program c0).1.2 0).1 : Nat) : Int))) = true -> (s11 = false -> (0 <= s12 /\ s12 < ((F_Follow (F_program c0).1.1 (F_program c0).1.2 0).1 : Nat)) /\ (0 <= s10 /\ s10 < ((outC F_Step F_env F_program c0 (F_state c0.nr c0.regs c0.ns c0.stack)).1.1 : Nat)) /\ true = true /\ S kh_StepOnward_1 [(1, (.ptr 3 0 [0] 29)), (3, (V.bool F_shown)), (4, (slV 4 (F_program c0).1.1 24)), (6, (.ptr 5 0 [0] 42)), (7, (slV 6 (outC F_Step F_env F_program c0 (F_state c0.nr c0.regs c0.ns c0.stack)).1.1 54)), (9, (slV 7 (F_Follow (F_program c0).1.1 (F_program c0).1.2 0).1 3)), (10, (V.int .i64 s10)), (11, (V.bool ((((F_Follow (F_program c0).1.1 (F_program c0).1.2 0).2 s12.toNat) : Int) == ((outC F_Step F_env F_program c0 (F_state c0.nr c0.regs c0.ns c0.stack)).1.2 s10.toNat).pC))), (12, (V.int .i64 (IntKind.i64.wrap (s12 + 1))))] (csC c0 [(29, .row true 1 (fun _ => (csV c0))), (24, .row true (F_program c0).1.1 (fun i => (v24 ((F_program c0).1.2 i)))), (42, .row true 1 (fun _ => (v42 (F_state c0.nr c0.regs c0.ns c0.stack)))), (54, .row true (outC F_Step F_env F_program c0 (F_state c0.nr c0.regs c0.ns c0.stack)).1.1 (fun i => (v54 ((outC F_Step F_env F_program c0 (F_state c0.nr c0.regs c0.ns c0.stack)).1.2 i)))), (3, .row true (F_Follow (F_program c0).1.1 (F_program c0).1.2 0).1 (fun i => (V.int .i64 ((F_Follow (F_program c0).1.1 (F_program c0).1.2 0).2 i))))])) /\ (s11 = true -> true = true /\ S kh_StepOnward_1 [(1, (.ptr 3 0 [0] 29)), (3, (V.bool F_shown)), (4, (slV 4 (F_program c0).1.1 24)), (6, (.ptr 5 0 [0] 42)), (7, (slV 6 (outC F_Step F_env F_program c0 (F_state c0.nr c0.regs c0.ns c0.stack)).1.1 54)), (9, (slV 7 (F_Follow (F_program c0).1.1 (F_program c0).1.2 0).1 3)), (10, (V.int .i64 s10)), (11, (V.bool true)), (12, (V.int .i64 (IntKind.i64.wrap (s12 + 1))))] (csC c0 [(29, .row true 1 (fun _ => (csV c0))), (24, .row true (F_program c0).1.1 (fun i => (v24 ((F_program c0).1.2 i)))), (42, .row true 1 (fun _ => (v42 (F_state c0.nr c0.regs c0.ns c0.stack)))), (54, .row true (outC F_Step F_env F_program c0 (F_state c0.nr c0.regs c0.ns c0.stack)).1.1 (fun i => (v54 ((outC F_Step F_env F_program c0 (F_state c0.nr c0.regs c0.ns c0.stack)).1.2 i)))), (3, .row true (F_Follow (F_program c0).1.1 (F_program c0).1.2 0).1 (fun i => (V.int .i64 ((F_Follow (F_program c0).1.1 (F_program c0).1.2 0).2 i))))]))) /\
 ((decide (s12 < (((F_Follow (F_program c0).1.1 (F_program c0).1.2 0).1 : Nat) : Int))) = false -> ((!s11) = false -> (0 <= s10 /\ s10 < ((outC F_Step F_env F_program c0 (F_state c0.nr c0.regs c0.ns c0.stack)).1.1 : Nat)) /\ ((decide ((((outC F_Step F_env F_program c0 (F_state c0.nr c0.regs c0.ns c0.stack)).1.2 s10.toNat).pC : Int) <= 0)) = false -> (0 <= s10 /\ s10 < ((outC F_Step F_env F_program c0 (F_state c0.nr c0.regs c0.ns c0.stack)).1.1 : Nat)) /\ ((decide ((((outC F_Step F_env F_program c0 (F_state c0.nr c0.regs c0.ns c0.stack)).1.2 s10.toNat).pC : Int) >= (((F_program c0).1.1 : Nat) : Int))) = false -> ((c0.ins.dst != 10) = true -> (0 <= s10 /\ s10 < ((outC F_Step F_env F_program c0 (F_state c0.nr c0.regs c0.ns c0.stack)).1.1 : Nat)) /\ (0 <= (10 : Int) /\ (10 : Int) < (11 : Nat)) /\ (0 <= (10 : Int) /\ (10 : Int) < (11 : Nat)) /\ veqOk (v38 (((outC F_Step F_env F_program c0 (F_state c0.nr c0.regs c0.ns c0.stack)).1.2 s10.toNat).state.regs 10)) (v38 ((F_state c0.nr c0.regs c0.ns c0.stack).regs 10)) /\ true = true /\ ((!(veqB (v38 (((outC F_Step F_env F_program c0 (F_state c0.nr c0.regs c0.ns c0.stack)).1.2 s10.toNat).state.regs 10)) (v38 ((F_state c0.nr c0.regs c0.ns c0.stack).regs 10)))) = true -> Leaf ((V.bool false) = (V.bool r))) /\ ((!(veqB (v38 (((outC F_Step F_env F_program c0 (F_state c0.nr c0.regs c0.ns c0.stack)).1.2 s10.toNat).state.regs 10)) (v38 ((F_state c0.nr c0.regs c0.ns c0.stack).regs 10)))) = false -> S kh_StepOnward_2 [(1, (.ptr 3 0 [0] 29)), (3, (V.bool F_shown)), (4, (slV 4 (F_program c0).1.1 24)), (6, (.ptr 5 0 [0] 42)), (7, (slV 6 (outC F_Step F_env F_program c0 (F_state c0.nr c0.regs c0.ns c0.stack)).1.1 54)), (9, (slV 7 (F_Follow (F_program c0).1.1 (F_program c0).1.2 0).1 3)), (10, (V.int .i64 s10)), (13, (V.int .i64 0))] (csC c0 [(29, .row true 1 (fun _ => (csV c0))), (24, .row true (F_program c0).1.1 (fun i => (v24 ((F_program c0).1.2 i)))), (42, .row true 1 (fun _ => (v42 (F_state c0.nr c0.regs c0.ns c0.stack)))), (54, .row true (outC F_Step F_env F_program c0 (F_state c0.nr c0.regs c0.ns c0.stack)).1.1 (fun i => (v54 ((outC F_Step F_env F_program c0 (F_state c0.nr c0.regs c0.ns c0.stack)).1.2 i)))), (3, .row true (F_Follow (F_program c0).1.1 (F_program c0).1.2 0).1 (fun i => (V.int .i64 ((F_Follow (F_program c0).1.1 (F_program c0).1.2 0).2 i))))]))) /\ ((c0.ins.dst != 10) = false -> true = true /\ S kh_StepOnward_2 [(1, (.ptr 3 0 [0] 29)), (3, (V.bool F_shown)), (4, (slV 4 (F_program c0).1.1 24)), (6, (.ptr 5 0 [0] 42)), (7, (slV 6 (outC F_Step F_env F_program c0 (F_state c0.nr c0.regs c0.ns c0.stack)).1.1 54)), (9, (slV 7 (F_Follow (F_program c0).1.1 (F_program c0).1.2 0).1 3)), (10, (V.int .i64 s10)), (13, (V.int .i64 0))] (csC c0 [(29, .row true 1 (fun _ => (csV c0))), (24, .row true (F_program c0).1.1 (fun i => (v24 ((F_program c0).1.2 i)))), (42, .row true 1 (fun _ => (v42 (F_state c0.nr c0.regs c0.ns c0.stack)))), (54, .row true (outC F_Step F_env F_program c0 (F_state c0.nr c0.regs c0.ns c0.stack)).1.1 (fun i => (v54 ((outC F_Step F_env F_program c0 (F_state c0.nr c0.regs c0.ns c0.stack)).1.2 i)))), (3, .row true (F_Follow (F_program c0).1.1 (F_program c0).1.2 0).1 (fun i => (V.int .i64 ((F_Follow (F_program c0).1.1 (F_program c0).1.2 0).2 i))))]))) /\ ((decide ((((outC F_Step F_env F_program c0 (F_state c0.nr c0.regs c0.ns c0.stack)).1.2 s10.toNat).pC : Int) >= (((F_program c0).1.1 : Nat) : Int))) = true -> true = true /\ Leaf ((V.bool false) = (V.bool r)))) /\ ((decide ((((outC F_Step F_env F_program c0 (F_state c0.nr c0.regs c0.ns c0.stack)).1.2 s10.toNat).pC : Int) <= 0)) = true -> true = true /\ Leaf ((V.bool false) = (V.bool r)))) /\ ((!s11) = true -> true = true /\ Leaf ((V.bool false) = (V.bool r))))
theorem StepOnward_runs_1 (F_shown : Bool) (F_program : T_program) (F_state : T_state) (F_env : SCase -> SEnv) (F_Step : T_Step) (F_Follow : T_Follow) (S : List It -> Env -> Heap -> Prop) (r : Bool) (c0 : SCase) (s10 : Int) (s11 : Bool) (s12 : Int) :
 Ran (D_StepOnward F_shown F_program F_state F_env F_Step F_Follow) (fun _ => false) (cutV live_StepOnward S) (retV rs_StepOnward fun u _ => u = (V.bool r)) 4000 kh_StepOnward_1 (E_StepOnward_1 F_shown F_program F_state F_env F_Step F_Follow c0 s10 s11 s12) (H_StepOnward_1 F_shown F_program F_state F_env F_Step F_Follow c0 s10 s11 s12) = phi_StepOnward_1 F_shown F_program F_state F_env F_Step F_Follow S r c0 s10 s11 s12 := by kernel_rfl
def M_StepOnward_0 (n : Nat) (c0 : SCase) (s10 : Int) : Prop := 0 <= s10 /\ s10 <= ((outC F_Step F_env F_program c0 (F_state c0.nr c0.regs c0.ns c0.stack)).1.1 : Int) /\ 2000 * (3 - s10) < n /\ ((outC F_Step F_env F_program c0 (F_state c0.nr c0.regs c0.ns c0.stack)).1.1 : Int) <= 2 /\ ((F_Follow (F_program c0).1.1 (F_program c0).1.2 0).1 : Int) <= 2
def E_StepOnward_0 (F_shown : Bool) (F_program : T_program) (F_state : T_state) (F_env : SCase -> SEnv) (F_Step : T_Step) (F_Follow : T_Follow) (c0 : SCase) (s10 : Int) : Env := [(1, (.ptr 3 0 [0] 29)), (3, (V.bool F_shown)), (4, (slV 4 (F_program c0).1.1 24)), (6, (.ptr 5 0 [0] 42)), (7, (slV 6 (outC F_Step F_env F_program c0 (F_state c0.nr c0.regs c0.ns c0.stack)).1.1 54)), (9, (slV 7 (F_Follow (F_program c0).1.1 (F_program c0).1.2 0).1 3)), (10, (V.int .i64 s10))]
def H_StepOnward_0 (F_shown : Bool) (F_program : T_program) (F_state : T_state) (F_env : SCase -> SEnv) (F_Step : T_Step) (F_Follow : T_Follow) (c0 : SCase) (s10 : Int) : Heap := (csC c0 [(29, .row true 1 (fun _ => (csV c0))), (24, .row true (F_program c0).1.1 (fun i => (v24 ((F_program c0).1.2 i)))), (42, .row true 1 (fun _ => (v42 (F_state c0.nr c0.regs c0.ns c0.stack)))), (54, .row true (outC F_Step F_env F_program c0 (F_state c0.nr c0.regs c0.ns c0.stack)).1.1 (fun i => (v54 ((outC F_Step F_env F_program c0 (F_state c0.nr c0.regs c0.ns c0.stack)).1.2 i)))), (3, .row true (F_Follow (F_program c0).1.1 (F_program c0).1.2 0).1 (fun i => (V.int .i64 ((F_Follow (F_program c0).1.1 (F_program c0).1.2 0).2 i))))])
def phi_StepOnward_0 (F_shown : Bool) (F_program : T_program) (F_state : T_state) (F_env : SCase -> SEnv) (F_Step : T_Step) (F_Follow : T_Follow) (S : List It -> Env -> Heap -> Prop) (r : Bool) (c0 : SCase) (s10 : Int) : Prop :=
 ((decide (s10 < (((outC F_Step F_env F_program c0 (F_state c0.nr c0.regs c0.ns c0.stack)).1.1 : Nat) : Int))) = true -> S kh_StepOnward_1 [(1, (.ptr 3 0 [0] 29)), (3, (V.bool F_shown)), (4, (slV 4 (F_program c0).1.1 24)), (6, (.ptr 5 0 [0] 42)), (7, (slV 6 (outC F_Step F_env F_program c0 (F_state c0.nr c0.regs c0.ns c0.stack)).1.1 54)), (9, (slV 7 (F_Follow (F_program c0).1.1 (F_program c0).1.2 0).1 3)), (10, (V.int .i64 s10)), (11, (V.bool false)), (12, (V.int .i64 0))] (csC c0 [(29, .row true 1 (fun _ => (csV c0))), (24, .row true (F_program c0).1.1 (fun i => (v24 ((F_program c0).1.2 i)))), (42, .row true 1 (fun _ => (v42 (F_state c0.nr c0.regs c0.ns c0.stack)))), (54, .row true (outC F_Step F_env F_program c0 (F_state c0.nr c0.regs c0.ns c0.stack)).1.1 (fun i => (v54 ((outC F_Step F_env F_program c0 (F_state c0.nr c0.regs c0.ns c0.stack)).1.2 i)))), (3, .row true (F_Follow (F_program c0).1.1 (F_program c0).1.2 0).1 (fun i => (V.int .i64 ((F_Follow (F_program c0).1.1 (F_program c0).1.2 0).2 i))))])) /\
 ((decide (s10 < (((outC F_Step F_env F_program c0 (F_state c0.nr c0.regs c0.ns c0.stack)).1.1 : Nat) : Int))) = false -> Leaf ((V.bool F_shown) = (V.bool r)))
theorem StepOnward_runs_0 (F_shown : Bool) (F_program : T_program) (F_state : T_state) (F_env : SCase -> SEnv) (F_Step : T_Step) (F_Follow : T_Follow) (S : List It -> Env -> Heap -> Prop) (r : Bool) (c0 : SCase) (s10 : Int) :
 Ran (D_StepOnward F_shown F_program F_state F_env F_Step F_Follow) (fun _ => false) (cutV live_StepOnward S) (retV rs_StepOnward fun u _ => u = (V.bool r)) 4000 kh_StepOnward_0 (E_StepOnward_0 F_shown F_program F_state F_env F_Step F_Follow c0 s10) (H_StepOnward_0 F_shown F_program F_state F_env F_Step F_Follow c0 s10) = phi_StepOnward_0 F_shown F_program F_state F_env F_Step F_Follow S r c0 s10 := by kernel_rfl
theorem StepOnward_loops_0 {S : List It -> Env -> Heap -> Prop} {r : Bool} (c0 : SCase) (hS : Sem Try.prog (D_StepOnward F_shown F_program F_state F_env F_Step F_Follow) 3 (retV rs_StepOnward fun u _ => u = (V.bool r)) S) : ∀ (n : Nat), (∀ (s10 : Int) (s13 : Int), M_StepOnward_2 n c0 s10 s13 -> L_StepOnward_2 n c0 s10 s13 = r -> S kh_StepOnward_2 (E_StepOnward_2 F_shown F_program F_state F_env F_Step F_Follow c0 s10 s13) (H_StepOnward_2 F_shown F_program F_state F_env F_Step F_Follow c0 s10 s13)) /\ (∀ (s10 : Int) (s11 : Bool) (s12 : Int), M_StepOnward_1 n c0 s10 s11 s12 -> L_StepOnward_1 n c0 s10 s11 s12 = r -> S kh_StepOnward_1 (E_StepOnward_1 F_shown F_program F_state F_env F_Step F_Follow c0 s10 s11 s12) (H_StepOnward_1 F_shown F_program F_state F_env F_Step F_Follow c0 s10 s11 s12)) /\ (∀ (s10 : Int), M_StepOnward_0 n c0 s10 -> L_StepOnward_0 n c0 s10 = r -> S kh_StepOnward_0 (E_StepOnward_0 F_shown F_program F_state F_env F_Step F_Follow c0 s10) (H_StepOnward_0 F_shown F_program F_state F_env F_Step F_Follow c0 s10)) := by
 intro n
 induction n with
 | zero =>
  refine ⟨?_, ?_, ?_⟩
  ·intro s10 s13 hM hL; exfalso; simp only [M_StepOnward_2] at hM; omega
  ·intro s10 s11 s12 hM hL; exfalso; simp only [M_StepOnward_1] at hM; omega
  ·intro s10 hM hL; exfalso; simp only [M_StepOnward_0] at hM; omega
 | succ n ih =>
  refine ⟨?_, ?_, ?_⟩
  ·intro s10 s13 hM hL
   rw [L_StepOnward_2] at hL
   have e := hL.symm
   refine hS.segV live_StepOnward (Eq.mpr (StepOnward_runs_2 F_shown F_program F_state F_env F_Step F_Follow S r c0 s10 s13) ?_)
   unfold phi_StepOnward_2
   refine br e (fun h0 e => ?_) (fun h0 e => ?_)
   ·
    refine ⟨(by simp only [M_StepOnward_0, M_StepOnward_1, M_StepOnward_2, decide_eq_true_eq, decide_eq_false_iff_not, wrap_i64] at *; omega), ?_⟩
    refine br e (fun h1 e => ?_) (fun h1 e => ?_)
    ·
     refine ⟨(by simp only [M_StepOnward_0, M_StepOnward_1, M_StepOnward_2, decide_eq_true_eq, decide_eq_false_iff_not, wrap_i64] at *; omega), ?_⟩
     refine ⟨(by simp only [M_StepOnward_0, M_StepOnward_1, M_StepOnward_2, decide_eq_true_eq, decide_eq_false_iff_not, wrap_i64] at *; omega), ?_⟩
     refine br e (fun h2 e => ?_) (fun h2 e => ?_)
     ·
      exact ⟨congrArg (fun r : Bool => ((V.bool r) : V)) (e.symm)⟩
     refine hS.to _ _ [some 0, some 1, some 2, some 3, some 4, some 5, some 6, some 7] rfl rfl ?_ ?_ ?_ (ih.1 _ _ (by simp only [M_StepOnward_0, M_StepOnward_1, M_StepOnward_2, decide_eq_true_eq, decide_eq_false_iff_not, wrap_i64] at *; omega) (e.symm))
     ·exact ⟨(rflX rfl), (rflX rfl), (rflX rfl), (boxX rfl), (rflX rfl), (boxX rfl), (rflX rfl), (rflX rfl), trivial⟩
     ·exact ⟨(fun _ _ => plain_renOk _ (plain76 _)), (fun _ _ => trivial), (fun _ _ => plain_renOk _ (plain73 _)), (fun _ _ => ⟨(plain_renOk _ (plain24 _)), (plain_renOk _ (plain24 _)), (.inl ⟨_, rfl⟩), (.inl ⟨_, rfl⟩), trivial, trivial, (.inl ⟨_, rfl⟩), trivial⟩), (okrow (e := fun x => (v24 x)) (fun _ => rfl) (fun _ => plain_renOk _ (plain24 _))), (fun _ _ => (plain_renOk _ (plain42 _))), (okrow (e := fun x => (v54 x)) (fun _ => rfl) (fun _ => plain_renOk _ (plain54 _))), (okrow (e := fun x => (V.int .i64 x)) (fun _ => rfl) (fun _ => trivial)), trivial⟩
     ·exact ⟨⟨⟨_, rfl⟩, rfl⟩, ⟨trivial, rfl⟩, ⟨(.inl ⟨_, rfl⟩), rfl⟩, ⟨⟨_, rfl⟩, rfl⟩, ⟨(.inl ⟨_, rfl⟩), rfl⟩, ⟨(.inl ⟨_, rfl⟩), rfl⟩, ⟨trivial, rfl⟩, ⟨trivial, rfl⟩, trivial⟩
    refine hS.to _ _ [some 0, some 1, some 2, some 3, some 4, some 5, some 6, some 7] rfl rfl ?_ ?_ ?_ (ih.1 _ _ (by simp only [M_StepOnward_0, M_StepOnward_1, M_StepOnward_2, decide_eq_true_eq, decide_eq_false_iff_not, wrap_i64] at *; omega) (e.symm))
    ·exact ⟨(rflX rfl), (rflX rfl), (rflX rfl), (boxX rfl), (rflX rfl), (boxX rfl), (rflX rfl), (rflX rfl), trivial⟩
    ·exact ⟨(fun _ _ => plain_renOk _ (plain76 _)), (fun _ _ => trivial), (fun _ _ => plain_renOk _ (plain73 _)), (fun _ _ => ⟨(plain_renOk _ (plain24 _)), (plain_renOk _ (plain24 _)), (.inl ⟨_, rfl⟩), (.inl ⟨_, rfl⟩), trivial, trivial, (.inl ⟨_, rfl⟩), trivial⟩), (okrow (e := fun x => (v24 x)) (fun _ => rfl) (fun _ => plain_renOk _ (plain24 _))), (fun _ _ => (plain_renOk _ (plain42 _))), (okrow (e := fun x => (v54 x)) (fun _ => rfl) (fun _ => plain_renOk _ (plain54 _))), (okrow (e := fun x => (V.int .i64 x)) (fun _ => rfl) (fun _ => trivial)), trivial⟩
    ·exact ⟨⟨⟨_, rfl⟩, rfl⟩, ⟨trivial, rfl⟩, ⟨(.inl ⟨_, rfl⟩), rfl⟩, ⟨⟨_, rfl⟩, rfl⟩, ⟨(.inl ⟨_, rfl⟩), rfl⟩, ⟨(.inl ⟨_, rfl⟩), rfl⟩, ⟨trivial, rfl⟩, ⟨trivial, rfl⟩, trivial⟩
   refine hS.to _ _ [some 0, some 1, some 2, some 3, some 4, some 5, some 6, some 7] rfl rfl ?_ ?_ ?_ (ih.2.2 _ (by simp only [M_StepOnward_0, M_StepOnward_1, M_StepOnward_2, decide_eq_true_eq, decide_eq_false_iff_not, wrap_i64] at *; omega) (e.symm))
   ·exact ⟨(rflX rfl), (rflX rfl), (rflX rfl), (boxX rfl), (rflX rfl), (boxX rfl), (rflX rfl), (rflX rfl), trivial⟩
   ·exact ⟨(fun _ _ => plain_renOk _ (plain76 _)), (fun _ _ => trivial), (fun _ _ => plain_renOk _ (plain73 _)), (fun _ _ => ⟨(plain_renOk _ (plain24 _)), (plain_renOk _ (plain24 _)), (.inl ⟨_, rfl⟩), (.inl ⟨_, rfl⟩), trivial, trivial, (.inl ⟨_, rfl⟩), trivial⟩), (okrow (e := fun x => (v24 x)) (fun _ => rfl) (fun _ => plain_renOk _ (plain24 _))), (fun _ _ => (plain_renOk _ (plain42 _))), (okrow (e := fun x => (v54 x)) (fun _ => rfl) (fun _ => plain_renOk _ (plain54 _))), (okrow (e := fun x => (V.int .i64 x)) (fun _ => rfl) (fun _ => trivial)), trivial⟩
   ·exact ⟨⟨⟨_, rfl⟩, rfl⟩, ⟨trivial, rfl⟩, ⟨(.inl ⟨_, rfl⟩), rfl⟩, ⟨⟨_, rfl⟩, rfl⟩, ⟨(.inl ⟨_, rfl⟩), rfl⟩, ⟨(.inl ⟨_, rfl⟩), rfl⟩, ⟨trivial, rfl⟩, trivial⟩
  ·intro s10 s11 s12 hM hL
   rw [L_StepOnward_1] at hL
   have e := hL.symm
   refine hS.segV live_StepOnward (Eq.mpr (StepOnward_runs_1 F_shown F_program F_state F_env F_Step F_Follow S r c0 s10 s11 s12) ?_)
   unfold phi_StepOnward_1
   refine br e (fun h0 e => ?_) (fun h0 e => ?_)
   ·
    refine brf e (fun h1 e => ?_) (fun h1 e => ?_)
    ·
     refine ⟨(by simp only [M_StepOnward_0, M_StepOnward_1, M_StepOnward_2, decide_eq_true_eq, decide_eq_false_iff_not, wrap_i64] at *; omega), ?_⟩
     refine ⟨(by simp only [M_StepOnward_0, M_StepOnward_1, M_StepOnward_2, decide_eq_true_eq, decide_eq_false_iff_not, wrap_i64] at *; omega), ?_⟩
     refine ⟨rfl, ?_⟩
     refine hS.to _ _ [some 0, some 1, some 2, some 3, some 4, some 5, some 6, some 7] rfl rfl ?_ ?_ ?_ (ih.2.1 _ _ _ (by simp only [M_StepOnward_0, M_StepOnward_1, M_StepOnward_2, decide_eq_true_eq, decide_eq_false_iff_not, wrap_i64] at *; omega) (e.symm))
     ·exact ⟨(rflX rfl), (rflX rfl), (rflX rfl), (boxX rfl), (rflX rfl), (boxX rfl), (rflX rfl), (rflX rfl), trivial⟩
     ·exact ⟨(fun _ _ => plain_renOk _ (plain76 _)), (fun _ _ => trivial), (fun _ _ => plain_renOk _ (plain73 _)), (fun _ _ => ⟨(plain_renOk _ (plain24 _)), (plain_renOk _ (plain24 _)), (.inl ⟨_, rfl⟩), (.inl ⟨_, rfl⟩), trivial, trivial, (.inl ⟨_, rfl⟩), trivial⟩), (okrow (e := fun x => (v24 x)) (fun _ => rfl) (fun _ => plain_renOk _ (plain24 _))), (fun _ _ => (plain_renOk _ (plain42 _))), (okrow (e := fun x => (v54 x)) (fun _ => rfl) (fun _ => plain_renOk _ (plain54 _))), (okrow (e := fun x => (V.int .i64 x)) (fun _ => rfl) (fun _ => trivial)), trivial⟩
     ·exact ⟨⟨⟨_, rfl⟩, rfl⟩, ⟨trivial, rfl⟩, ⟨(.inl ⟨_, rfl⟩), rfl⟩, ⟨⟨_, rfl⟩, rfl⟩, ⟨(.inl ⟨_, rfl⟩), rfl⟩, ⟨(.inl ⟨_, rfl⟩), rfl⟩, ⟨trivial, rfl⟩, ⟨trivial, rfl⟩, ⟨trivial, rfl⟩, trivial⟩
    refine ⟨rfl, ?_⟩
    refine hS.to _ _ [some 0, some 1, some 2, some 3, some 4, some 5, some 6, some 7] rfl rfl ?_ ?_ ?_ (ih.2.1 _ _ _ (by simp only [M_StepOnward_0, M_StepOnward_1, M_StepOnward_2, decide_eq_true_eq, decide_eq_false_iff_not, wrap_i64] at *; omega) (e.symm))
    ·exact ⟨(rflX rfl), (rflX rfl), (rflX rfl), (boxX rfl), (rflX rfl), (boxX rfl), (rflX rfl), (rflX rfl), trivial⟩
    ·exact ⟨(fun _ _ => plain_renOk _ (plain76 _)), (fun _ _ => trivial), (fun _ _ => plain_renOk _ (plain73 _)), (fun _ _ => ⟨(plain_renOk _ (plain24 _)), (plain_renOk _ (plain24 _)), (.inl ⟨_, rfl⟩), (.inl ⟨_, rfl⟩), trivial, trivial, (.inl ⟨_, rfl⟩), trivial⟩), (okrow (e := fun x => (v24 x)) (fun _ => rfl) (fun _ => plain_renOk _ (plain24 _))), (fun _ _ => (plain_renOk _ (plain42 _))), (okrow (e := fun x => (v54 x)) (fun _ => rfl) (fun _ => plain_renOk _ (plain54 _))), (okrow (e := fun x => (V.int .i64 x)) (fun _ => rfl) (fun _ => trivial)), trivial⟩
    ·exact ⟨⟨⟨_, rfl⟩, rfl⟩, ⟨trivial, rfl⟩, ⟨(.inl ⟨_, rfl⟩), rfl⟩, ⟨⟨_, rfl⟩, rfl⟩, ⟨(.inl ⟨_, rfl⟩), rfl⟩, ⟨(.inl ⟨_, rfl⟩), rfl⟩, ⟨trivial, rfl⟩, ⟨trivial, rfl⟩, ⟨trivial, rfl⟩, trivial⟩
   refine brf e (fun h1 e => ?_) (fun h1 e => ?_)
   ·
    refine ⟨(by simp only [M_StepOnward_0, M_StepOnward_1, M_StepOnward_2, decide_eq_true_eq, decide_eq_false_iff_not, wrap_i64] at *; omega), ?_⟩
    refine brf e (fun h2 e => ?_) (fun h2 e => ?_)
    ·
     refine ⟨(by simp only [M_StepOnward_0, M_StepOnward_1, M_StepOnward_2, decide_eq_true_eq, decide_eq_false_iff_not, wrap_i64] at *; omega), ?_⟩
     refine brf e (fun h3 e => ?_) (fun h3 e => ?_)
     ·
      refine br e (fun h4 e => ?_) (fun h4 e => ?_)
      ·
       refine ⟨(by simp only [M_StepOnward_0, M_StepOnward_1, M_StepOnward_2, decide_eq_true_eq, decide_eq_false_iff_not, wrap_i64] at *; omega), ?_⟩
       refine ⟨(by decide), ?_⟩
       refine ⟨(by decide), ?_⟩
       refine ⟨(ok38 _ _), ?_⟩
       refine ⟨rfl, ?_⟩
       refine br e (fun h5 e => ?_) (fun h5 e => ?_)
       ·
        exact ⟨congrArg (fun r : Bool => ((V.bool r) : V)) (e.symm)⟩
       refine hS.to _ _ [some 0, some 1, some 2, some 3, some 4, some 5, some 6, some 7] rfl rfl ?_ ?_ ?_ (ih.1 _ _ (by simp only [M_StepOnward_0, M_StepOnward_1, M_StepOnward_2, decide_eq_true_eq, decide_eq_false_iff_not, wrap_i64] at *; omega) (e.symm))
       ·exact ⟨(rflX rfl), (rflX rfl), (rflX rfl), (boxX rfl), (rflX rfl), (boxX rfl), (rflX rfl), (rflX rfl), trivial⟩
       ·exact ⟨(fun _ _ => plain_renOk _ (plain76 _)), (fun _ _ => trivial), (fun _ _ => plain_renOk _ (plain73 _)), (fun _ _ => ⟨(plain_renOk _ (plain24 _)), (plain_renOk _ (plain24 _)), (.inl ⟨_, rfl⟩), (.inl ⟨_, rfl⟩), trivial, trivial, (.inl ⟨_, rfl⟩), trivial⟩), (okrow (e := fun x => (v24 x)) (fun _ => rfl) (fun _ => plain_renOk _ (plain24 _))), (fun _ _ => (plain_renOk _ (plain42 _))), (okrow (e := fun x => (v54 x)) (fun _ => rfl) (fun _ => plain_renOk _ (plain54 _))), (okrow (e := fun x => (V.int .i64 x)) (fun _ => rfl) (fun _ => trivial)), trivial⟩
       ·exact ⟨⟨⟨_, rfl⟩, rfl⟩, ⟨trivial, rfl⟩, ⟨(.inl ⟨_, rfl⟩), rfl⟩, ⟨⟨_, rfl⟩, rfl⟩, ⟨(.inl ⟨_, rfl⟩), rfl⟩, ⟨(.inl ⟨_, rfl⟩), rfl⟩, ⟨trivial, rfl⟩, ⟨trivial, rfl⟩, trivial⟩
      refine ⟨rfl, ?_⟩
      refine hS.to _ _ [some 0, some 1, some 2, some 3, some 4, some 5, some 6, some 7] rfl rfl ?_ ?_ ?_ (ih.1 _ _ (by simp only [M_StepOnward_0, M_StepOnward_1, M_StepOnward_2, decide_eq_true_eq, decide_eq_false_iff_not, wrap_i64] at *; omega) (e.symm))
      ·exact ⟨(rflX rfl), (rflX rfl), (rflX rfl), (boxX rfl), (rflX rfl), (boxX rfl), (rflX rfl), (rflX rfl), trivial⟩
      ·exact ⟨(fun _ _ => plain_renOk _ (plain76 _)), (fun _ _ => trivial), (fun _ _ => plain_renOk _ (plain73 _)), (fun _ _ => ⟨(plain_renOk _ (plain24 _)), (plain_renOk _ (plain24 _)), (.inl ⟨_, rfl⟩), (.inl ⟨_, rfl⟩), trivial, trivial, (.inl ⟨_, rfl⟩), trivial⟩), (okrow (e := fun x => (v24 x)) (fun _ => rfl) (fun _ => plain_renOk _ (plain24 _))), (fun _ _ => (plain_renOk _ (plain42 _))), (okrow (e := fun x => (v54 x)) (fun _ => rfl) (fun _ => plain_renOk _ (plain54 _))), (okrow (e := fun x => (V.int .i64 x)) (fun _ => rfl) (fun _ => trivial)), trivial⟩
      ·exact ⟨⟨⟨_, rfl⟩, rfl⟩, ⟨trivial, rfl⟩, ⟨(.inl ⟨_, rfl⟩), rfl⟩, ⟨⟨_, rfl⟩, rfl⟩, ⟨(.inl ⟨_, rfl⟩), rfl⟩, ⟨(.inl ⟨_, rfl⟩), rfl⟩, ⟨trivial, rfl⟩, ⟨trivial, rfl⟩, trivial⟩
     refine ⟨rfl, ?_⟩
     exact ⟨congrArg (fun r : Bool => ((V.bool r) : V)) (e.symm)⟩
    refine ⟨rfl, ?_⟩
    exact ⟨congrArg (fun r : Bool => ((V.bool r) : V)) (e.symm)⟩
   refine ⟨rfl, ?_⟩
   exact ⟨congrArg (fun r : Bool => ((V.bool r) : V)) (e.symm)⟩
  ·intro s10 hM hL
   rw [L_StepOnward_0] at hL
   have e := hL.symm
   refine hS.segV live_StepOnward (Eq.mpr (StepOnward_runs_0 F_shown F_program F_state F_env F_Step F_Follow S r c0 s10) ?_)
   unfold phi_StepOnward_0
   refine br e (fun h0 e => ?_) (fun h0 e => ?_)
   ·
    refine hS.to _ _ [some 0, some 1, some 2, some 3, some 4, some 5, some 6, some 7] rfl rfl ?_ ?_ ?_ (ih.2.1 _ _ _ (by simp only [M_StepOnward_0, M_StepOnward_1, M_StepOnward_2, decide_eq_true_eq, decide_eq_false_iff_not, wrap_i64] at *; omega) (e.symm))
    ·exact ⟨(rflX rfl), (rflX rfl), (rflX rfl), (boxX rfl), (rflX rfl), (boxX rfl), (rflX rfl), (rflX rfl), trivial⟩
    ·exact ⟨(fun _ _ => plain_renOk _ (plain76 _)), (fun _ _ => trivial), (fun _ _ => plain_renOk _ (plain73 _)), (fun _ _ => ⟨(plain_renOk _ (plain24 _)), (plain_renOk _ (plain24 _)), (.inl ⟨_, rfl⟩), (.inl ⟨_, rfl⟩), trivial, trivial, (.inl ⟨_, rfl⟩), trivial⟩), (okrow (e := fun x => (v24 x)) (fun _ => rfl) (fun _ => plain_renOk _ (plain24 _))), (fun _ _ => (plain_renOk _ (plain42 _))), (okrow (e := fun x => (v54 x)) (fun _ => rfl) (fun _ => plain_renOk _ (plain54 _))), (okrow (e := fun x => (V.int .i64 x)) (fun _ => rfl) (fun _ => trivial)), trivial⟩
    ·exact ⟨⟨⟨_, rfl⟩, rfl⟩, ⟨trivial, rfl⟩, ⟨(.inl ⟨_, rfl⟩), rfl⟩, ⟨⟨_, rfl⟩, rfl⟩, ⟨(.inl ⟨_, rfl⟩), rfl⟩, ⟨(.inl ⟨_, rfl⟩), rfl⟩, ⟨trivial, rfl⟩, ⟨trivial, rfl⟩, ⟨trivial, rfl⟩, trivial⟩
   exact ⟨congrArg (fun r : Bool => ((V.bool r) : V)) (e.symm)⟩
theorem StepOnward_loop_0 {S : List It -> Env -> Heap -> Prop} {r : Bool} (c0 : SCase) (hS : Sem Try.prog (D_StepOnward F_shown F_program F_state F_env F_Step F_Follow) 3 (retV rs_StepOnward fun u _ => u = (V.bool r)) S) : ∀ (n : Nat) (s10 : Int), M_StepOnward_0 n c0 s10 -> L_StepOnward_0 n c0 s10 = r -> S kh_StepOnward_0 (E_StepOnward_0 F_shown F_program F_state F_env F_Step F_Follow c0 s10) (H_StepOnward_0 F_shown F_program F_state F_env F_Step F_Follow c0 s10) :=
 fun n s10 => (StepOnward_loops_0 c0 hS n).2.2 s10
theorem StepOnward_phi (c0 : SCase) {S : List It -> Env -> Heap -> Prop} (hS : Sem Try.prog (D_StepOnward F_shown F_program F_state F_env F_Step F_Follow) 3 (retV rs_StepOnward fun u _ => u = (V.bool (F_StepOnward c0))) S) (hp : pre_StepOnward c0) : phi_StepOnward F_shown F_program F_state F_env F_Step F_Follow S (F_StepOnward c0) c0 := by
 unfold phi_StepOnward
 refine ⟨⟨⟨(fun _ _ => rfl), (fun _ _ => rfl), (fun _ _ => rfl)⟩, ⟨CsOk.ins hp, CsOk.second hp⟩⟩, ?_⟩
 refine ⟨fun h0 => ?_, fun h0 => ?_⟩
 ·
  exact ⟨(congrArg (fun r : Bool => ((V.bool r) : V)) (show F_StepOnward c0 = _ from ((cond_t h0).trans rfl))).symm⟩
 refine ⟨⟨(fun _ _ => rfl), (fun _ _ => rfl)⟩, ?_⟩
 refine ⟨⟨(fun _ _ => rfl), (fun _ _ => rfl), (fun _ _ => rfl)⟩, ?_⟩
 refine ⟨⟨(fun _ _ => rfl), (fun _ _ => rfl), (look_st hp (CsOk.raws hp) (by assumption))⟩, ?_⟩
 refine ⟨rfl, ?_⟩
 refine ⟨fun h1 => ?_, fun h1 => ?_⟩
 ·
  refine ⟨fun h2 => ?_, fun h2 => ?_⟩
  ·
   refine ⟨fun h3 => ?_, fun h3 => ?_⟩
   ·
    exact ⟨(congrArg (fun r : Bool => ((V.bool r) : V)) (show F_StepOnward c0 = _ from ((cond_f h0).trans ((cond_t h1).trans ((cond_t h2).trans ((cond_t h3).trans rfl)))))).symm⟩
   exact ⟨(congrArg (fun r : Bool => ((V.bool r) : V)) (show F_StepOnward c0 = _ from ((cond_f h0).trans ((cond_t h1).trans ((cond_t h2).trans ((cond_f h3).trans rfl)))))).symm⟩
  exact ⟨(congrArg (fun r : Bool => ((V.bool r) : V)) (show F_StepOnward c0 = _ from ((cond_f h0).trans ((cond_t h1).trans ((cond_f h2).trans rfl))))).symm⟩
 refine ⟨⟨(fun _ _ => rfl), (CsOk.follow hp (by assumption))⟩, ?_⟩
 refine ⟨fun h2 => ?_, fun h2 => ?_⟩
 ·
  exact ⟨(congrArg (fun r : Bool => ((V.bool r) : V)) (show F_StepOnward c0 = _ from ((cond_f h0).trans ((cond_f h1).trans ((cond_t h2).trans rfl))))).symm⟩
 refine hS.to _ _ [some 0, some 1, some 2, some 3, some 4, some 5, some 7, some 8] rfl rfl ?_ ?_ ?_ (StepOnward_loop_0 c0 hS 6001 0 (by have e := Follow_le (F_program c0).1.1 (F_program c0).1.2 0; simp only [M_StepOnward_0, decide_eq_false_iff_not] at *; omega) ((show F_StepOnward c0 = _ from ((cond_f h0).trans ((cond_f h1).trans ((cond_f h2).trans rfl)))).symm))
 ·exact ⟨(rflX rfl), (rflX rfl), (rflX rfl), (boxX rfl), (rflX rfl), (boxX rfl), (rflX rfl), (rflX rfl), trivial⟩
 ·exact ⟨(fun _ _ => plain_renOk _ (plain76 _)), (fun _ _ => trivial), (fun _ _ => plain_renOk _ (plain73 _)), (fun _ _ => ⟨(plain_renOk _ (plain24 _)), (plain_renOk _ (plain24 _)), (.inl ⟨_, rfl⟩), (.inl ⟨_, rfl⟩), trivial, trivial, (.inl ⟨_, rfl⟩), trivial⟩), (okrow (e := fun x => (v24 x)) (fun _ => rfl) (fun _ => plain_renOk _ (plain24 _))), (fun _ _ => (plain_renOk _ (plain42 _))), (okrow (e := fun x => (v54 x)) (fun _ => rfl) (fun _ => plain_renOk _ (plain54 _))), (okrow (e := fun x => (V.int .i64 x)) (fun _ => rfl) (fun _ => trivial)), trivial⟩
 ·exact ⟨⟨⟨_, rfl⟩, rfl⟩, ⟨trivial, rfl⟩, ⟨(.inl ⟨_, rfl⟩), rfl⟩, ⟨⟨_, rfl⟩, rfl⟩, ⟨(.inl ⟨_, rfl⟩), rfl⟩, ⟨(.inl ⟨_, rfl⟩), rfl⟩, ⟨trivial, rfl⟩, trivial⟩
def cc_StepOnward (F_StepOnward : SCase -> Bool) (vs : List V) (H : Heap) : Option (Pre × V) :=
 match vs with
 | [x0] => (csD H x0).bind fun s0 => some (some (Pre.ok s0.1 /\ pre_StepOnward s0.2), (V.bool (F_StepOnward s0.2)))
 | _ => none
def c_StepOnward := cc_StepOnward F_StepOnward
theorem StepOnward_fn : Fn Try.prog 7 ir_StepOnward 1 rs_StepOnward := Fn.mk2 (code := Try.f7.body.getD .skip) Try.func7
theorem StepOnward_spec : Spec Try.prog 7 (Con.read c_StepOnward).d := by
 refine spec_read2 StepOnward_fn D_StepOnward_known (fun _ => false) 4000 (fun vs H p v h hp ρ w hR hw => ?_)
 unfold c_StepOnward cc_StepOnward at h
 split at h
 ·rename_i x0
  obtain ⟨⟨p0, c0⟩, es0, h⟩ := Option.bind_eq_some_iff.1 h
  obtain ⟨rfl, rfl⟩ := Prod.mk.inj (Option.some.inj h)
  obtain ⟨hp0, hp⟩ := hp
  obtain ⟨w0, _⟩ := hw
  obtain ⟨⟨πa, κa, δa, νa, εa, ta, ma, fa⟩, ⟨πb, κb, δb, νb, εb, tb, mb, fb⟩, ⟨πc, κc, δc, νc, εc, tc, mc, fc⟩, ka, kb, kc, hta, hma, hfa, htb, hmb, hfb, htc, hmc, hfc, q0⟩ := cs_view es0 hp0 hR w0
  simp only at hta hma hfa htb hmb hfb htc hmc hfc; subst hta hma hfa htb hmb hfb htc hmc hfc
  refine ⟨[⟨πa, κa, δa, νa, εa, 76, c0.nr, fun i => (v76 (c0.regs i))⟩, ⟨πb, κb, δb, νb, εb, 4, c0.ns, fun i => (V.bool (c0.stack i))⟩, ⟨πc, κc, δc, νc, εc, 73, c0.nm, fun i => (v73 (c0.maps i))⟩], [(csV c0)], ?_, ?_, ?_, plain_bool, Nat.le_refl _, ?_⟩
  ·intro x hx; simp only [List.mem_cons, List.not_mem_nil, or_false] at hx
   rcases hx with rfl | rfl | rfl
   ·exact ka
   ·exact kb
   ·exact kc
  ·exact (vals_cons ((q0 _ 0 1 2 (fun _ _ _ => rfl) (fun _ _ _ => rfl) (fun _ _ _ => rfl)).symm) rfl)
  ·exact ⟨cs_wf rfl rfl rfl, trivial⟩
  ·exact fun S hS => Ran.cutV hS live_StepOnward (Eq.mpr (StepOnward_runs F_shown F_program F_state F_env F_Step F_Follow (F_StepOnward c0) c0 S) (StepOnward_phi c0 hS hp))
 ·cases h
abbrev Outs := (Nat × (Nat -> SOut)) × Int
def outsOf (r : Outs) : List SOut × Int := ((List.range r.1.1).map r.1.2, r.2)
def ok1 (pc : Int) (r : Bool × SState) : List SOut × Int := bif r.1 then ([⟨pc, r.2⟩], 0) else ([], 7)
def SLook.dreg (x : SLook) : SReg := x.st.regs x.ins.dst.toNat
def SLook.sreg (x : SLook) : SReg := x.st.regs x.ins.src.toNat
def SLook.put (x : SLook) (r : SReg) : SState := ⟨updF x.st.regs x.ins.dst.toNat r, x.st.stack⟩
def aluT (x : SLook) : Bool × SState :=
 bif F_op x == 176 then
  (bif F_class x == 7 then ((F_second x).kind != 0, x.put (F_second x)) else
   bif (F_second x).kind == 1 then (true, x.put (F_Number (F_sLow (F_second x).num))) else (false, x.st)) else
 bif F_op x == 128 then
  (bif x.dreg.kind == 1 then (true, x.put (F_Number (F_sDo (F_op x) (F_class x == 7) x.dreg.num x.dreg.num))) else (false, x.st)) else
 bif (F_second x).kind == 1 then
  (bif x.dreg.kind == 1 then (true, x.put (F_Number (F_sDo (F_op x) (F_class x == 7) x.dreg.num (F_second x).num))) else
   bif (F_class x == 7 && (F_op x == 0 || F_op x == 16)) then ((F_Move x.dreg (F_second x).num (F_op x == 16)).2, x.put (F_Move x.dreg (F_second x).num (F_op x == 16)).1) else (false, x.st)) else (false, x.st)
theorem ne_eqb {a k m : Int} (h : (a == k) = true) (hk : k ≠ m) : (a == m) = false := by
 have : a = k := by simpa using h
 subst this; exact beq_eq_false_iff_ne.2 hk
theorem alu_eq (x : SLook) : F_alu x = aluT x := by
 unfold F_alu q_alu_0 q_alu_1 q_alu_2 q_alu_3 q_alu_4 q_alu_5 q_alu_6 q_alu_7 q_alu_8 q_alu_9 aluT SLook.put SLook.dreg
 simp only [bne]
 cases h1 : (F_op x == 176) <;> simp only [cond_true, cond_false]
 ·cases h2 : (F_op x == 128) <;> simp only [cond_true, cond_false]
  ·cases (F_second x).kind == 1 <;> simp only [cond_true, cond_false, Bool.not_true, Bool.not_false] <;> cases (x.st.regs x.ins.dst.toNat).kind == 1 <;> simp only [cond_true, cond_false, Bool.not_true, Bool.not_false] <;>
    cases F_class x == 7 <;> simp only [cond_true, cond_false, Bool.not_true, Bool.not_false, Bool.true_and, Bool.false_and] <;> cases F_op x == 0 <;> simp only [cond_true, cond_false, Bool.true_or, Bool.false_or] <;> cases F_op x == 16 <;> rfl
 ·have h2 := ne_eqb h1 (show (176 : Int) ≠ 128 by decide)
  have h3 := ne_eqb h1 (show (176 : Int) ≠ 0 by decide)
  have h4 := ne_eqb h1 (show (176 : Int) ≠ 16 by decide)
  simp only [h2, h3, h4, cond_true, cond_false]
  cases F_class x == 7 <;> simp only [cond_true, cond_false] <;> cases (F_second x).kind == 1 <;> simp only [cond_true, cond_false, Bool.not_true, Bool.not_false]
def fromP (x : SLook) (r : SReg) (off size : Int) : Nat := (IntKind.i64.wrap ((512 : Int) + (F_bytes x r off size).1)).toNat
def toP (x : SLook) (r : SReg) (off size : Int) : Nat := (IntKind.i64.wrap ((512 : Int) + (F_bytes x r off size).2.1)).toNat
theorem ptLen_eq (x : SLook) (r : SReg) (off size : Int) : ptLen x r off size = toP x r off size - fromP x r off size := rfl
theorem L_store_is (x : SLook) (hb : toP x x.dreg (IntKind.i64.wrap x.ins.off) (F_size x) <= 512) : ∀ (fuel : Nat) (s : Int) (y : Nat -> Bool), 0 <= s -> s <= (ptLen x x.dreg (IntKind.i64.wrap x.ins.off) (F_size x) : Int) ->
 (ptLen x x.dreg (IntKind.i64.wrap x.ins.off) (F_size x) : Int) < s + fuel ->
 (L_store_0 fuel x s y).1 = (x.dreg.lo == x.dreg.hi) /\ (L_store_0 fuel x s y).2.regs = x.st.regs /\
  ∀ k, (L_store_0 fuel x s y).2.stack k = if fromP x x.dreg (IntKind.i64.wrap x.ins.off) (F_size x) + s.toNat <= k /\ k < toP x x.dreg (IntKind.i64.wrap x.ins.off) (F_size x) then true else y k := by
 intro fuel
 induction fuel with
 | zero => intro s y h0 h1 h; omega
 | succ fuel ih =>
  intro s y h0 h1 h
  have hl := ptLen_eq x x.dreg (IntKind.i64.wrap x.ins.off) (F_size x)
  have e : L_store_0 (fuel + 1) x s y = bif decide (s < ((toP x x.dreg (IntKind.i64.wrap x.ins.off) (F_size x) - fromP x x.dreg (IntKind.i64.wrap x.ins.off) (F_size x) : Nat) : Int)) then
   L_store_0 fuel x (IntKind.i64.wrap (s + 1)) (updF y (s.toNat + fromP x x.dreg (IntKind.i64.wrap x.ins.off) (F_size x)) true) else (x.dreg.lo == x.dreg.hi, ⟨x.st.regs, y⟩) := by
   rw [L_store_0]; rfl
  rw [e]
  generalize hp : fromP x x.dreg (IntKind.i64.wrap x.ins.off) (F_size x) = p at *
  generalize hq : toP x x.dreg (IntKind.i64.wrap x.ins.off) (F_size x) = q at *
  by_cases c1 : s < ((q - p : Nat) : Int)
  ·rw [decide_eq_true c1, cond_true, i64_id (by omega) (by omega)]
   obtain ⟨k1, k2, k3⟩ := ih (s + 1) (updF y (s.toNat + p) true) (by omega) (by omega) (by omega)
   refine ⟨k1, k2, fun k => ?_⟩
   rw [k3, updF_at]
   by_cases e1 : k = s.toNat + p
   ·subst e1
    rw [if_pos rfl, if_neg (by omega), if_pos (by omega)]
   ·rw [if_neg e1]
    by_cases e2 : p + s.toNat <= k /\ k < q
    ·rw [if_pos e2, if_pos (by omega)]
    ·rw [if_neg e2, if_neg (by omega)]
  ·rw [decide_eq_false c1, cond_false]
   refine ⟨rfl, rfl, fun k => ?_⟩
   rw [if_neg (by omega)]
def isM (x : SLook) (m : Int) : Prop := 0 <= m /\ m < (x.nm : Int)
theorem is_iff (x : SLook) (m : Int) : F_is x m = true ↔ isM x m := by
 unfold F_is isM
 by_cases h1 : m >= 0
 ·rw [decide_eq_true h1, cond_true, decide_eq_true_eq]; omega
 ·rw [decide_eq_false h1, cond_false]; exact ⟨fun h => absurd h Bool.false_ne_true, fun h => absurd h.1 h1⟩
inductive Lim (x : SLook) (r : SReg) : Int -> Int -> Prop
 | ctx (h : r.kind = 2) : Lim x r 0 x.ctx
 | stack (h : r.kind = 3) : Lim x r (-512) 0
 | value (h : r.kind = 5) (hm : isM x r.map) : Lim x r 0 (x.maps r.map.toNat).value
def inR (x : SLook) (r : SReg) (off size : Int) : Prop := ∃ a b, Lim x r a b /\ a <= r.lo + off /\ r.hi + off + size <= b
theorem within_is {r : SReg} {off size a b : Int} (hr : RegOk r) (ho : OffOk off) (hs : SizeOk size) (hk : r.kind = 2 ∨ r.kind = 3 ∨ r.kind = 5) :
 (a <= r.lo + off /\ r.hi + off + size <= b /\ F_Within r off size a b = (r.lo + off, r.hi + off + size, true)) ∨ (¬ (a <= r.lo + off /\ r.hi + off + size <= b) /\ F_Within r off size a b = (0, 0, false)) := by
 obtain ⟨_, r1, r2, r3⟩ := hr
 obtain ⟨o1, o2⟩ := ho
 obtain ⟨s1, s2⟩ := hs
 have e1 : IntKind.i64.wrap (r.lo + off) = r.lo + off := i64_id (by omega) (by omega)
 have e3 : IntKind.i64.wrap (r.hi + off) = r.hi + off := i64_id (by omega) (by omega)
 have e2 : IntKind.i64.wrap (r.hi + off + size) = r.hi + off + size := i64_id (by omega) (by omega)
 have hp : F_pointer r = true := by
  unfold F_pointer
  rcases hk with h | h | h <;> rw [h] <;> rfl
 unfold F_Within
 rw [e1, e3, e2, hp, Bool.not_true, cond_false]
 by_cases c1 : r.lo + off < a
 ·rw [decide_eq_true c1, cond_true]; exact .inr ⟨by omega, rfl⟩
 ·rw [decide_eq_false c1, cond_false]
  by_cases c2 : r.hi + off + size > b
  ·rw [decide_eq_true c2, cond_true]; exact .inr ⟨by omega, rfl⟩
  ·rw [decide_eq_false c2, cond_false]; exact .inl ⟨by omega, by omega, rfl⟩
theorem bytes_is {x : SLook} {r : SReg} {off size : Int} (hr : RegOk r) (ho : OffOk off) (hs : SizeOk size) :
 (inR x r off size /\ F_bytes x r off size = (r.lo + off, r.hi + off + size, true)) ∨ (¬ inR x r off size /\ F_bytes x r off size = (0, 0, false)) := by
 unfold F_bytes
 by_cases h2 : r.kind = 2
 ·rw [show (r.kind == 2) = true from beq_iff_eq.2 h2, cond_true]
  rcases within_is (a := 0) (b := x.ctx) hr ho hs (.inl h2) with ⟨k1, k2, k3⟩ | ⟨k1, k3⟩ <;> rw [k3]
  ·exact .inl ⟨⟨_, _, .ctx h2, k1, k2⟩, rfl⟩
  ·refine .inr ⟨?_, rfl⟩
   rintro ⟨a, b, h, q⟩
   cases h with
   | ctx h => exact k1 q
   | stack h => omega
   | value h => omega
 ·rw [show (r.kind == 2) = false from beq_eq_false_iff_ne.2 h2, cond_false]
  by_cases h3 : r.kind = 3
  ·rw [show (r.kind == 3) = true from beq_iff_eq.2 h3, cond_true]
   rcases within_is (a := -512) (b := 0) hr ho hs (.inr (.inl h3)) with ⟨k1, k2, k3⟩ | ⟨k1, k3⟩ <;> rw [k3]
   ·exact .inl ⟨⟨_, _, .stack h3, k1, k2⟩, rfl⟩
   ·refine .inr ⟨?_, rfl⟩
    rintro ⟨a, b, h, q⟩
    cases h with
    | ctx h => omega
    | stack h => exact k1 q
    | value h => omega
  ·rw [show (r.kind == 3) = false from beq_eq_false_iff_ne.2 h3, cond_false]
   by_cases h5 : r.kind = 5
   ·rw [show (r.kind == 5) = true from beq_iff_eq.2 h5, cond_true]
    cases hm : F_is x r.map
    ·rw [cond_false]
     refine .inr ⟨?_, rfl⟩
     rintro ⟨a, b, h, q⟩
     cases h with
     | ctx h => omega
     | stack h => omega
     | value h hm' => rw [(is_iff x r.map).2 hm'] at hm; cases hm
    ·rw [cond_true]
     have hm := (is_iff x r.map).1 hm
     rcases within_is (a := 0) (b := (x.maps r.map.toNat).value) hr ho hs (.inr (.inr h5)) with ⟨k1, k2, k3⟩ | ⟨k1, k3⟩ <;> rw [k3]
     ·exact .inl ⟨⟨_, _, .value h5 hm, k1, k2⟩, rfl⟩
     ·refine .inr ⟨?_, rfl⟩
      rintro ⟨a, b, h, q⟩
      cases h with
      | ctx h => omega
      | stack h => omega
      | value h _ => exact k1 q
   ·rw [show (r.kind == 5) = false from beq_eq_false_iff_ne.2 h5, cond_false]
    refine .inr ⟨?_, rfl⟩
    rintro ⟨a, b, h, q⟩
    cases h <;> omega
theorem inR.stack {x : SLook} {r : SReg} {off size : Int} (h : inR x r off size) (hk : r.kind = 3) : -512 <= r.lo + off /\ r.hi + off + size <= 0 := by
 obtain ⟨a, b, h, q⟩ := h
 cases h with
 | ctx h => omega
 | stack h => exact q
 | value h => omega
theorem off_is {x : SLook} (h : LkOk x) : IntKind.i64.wrap x.ins.off = x.ins.off := by
 obtain ⟨p1, p2⟩ := h.off
 exact i64_id (by omega) (by omega)
def StOk (x : SLook) : Prop := inR x x.dreg x.ins.off (F_size x) /\ x.dreg.kind ≠ 2 /\ (F_class x = 3 -> x.sreg.kind = 1)
inductive Stored (x : SLook) : Bool × SState -> Prop
 | not (h : ¬ StOk x) : Stored x (false, x.st)
 | other (h : StOk x) (hk : x.dreg.kind ≠ 3) : Stored x (true, x.st)
 | stack (h : StOk x) (hk : x.dreg.kind = 3) (y : Nat -> Bool) (hy : ∀ k : Nat, y k = if x.dreg.lo + x.ins.off + 512 <= (k : Int) /\ (k : Int) < x.dreg.hi + x.ins.off + F_size x + 512 then true else x.st.stack k) : Stored x (x.dreg.lo == x.dreg.hi, ⟨x.st.regs, y⟩)
theorem store_is {x : SLook} (hx : LkOk x) : Stored x (F_store x) := by
 have hr : RegOk x.dreg := hx.rdst
 have ho := hx.off
 have hs := size_ok x
 unfold F_store
 rw [show x.st.regs x.ins.dst.toNat = x.dreg from rfl, show x.st.regs x.ins.src.toNat = x.sreg from rfl, off_is hx]
 rcases bytes_is (x := x) (off := x.ins.off) (size := F_size x) hr ho hs with ⟨k1, k2⟩ | ⟨k1, k2⟩
 ·have e : (F_bytes x x.dreg x.ins.off (F_size x)).2.2 = true := by rw [k2]
  rw [e, Bool.not_true, cond_false]
  by_cases h2 : x.dreg.kind = 2
  ·rw [show (x.dreg.kind == 2) = true from beq_iff_eq.2 h2, cond_true]; exact .not (fun h => h.2.1 h2)
  ·rw [show (x.dreg.kind == 2) = false from beq_eq_false_iff_ne.2 h2, cond_false]
   have rest : (F_class x = 3 -> x.sreg.kind = 1) -> Stored x (bif x.dreg.kind == 3 then (L_store_0 (ptLen x x.dreg x.ins.off (F_size x) + 1) x 0 x.st.stack) else (true, x.st)) := by
    intro hc
    by_cases h3 : x.dreg.kind = 3
    ·rw [show (x.dreg.kind == 3) = true from beq_iff_eq.2 h3, cond_true]
     obtain ⟨s1, s2⟩ := k1.stack h3
     have r2 := hr.2
     have s3 := hs.1
     have p1 : fromP x x.dreg x.ins.off (F_size x) = (x.dreg.lo + x.ins.off + 512).toNat := by unfold fromP; rw [k2, i64_id (by omega) (by omega)]; omega
     have p2 : toP x x.dreg x.ins.off (F_size x) = (x.dreg.hi + x.ins.off + F_size x + 512).toNat := by unfold toP; rw [k2]; simp only; rw [i64_id (by omega) (by omega)]; omega
     have pl := ptLen_eq x x.dreg x.ins.off (F_size x)
     have L := L_store_is x
     rw [off_is hx] at L
     obtain ⟨l1, l2, l3⟩ := L (by omega) (ptLen x x.dreg x.ins.off (F_size x) + 1) 0 x.st.stack (by omega) (by omega) (by omega)
     generalize L_store_0 (ptLen x x.dreg x.ins.off (F_size x) + 1) x 0 x.st.stack = r at *
     obtain ⟨r1, rs, ry⟩ := r
     simp only at l1 l2 l3
     subst l1 l2
     refine .stack ⟨k1, h2, hc⟩ h3 ry (fun k => ?_)
     rw [l3]
     by_cases e2 : fromP x x.dreg x.ins.off (F_size x) + (0 : Int).toNat <= k /\ k < toP x x.dreg x.ins.off (F_size x)
     ·rw [if_pos e2, if_pos (by omega)]
     ·rw [if_neg e2, if_neg (by omega)]
    ·rw [show (x.dreg.kind == 3) = false from beq_eq_false_iff_ne.2 h3, cond_false]; exact .other ⟨k1, h2, hc⟩ h3
   by_cases hc : F_class x = 3
   ·rw [show (F_class x == 3) = true from beq_iff_eq.2 hc, cond_true]
    by_cases hk : x.sreg.kind = 1
    ·rw [show (x.sreg.kind != 1) = false by simp [hk], cond_false]; exact rest (fun _ => hk)
    ·rw [show (x.sreg.kind != 1) = true by simp [hk], cond_true]; exact .not (fun h => hk (h.2.2 hc))
   ·rw [show (F_class x == 3) = false from beq_eq_false_iff_ne.2 hc, cond_false]; exact rest (fun h => absurd h hc)
 ·have e : (F_bytes x x.dreg x.ins.off (F_size x)).2.2 = false := by rw [k2]
  rw [e, Bool.not_false, cond_true]; exact .not (fun h => k1 h.1)
def SLook.ref (x : SLook) : Bool := (x.st.regs 1).kind == 4 && F_is x (x.st.regs 1).map
def keyT (x : SLook) : Bool := x.ref && F_readable x (x.st.regs 2) 0 (x.maps (x.st.regs 1).map.toNat).key
def forget (x : SLook) (r : SReg) : SState := ⟨updF (updF (updF (updF (updF (updF x.st.regs 0 r) 1 zR) 2 zR) 3 zR) 4 zR) 5 zR, x.st.stack⟩
def callT (x : SLook) : Bool × SState :=
 bif x.ins.imm == 1 then (keyT x && (x.ins.src == 0 && x.ins.off == 0), forget x ⟨6, ⟨0, 0⟩, 0, 0, (x.st.regs 1).map⟩) else
 bif x.ins.imm == 2 then (keyT x && (F_readable x (x.st.regs 3) 0 (x.maps (x.st.regs 1).map.toNat).value && ((x.st.regs 4).kind == 1 && (x.ins.src == 0 && x.ins.off == 0))), forget x (F_Number F_sAll)) else
 bif x.ins.imm == 3 then (keyT x && (x.ins.src == 0 && x.ins.off == 0), forget x (F_Number F_sAll)) else
 bif x.ins.imm == 5 then (x.ins.src == 0 && x.ins.off == 0, forget x (F_Number F_sAll)) else
 bif x.ins.imm == 7 then (x.ins.src == 0 && x.ins.off == 0, forget x (F_Number (F_sLow F_sAll))) else
 bif x.ins.imm == 9 then (decide (x.emit > 0) && (F_readable x (x.st.regs 1) 0 x.emit && (x.ins.src == 0 && x.ins.off == 0)), forget x (F_Number (F_sOne 0))) else (false, x.st)
theorem call_eq (x : SLook) : F_call x = callT x := by
 unfold F_call q_call_0 q_call_1 q_call_2 q_call_3 q_call_4 q_call_5 callT keyT SLook.ref
 cases h1 : (x.st.regs 1).kind == 4
 ·simp only [cond_true, cond_false, Bool.false_and]
  cases x.ins.imm == 1 <;> simp only [cond_true, cond_false]
  rotate_left
  ·rfl
  cases x.ins.imm == 2 <;> simp only [cond_true, cond_false]
  rotate_left
  ·rfl
  cases x.ins.imm == 3 <;> simp only [cond_true, cond_false]
  rotate_left
  ·rfl
  cases x.ins.imm == 5 <;> simp only [cond_true, cond_false]
  ·cases x.ins.imm == 7 <;> simp only [cond_true, cond_false]
   ·cases x.ins.imm == 9 <;> simp only [cond_true, cond_false]
    cases decide (x.emit > 0) <;> cases F_readable x (x.st.regs 1) 0 x.emit <;> cases x.ins.src == 0 <;> rfl
   ·cases x.ins.src == 0 <;> rfl
  ·cases x.ins.src == 0 <;> rfl
 ·cases h2 : F_is x (x.st.regs 1).map
  ·simp only [cond_true, cond_false, Bool.and_false, Bool.false_and]
   cases x.ins.imm == 1 <;> simp only [cond_true, cond_false]
   rotate_left
   ·rfl
   cases x.ins.imm == 2 <;> simp only [cond_true, cond_false]
   rotate_left
   ·rfl
   cases x.ins.imm == 3 <;> simp only [cond_true, cond_false]
   rotate_left
   ·rfl
   cases x.ins.imm == 5 <;> simp only [cond_true, cond_false]
   ·cases x.ins.imm == 7 <;> simp only [cond_true, cond_false]
    ·cases x.ins.imm == 9 <;> simp only [cond_true, cond_false]
     cases decide (x.emit > 0) <;> cases F_readable x (x.st.regs 1) 0 x.emit <;> cases x.ins.src == 0 <;> rfl
    ·cases x.ins.src == 0 <;> rfl
   ·cases x.ins.src == 0 <;> rfl
  ·simp only [cond_true, cond_false, Bool.and_true, Bool.true_and]
   cases x.ins.imm == 1 <;> simp only [cond_true, cond_false]
   ·cases x.ins.imm == 2 <;> simp only [cond_true, cond_false]
    ·cases x.ins.imm == 3 <;> simp only [cond_true, cond_false]
     ·cases x.ins.imm == 5 <;> simp only [cond_true, cond_false]
      ·cases x.ins.imm == 7 <;> simp only [cond_true, cond_false]
       ·cases x.ins.imm == 9 <;> simp only [cond_true, cond_false]
        cases decide (x.emit > 0) <;> cases F_readable x (x.st.regs 1) 0 x.emit <;> cases x.ins.src == 0 <;> rfl
       ·cases x.ins.src == 0 <;> rfl
      ·cases x.ins.src == 0 <;> rfl
     ·cases F_readable x (x.st.regs 2) 0 (x.maps (x.st.regs 1).map.toNat).key <;> cases x.ins.src == 0 <;> rfl
    ·cases F_readable x (x.st.regs 2) 0 (x.maps (x.st.regs 1).map.toNat).key <;> cases F_readable x (x.st.regs 3) 0 (x.maps (x.st.regs 1).map.toNat).value <;> cases (x.st.regs 4).kind == 1 <;> cases x.ins.src == 0 <;> rfl
   ·cases F_readable x (x.st.regs 2) 0 (x.maps (x.st.regs 1).map.toNat).key <;> cases x.ins.src == 0 <;> rfl
def SLook.on (x : SLook) : Int := IntKind.i64.wrap (x.pc + 1)
def SLook.to (x : SLook) : Int := IntKind.i64.wrap (IntKind.i64.wrap (x.pc + 1) + IntKind.i64.wrap x.ins.off)
def restW (x : SLook) : SSpan × Bool := bif (F_opposite (F_op x)).2 then F_sWhere (F_opposite (F_op x)).1 x.dreg.num (F_second x).num else (x.dreg.num, true)
def mayW (x : SLook) : SSpan × Bool := F_sWhere (F_op x) x.dreg.num (F_second x).num
def maybeT (x : SLook) : Bool := F_class x == 5 && (x.dreg.kind == 6 && (andI .u8 x.ins.op 8 == 0 && (x.ins.imm == 0 && (F_op x == 16 || F_op x == 80))))
def SLook.value (x : SLook) : SReg := ⟨5, ⟨0, 0⟩, 0, 0, x.dreg.map⟩
def testT (x : SLook) : List SOut × Int :=
 bif maybeT x then
  (bif F_op x == 80 then [⟨x.on, x.put (F_Number (F_sOne 0))⟩, ⟨x.to, x.put x.value⟩] else [⟨x.on, x.put x.value⟩, ⟨x.to, x.put (F_Number (F_sOne 0))⟩], 0) else
 bif x.dreg.kind != 1 then ([], 7) else bif (F_second x).kind != 1 then ([], 7) else
 bif F_class x == 5 then ((bif (restW x).2 then [⟨x.on, x.put (F_Number (restW x).1)⟩] else []) ++ (bif (mayW x).2 then [⟨x.to, x.put (F_Number (mayW x).1)⟩] else []), 0) else
 ([⟨x.on, x.put x.dreg⟩, ⟨x.to, x.put x.dreg⟩], 0)
def tailT (x : SLook) : List SOut × Int :=
 bif x.dreg.kind != 1 then ([], 7) else bif (F_second x).kind != 1 then ([], 7) else
 bif F_class x == 5 then ((bif (restW x).2 then [⟨x.on, x.put (F_Number (restW x).1)⟩] else []) ++ (bif (mayW x).2 then [⟨x.to, x.put (F_Number (mayW x).1)⟩] else []), 0) else
 ([⟨x.on, x.put x.dreg⟩, ⟨x.to, x.put x.dreg⟩], 0)
theorem test_eq (x : SLook) : outsOf (F_test x) = testT x := by
 have e : testT x = bif maybeT x then (bif F_op x == 80 then [⟨x.on, x.put (F_Number (F_sOne 0))⟩, ⟨x.to, x.put x.value⟩] else [⟨x.on, x.put x.value⟩, ⟨x.to, x.put (F_Number (F_sOne 0))⟩], 0) else tailT x := rfl
 rw [e]
 unfold F_test q_test_0 q_test_1 q_test_2 q_test_3 q_test_4 q_test_5 q_test_6 q_test_7 q_test_8 maybeT
 have d : x.st.regs x.ins.dst.toNat = x.dreg := rfl
 rw [d]
 have tail : ∀ T : Outs, T = (bif (x.dreg.kind != 1) then (((0 : Nat), fun _ => default), 7)
  else (bif ((F_second x).kind != 1) then (((0 : Nat), fun _ => default), 7)
  else (bif (!(F_class x == 5)) then (((2 : Nat), (updF (updF (fun _ => (⟨0, (⟨(fun _ => zR), (fun _ => false)⟩ : SState)⟩ : SOut)) 0 (F_knows x x.on x.dreg)) 1 (F_knows x x.to x.dreg))), 0)
  else (bif (F_opposite (F_op x)).2 then (bif (F_sWhere (F_opposite (F_op x)).1 x.dreg.num (F_second x).num).2 then (bif (mayW x).2 then (((2 : Nat), (catF 1 (catF 0 (fun _ => default) 0 (updF (fun _ => (⟨0, (⟨(fun _ => zR), (fun _ => false)⟩ : SState)⟩ : SOut)) 0 (F_knows x x.on (F_Number (F_sWhere (F_opposite (F_op x)).1 x.dreg.num (F_second x).num).1)))) 0 (updF (fun _ => (⟨0, (⟨(fun _ => zR), (fun _ => false)⟩ : SState)⟩ : SOut)) 0 (F_knows x x.to (F_Number (mayW x).1))))), 0)
  else (((1 : Nat), (catF 0 (fun _ => default) 0 (updF (fun _ => (⟨0, (⟨(fun _ => zR), (fun _ => false)⟩ : SState)⟩ : SOut)) 0 (F_knows x x.on (F_Number (F_sWhere (F_opposite (F_op x)).1 x.dreg.num (F_second x).num).1))))), 0))
  else (bif (mayW x).2 then (((1 : Nat), (catF 0 (fun _ => default) 0 (updF (fun _ => (⟨0, (⟨(fun _ => zR), (fun _ => false)⟩ : SState)⟩ : SOut)) 0 (F_knows x x.to (F_Number (mayW x).1))))), 0)
  else (((0 : Nat), fun _ => default), 0)))
  else (bif (mayW x).2 then (((2 : Nat), (catF 1 (catF 0 (fun _ => default) 0 (updF (fun _ => (⟨0, (⟨(fun _ => zR), (fun _ => false)⟩ : SState)⟩ : SOut)) 0 (F_knows x x.on (F_Number x.dreg.num)))) 0 (updF (fun _ => (⟨0, (⟨(fun _ => zR), (fun _ => false)⟩ : SState)⟩ : SOut)) 0 (F_knows x x.to (F_Number (mayW x).1))))), 0)
  else (((1 : Nat), (catF 0 (fun _ => default) 0 (updF (fun _ => (⟨0, (⟨(fun _ => zR), (fun _ => false)⟩ : SState)⟩ : SOut)) 0 (F_knows x x.on (F_Number x.dreg.num))))), 0)))))) -> outsOf T = tailT x := by
  rintro T rfl
  unfold tailT restW
  cases x.dreg.kind != 1 <;> simp only [cond_true, cond_false]
  rotate_left
  ·rfl
  cases (F_second x).kind != 1 <;> simp only [cond_true, cond_false]
  rotate_left
  ·rfl
  cases F_class x == 5 <;> simp only [cond_true, cond_false, Bool.not_true, Bool.not_false]
  ·rfl
  cases (F_opposite (F_op x)).2 <;> simp only [cond_true, cond_false]
  ·cases (mayW x).2 <;> rfl
  ·cases (F_sWhere (F_opposite (F_op x)).1 x.dreg.num (F_second x).num).2 <;> simp only [cond_true, cond_false]
   ·cases (mayW x).2 <;> rfl
   ·cases (mayW x).2 <;> rfl
 cases h5 : F_class x == 5 <;> simp only [cond_true, cond_false, Bool.false_and, Bool.true_and, h5]
 ·exact tail _ (by rw [h5]; rfl)
 cases x.dreg.kind == 6 <;> simp only [cond_true, cond_false, Bool.false_and, Bool.true_and, h5]
 ·exact tail _ (by rw [h5]; rfl)
 cases andI .u8 x.ins.op 8 == 0 <;> simp only [cond_true, cond_false, Bool.false_and, Bool.true_and, h5]
 ·exact tail _ (by rw [h5]; rfl)
 cases x.ins.imm == 0 <;> simp only [cond_true, cond_false, Bool.false_and, Bool.true_and, h5]
 ·exact tail _ (by rw [h5]; rfl)
 cases F_op x == 16 <;> simp only [cond_true, cond_false, Bool.false_or, Bool.true_or, h5]
 ·cases F_op x == 80 <;> simp only [cond_true, cond_false, h5]
  ·exact tail _ (by rw [h5]; rfl)
  ·rfl
 ·cases F_op x == 80 <;> rfl
def stepT (x : SLook) : List SOut × Int :=
 bif F_class x == 0 then ok1 (IntKind.i64.wrap (x.pc + 2)) (F_wide x) else
 bif F_class x == 1 then ok1 x.on (F_load x) else
 bif F_class x == 2 || F_class x == 3 then ok1 x.on (F_store x) else
 bif F_class x == 4 || F_class x == 7 then ok1 x.on (aluT x) else
 bif F_op x == 0 then ([⟨x.to, x.st⟩], 0) else
 bif F_op x == 144 then ([], bif (x.st.regs 0).kind != 1 then 7 else 0) else
 bif F_op x == 128 then ok1 x.on (callT x) else testT x
theorem Step_eq (e : SEnv) (s : SState) (n : Nat) (l : Nat -> SInsn) (pc : Int) : outsOf (F_Step e s n l pc) = stepT (mkLook e s n l pc) := by
 unfold F_Step q_Step_0 q_Step_1 stepT
 rw [alu_eq, call_eq]
 have k : ∀ (q : Int) (r : Bool × SState), outsOf (bif (!r.1) then (((0 : Nat), fun _ => default), 7) else (((1 : Nat), (updF (fun _ => (⟨0, (⟨(fun _ => (⟨0, (⟨0, 0⟩ : SSpan), 0, 0, 0⟩ : SReg)), (fun _ => false)⟩ : SState)⟩ : SOut)) 0 (⟨q, r.2⟩ : SOut))), 0)) = ok1 q r := by
  intro q r
  unfold ok1
  cases r.1 <;> rfl
 cases F_class (mkLook e s n l pc) == 0 <;> simp only [cond_true, cond_false]
 rotate_left
 ·exact k _ _
 cases F_class (mkLook e s n l pc) == 1 <;> simp only [cond_true, cond_false]
 rotate_left
 ·exact k _ _
 cases F_class (mkLook e s n l pc) == 2 <;> simp only [cond_true, cond_false, Bool.false_or, Bool.true_or]
 rotate_left
 ·exact k _ _
 cases F_class (mkLook e s n l pc) == 3 <;> simp only [cond_true, cond_false]
 rotate_left
 ·exact k _ _
 cases F_class (mkLook e s n l pc) == 4 <;> simp only [cond_true, cond_false, Bool.false_or, Bool.true_or]
 rotate_left
 ·exact k _ _
 cases F_class (mkLook e s n l pc) == 7 <;> simp only [cond_true, cond_false]
 rotate_left
 ·exact k _ _
 cases F_op (mkLook e s n l pc) == 0 <;> simp only [cond_true, cond_false]
 rotate_left
 ·rfl
 cases F_op (mkLook e s n l pc) == 144 <;> simp only [cond_true, cond_false]
 ·cases F_op (mkLook e s n l pc) == 128 <;> simp only [cond_true, cond_false]
  ·exact test_eq _
  ·exact k _ _
 ·show outsOf (bif ((s.regs 0).kind != 1) then (((0 : Nat), fun _ => default), 7) else (((0 : Nat), fun _ => default), 0)) = ([], bif ((s.regs 0).kind != 1) then 7 else 0)
  cases (s.regs 0).kind != 1 <;> rfl
theorem outs_len (r : Outs) : (outsOf r).1.length = r.1.1 := by simp [outsOf]
theorem outs_at (r : Outs) {i : Nat} (h : i < r.1.1) : (outsOf r).1[i]? = some (r.1.2 i) := by simp [outsOf, h]
def imB (a b : Bool) : Bool := !a || b
theorem imB_t {a b : Bool} (h : imB a b = true) (ha : a = true) : b = true := by subst ha; simpa [imB] using h
def cls (x : Int) : Int := andI .u8 x 7
def opc (x : Int) : Int := andI .u8 x 240
def opG (x : Int) : List Bool :=
  [imB (cls x == 0) (x == 24), imB (cls x == 0 || cls x == 1 || cls x == 4 || cls x == 7) (F_writes (op0 x)), imB ((cls x == 5 || cls x == 6) && (opc x != 0 && opc x != 128 && opc x != 144)) (F_jumps (op0 x)),
   imB (cls x == 6) (opc x != 0 && opc x != 128 && opc x != 144), imB (cls x == 5 && opc x == 0) (x == 5 && F_jumps (op0 x)), imB (cls x == 5 && opc x == 128) (x == 133), imB (cls x == 5 && opc x == 144) (x == 149),
   imB (cls x == 4 || cls x == 7) (decide (opc x <= 192)), imB ((cls x == 4 || cls x == 7) && opc x == 128) (andI .u8 x 8 == 0), decide (0 <= cls x /\ cls x <= 7), F_scls (op0 x) == cls x, F_what (op0 x) == opc x,
   imB (F_exits (op0 x)) (x == 149), imB (F_jumps (op0 x)) (cls x == 5 || cls x == 6)]
theorem opG_nat : ∀ o : Nat, o < 256 -> (!(fl (o : Int)).2 || (opG (o : Int)).all id) = true := by decide +kernel
theorem opG_all {x : Int} (h0 : 0 <= x) (h1 : x < 256) (hf : (fl x).2 = true) : (opG x).all id = true := by
 have := opG_nat x.toNat (by omega)
 rw [Int.toNat_of_nonneg h0, hf] at this
 simpa using this
structure OpOk (i : SInsn) : Prop where
 ld : cls i.op = 0 -> i.op = 24
 writes : cls i.op = 0 ∨ cls i.op = 1 ∨ cls i.op = 4 ∨ cls i.op = 7 -> F_writes i = true
 jumps : cls i.op = 5 ∨ cls i.op = 6 -> opc i.op ≠ 0 -> opc i.op ≠ 128 -> opc i.op ≠ 144 -> F_jumps i = true
 j32 : cls i.op = 6 -> opc i.op ≠ 0 /\ opc i.op ≠ 128 /\ opc i.op ≠ 144
 ja : cls i.op = 5 -> opc i.op = 0 -> i.op = 5 /\ F_jumps i = true
 call : cls i.op = 5 -> opc i.op = 128 -> i.op = 133
 exit : cls i.op = 5 -> opc i.op = 144 -> i.op = 149
 alu : cls i.op = 4 ∨ cls i.op = 7 -> opc i.op <= 192
 neg : cls i.op = 4 ∨ cls i.op = 7 -> opc i.op = 128 -> andI .u8 i.op 8 = 0
 c0 : 0 <= cls i.op
 c7 : cls i.op <= 7
 scls : F_scls i = cls i.op
 what : F_what i = opc i.op
 exits : F_exits i = true -> i.op = 149
 jcls : F_jumps i = true -> cls i.op = 5 ∨ cls i.op = 6
theorem op_ok {i : SInsn} (h0 : 0 <= i.op) (h1 : i.op < 256) (hf : F_Known i = true) : OpOk i := by
 have h := opG_all h0 h1 (known_fl hf)
 simp only [opG, List.all_cons, List.all_nil, id, Bool.and_true, Bool.and_eq_true] at h
 obtain ⟨a1, a2, a3, a4, a5, a6, a7, a8, a9, a10, a11, a12, a13, a14⟩ := h
 have e : ∀ {a b : Int}, a = b -> (a == b) = true := fun h => beq_iff_eq.2 h
 have d : ∀ {a b : Int}, a ≠ b -> (a != b) = true := fun h => by simp [h]
 refine ⟨fun h => beq_iff_eq.1 (imB_t a1 (e h)), fun h => ?_, fun h h2 h3 h4 => ?_, fun h => ?_, fun h h2 => ?_, fun h h2 => ?_, fun h h2 => ?_, fun h => ?_, fun h h2 => ?_, (of_decide_eq_true a10).1, (of_decide_eq_true a10).2, beq_iff_eq.1 a11, beq_iff_eq.1 a12, fun h => beq_iff_eq.1 (imB_t a13 h), fun h => ?_⟩
 ·rw [writes_op]; exact imB_t a2 (by rcases h with h | h | h | h <;> simp [h])
 ·rw [jumps_op]; exact imB_t a3 (by rw [d h2, d h3, d h4]; rcases h with h | h <;> simp [h])
 ·have := imB_t a4 (e h); simp only [Bool.and_eq_true, bne_iff_ne] at this; exact ⟨this.1.1, this.1.2, this.2⟩
 ·have := imB_t a5 (by rw [e h, e h2]; rfl); rw [jumps_op]; simpa using this
 ·have := imB_t a6 (by rw [e h, e h2]; rfl); simpa using this
 ·have := imB_t a7 (by rw [e h, e h2]; rfl); simpa using this
 ·exact of_decide_eq_true (imB_t a8 (by rcases h with h | h <;> simp [h]))
 ·have := imB_t a9 (by rw [e h2]; rcases h with h | h <;> simp [h]); simpa using this
 ·have := imB_t a14 (by rw [← jumps_op]; exact h); simpa using this
structure InsOk (c : SCase) (n : Nat) (l : Nat -> SInsn) : Prop extends OpOk c.ins where
 dst : 0 <= c.ins.dst /\ c.ins.dst < 11
 src : 0 <= c.ins.src /\ c.ins.src < 11
 ten : F_writes c.ins = true -> c.ins.dst ≠ 10
 helper : cls c.ins.op = 5 -> opc c.ins.op = 128 -> F_helper c.ins.imm = true
 off0 : F_jumps c.ins = true -> 0 <= c.ins.off
 off1 : F_jumps c.ins = true -> 1 + c.ins.off < n
theorem Prog.insok {c : SCase} (hc : PIns c.ins) {n : Nat} {l : Nat -> SInsn} (h : Prog c n l) : InsOk c n l := by
 have hw := h.okay.good 0 (by have := h.low; omega)
 have hr := h.regs
 have ho := op_ok hc.1.1 hc.1.2 h.known
 unfold badS at hw
 simp only [halfS, Bool.not_false, Bool.true_or, Bool.true_and] at hw
 unfold wrongS at hw
 simp only [Bool.or_eq_false_iff, decide_eq_false_iff_not, Bool.and_eq_false_iff] at hw
 rw [h.at0] at hw
 obtain ⟨⟨⟨⟨⟨w1, w2⟩, w3⟩, w4⟩, w5⟩, w6⟩ := hw
 refine ⟨ho, ⟨hc.2.1.1, hr.1⟩, ⟨hc.2.2.1.1, hr.2⟩, fun h hd => ?_, fun h1 h2 => ?_, fun h => ?_, fun h => ?_⟩
 ·rcases w3 with w | w
  ·rw [h] at w; cases w
  ·simp [hd] at w
 ·rcases w4 with (w | w) | w
  ·rw [ho.scls, h1] at w; simp at w
  ·rw [ho.what, h2] at w; simp at w
  ·simpa using w
 ·rcases w5 with w | w
  ·rw [h] at w; cases w
  ·omega
 ·rcases w5 with w | w
  ·rw [h] at w; cases w
  ·omega
def look0 (c : SCase) (s : SState) : SLook := mkLook (F_env c) s (F_program c).1.1 (F_program c).1.2 0
structure At0 (c : SCase) (s : SState) (x : SLook) : Prop where
 prog : Prog c (F_program c).1.1 (F_program c).1.2
 ins : InsOk c (F_program c).1.1 (F_program c).1.2
 look : LkOk x
 at0 : x.ins = c.ins
 st : x.st = s
 on : x.on = 1
 to : x.to = 1 + c.ins.off
 pc : x.pc = 0
 l : x.l = (F_program c).1.2
 cls : F_class x = Dd.cls c.ins.op
 op : F_op x = opc c.ins.op
theorem at_0 {c : SCase} (hc : CsOk c) (h : (!(F_program c).2) = false) {s : SState} (hs : RegsOk s.regs) : At0 c s (look0 c s) := by
 have hp := prog_ok hc.ins hc.second (by simpa using h)
 have e : (look0 c s).ins = c.ins := hp.at0
 have ho := hc.ins.2.2.2.1
 refine ⟨hp, hp.insok hc.ins, (look_of hc h hs).2.2, e, rfl, rfl, ?_, rfl, rfl, ?_, ?_⟩
 ·unfold SLook.to
  rw [e]
  show IntKind.i64.wrap (IntKind.i64.wrap (0 + 1) + IntKind.i64.wrap c.ins.off) = 1 + c.ins.off
  rw [i64_id (k := c.ins.off) (by omega) (by omega), i64_id (k := 0 + 1) (by omega) (by omega), i64_id (by omega) (by omega)]; omega
 ·unfold F_class Dd.cls; rw [e]
 ·unfold F_op opc; rw [e]
theorem out0 (c : SCase) (s : SState) : outsOf (F_Step (F_env c) s (F_program c).1.1 (F_program c).1.2 0) = stepT (look0 c s) := Step_eq _ _ _ _ _
def E2 (r : List SOut × Int) : Prop := (r.2 = 0) ∨ (r.2 = 7 /\ r.1 = [])
theorem bifE {c : Bool} {x y : List SOut × Int} (hx : E2 x) (hy : E2 y) : E2 (bif c then x else y) := by cases c; exact hy; exact hx
theorem ok1_E2 (q : Int) (r : Bool × SState) : E2 (ok1 q r) := by
 unfold ok1
 exact bifE (.inl rfl) (.inr ⟨rfl, rfl⟩)
theorem test_E2 (x : SLook) : E2 (testT x) := by
 unfold testT
 exact bifE (.inl rfl) (bifE (.inr ⟨rfl, rfl⟩) (bifE (.inr ⟨rfl, rfl⟩) (bifE (.inl rfl) (.inl rfl))))
theorem step_E2 (x : SLook) : E2 (stepT x) := by
 unfold stepT
 refine bifE (ok1_E2 _ _) (bifE (ok1_E2 _ _) (bifE (ok1_E2 _ _) (bifE (ok1_E2 _ _) (bifE (.inl rfl) (bifE ?_ (bifE (ok1_E2 _ _) (test_E2 _)))))))
 cases (x.st.regs 0).kind != 1
 ·exact .inl rfl
 ·exact .inr ⟨rfl, rfl⟩
theorem eqt {a b : Int} (h : a = b) : (a == b) = true := beq_iff_eq.2 h
theorem eqf {a b : Int} (h : a ≠ b) : (a == b) = false := beq_eq_false_iff_ne.2 h
theorem nef {a b : Int} (h : a = b) : (a != b) = false := by simp [h]
theorem net {a b : Int} (h : a ≠ b) : (a != b) = true := by simp [h]
theorem step_test {x : SLook} (hc : F_class x = 5 ∨ F_class x = 6) (h0 : F_op x ≠ 0) (h1 : F_op x ≠ 144) (h2 : F_op x ≠ 128) : stepT x = testT x := by
 unfold stepT
 rw [eqf (show F_class x ≠ 0 by omega), eqf (show F_class x ≠ 1 by omega), eqf (show F_class x ≠ 2 by omega), eqf (show F_class x ≠ 3 by omega), eqf (show F_class x ≠ 4 by omega), eqf (show F_class x ≠ 7 by omega), eqf h0, eqf h1, eqf h2]; rfl
theorem step_call {x : SLook} (hc : F_class x = 5) (h2 : F_op x = 128) : stepT x = ok1 x.on (callT x) := by
 unfold stepT
 rw [eqf (show F_class x ≠ 0 by omega), eqf (show F_class x ≠ 1 by omega), eqf (show F_class x ≠ 2 by omega), eqf (show F_class x ≠ 3 by omega), eqf (show F_class x ≠ 4 by omega), eqf (show F_class x ≠ 7 by omega), eqf (show F_op x ≠ 0 by omega), eqf (show F_op x ≠ 144 by omega), eqt h2]; rfl
theorem step_alu {x : SLook} (hc : F_class x = 4 ∨ F_class x = 7) : stepT x = ok1 x.on (aluT x) := by
 unfold stepT
 rw [eqf (show F_class x ≠ 0 by omega), eqf (show F_class x ≠ 1 by omega), eqf (show F_class x ≠ 2 by omega), eqf (show F_class x ≠ 3 by omega)]
 rcases hc with h | h <;> rw [h] <;> rfl
theorem step_ld {x : SLook} (hc : F_class x = 0) : stepT x = ok1 (IntKind.i64.wrap (x.pc + 2)) (F_wide x) := by
 unfold stepT
 rw [eqt hc]; rfl
theorem step_ldx {x : SLook} (hc : F_class x = 1) : stepT x = ok1 x.on (F_load x) := by
 unfold stepT
 rw [hc]; rfl
theorem step_st {x : SLook} (hc : F_class x = 2 ∨ F_class x = 3) : stepT x = ok1 x.on (F_store x) := by
 unfold stepT
 rcases hc with h | h <;> rw [h] <;> rfl
theorem step_ja {x : SLook} (hc : F_class x = 5 ∨ F_class x = 6) (h2 : F_op x = 0) : stepT x = ([⟨x.to, x.st⟩], 0) := by
 unfold stepT
 rw [eqf (show F_class x ≠ 0 by omega), eqf (show F_class x ≠ 1 by omega), eqf (show F_class x ≠ 2 by omega), eqf (show F_class x ≠ 3 by omega), eqf (show F_class x ≠ 4 by omega), eqf (show F_class x ≠ 7 by omega), eqt h2]; rfl
theorem step_exit {x : SLook} (hc : F_class x = 5 ∨ F_class x = 6) (h2 : F_op x = 144) : stepT x = ([], bif (x.st.regs 0).kind != 1 then 7 else 0) := by
 unfold stepT
 rw [eqf (show F_class x ≠ 0 by omega), eqf (show F_class x ≠ 1 by omega), eqf (show F_class x ≠ 2 by omega), eqf (show F_class x ≠ 3 by omega), eqf (show F_class x ≠ 4 by omega), eqf (show F_class x ≠ 7 by omega), eqf (show F_op x ≠ 0 by omega), eqt h2]; rfl
abbrev stO (c : SCase) (s : SState) : Outs := outC F_Step F_env F_program c s
structure Told (c : SCase) (s : SState) (l : List SOut) (e : Int) : Prop where
 err : (stO c s).2 = e
 len : (stO c s).1.1 = l.length
 outs : ∀ i, i < l.length -> l[i]? = some ((stO c s).1.2 i)
theorem told_of {c : SCase} {s : SState} {l : List SOut} {e : Int} (h : stepT (look0 c s) = (l, e)) : Told c s l e := by
 have o := out0 c s
 rw [h] at o
 have h2 : (stO c s).2 = e := congrArg Prod.snd o
 have hl : (outsOf (stO c s)).1 = l := congrArg Prod.fst o
 have h1 : (stO c s).1.1 = l.length := by rw [← hl, outs_len]
 exact ⟨h2, h1, fun i hi => by rw [← hl]; exact outs_at _ (by omega)⟩
theorem Told.at {c : SCase} {s : SState} {l : List SOut} {e : Int} (h : Told c s l e) {i : Nat} {o : SOut} (ho : l[i]? = some o) : (stO c s).1.2 i = o := by
 have hi : i < l.length := (List.getElem?_eq_some_iff.1 ho).1
 have := h.outs i hi
 rw [ho] at this
 exact (Option.some.inj this).symm
abbrev stC (c : SCase) : SState := F_state c.nr c.regs c.ns c.stack
abbrev foC (c : SCase) : Nat × (Nat -> Int) := F_Follow (F_program c).1.1 (F_program c).1.2 0
structure GoodO (c : SCase) (o : SOut) : Prop where
 next : ∃ k, k < (foC c).1 /\ (foC c).2 k = o.pC
 pos : 0 < o.pC
 lt : o.pC < ((F_program c).1.1 : Int)
 ten : c.ins.dst ≠ 10 -> o.state.regs 10 = (stC c).regs 10
 stack : ∀ k, k < 512 -> (stC c).stack k = true -> o.state.stack k = true
theorem loops_on (c : SCase) (hl : (stO c (stC c)).1.1 <= 2) (hg : ∀ i, i < (stO c (stC c)).1.1 -> GoodO c ((stO c (stC c)).1.2 i)) : ∀ fuel : Nat,
 (∀ i k : Int, 0 <= i -> i < ((stO c (stC c)).1.1 : Int) -> i < 2 -> 0 <= k -> k <= 512 -> 2000 * (2 - i) + 1 + (512 - k) < fuel -> L_StepOnward_2 fuel c i k = true) /\
 (∀ (i : Int) (f : Bool) (k : Int), 0 <= i -> i < ((stO c (stC c)).1.1 : Int) -> i < 2 -> 0 <= k -> k <= ((foC c).1 : Int) -> 2000 * (2 - i) + 600 + (((foC c).1 : Int) - k) < fuel -> (f = true ∨ ∃ j : Nat, k <= j /\ j < (foC c).1 /\ (foC c).2 j = ((stO c (stC c)).1.2 i.toNat).pC) -> L_StepOnward_1 fuel c i f k = true) /\
 (∀ i : Int, 0 <= i -> i <= ((stO c (stC c)).1.1 : Int) -> i <= 2 -> 2000 * (3 - i) < fuel -> L_StepOnward_0 fuel c i = true) := by
 have hF : ((foC c).1 : Int) <= 2 := by have := Follow_le (F_program c).1.1 (F_program c).1.2 0; show ((F_Follow (F_program c).1.1 (F_program c).1.2 0).1 : Int) <= 2; omega
 intro fuel
 induction fuel with
 | zero => exact ⟨fun i k h0 h1 h2 h3 h4 h => by omega, fun i f k h0 h1 h2 h3 h4 h => by omega, fun i h0 h1 h2 h => by omega⟩
 | succ fuel ih =>
  obtain ⟨ih2, ih1, ih0⟩ := ih
  refine ⟨fun i k h0 h1 h2 h3 h4 h => ?_, fun i f k h0 h1 h2 h3 h4 h hf => ?_, fun i h0 h1 h2 h => ?_⟩
  ·rw [L_StepOnward_2]
   have G := hg i.toNat (by omega)
   by_cases c1 : k < 512
   ·rw [decide_eq_true c1, cond_true, i64_id (k := k + 1) (by omega) (by omega)]
    have go := ih2 i (k + 1) h0 h1 h2 (by omega) (by omega) (by omega)
    cases hs : (F_state c.nr c.regs c.ns c.stack).stack k.toNat
    ·rw [cond_false]; exact go
    ·rw [cond_true]
     have := G.stack k.toNat (by omega) hs
     rw [show ((outC F_Step F_env F_program c (F_state c.nr c.regs c.ns c.stack)).1.2 i.toNat).state.stack k.toNat = true from this, Bool.not_true, cond_false]; exact go
   ·rw [decide_eq_false c1, cond_false, i64_id (k := i + 1) (by omega) (by omega)]
    exact ih0 (i + 1) (by omega) (by omega) (by omega) (by omega)
  ·rw [L_StepOnward_1]
   have G := hg i.toNat (by omega)
   by_cases c1 : k < ((foC c).1 : Int)
   ·rw [show decide (k < (((F_Follow (F_program c).1.1 (F_program c).1.2 0).1 : Nat) : Int)) = true from decide_eq_true c1, cond_true, i64_id (k := k + 1) (by omega) (by omega)]
    cases f
    ·rw [cond_false]
     rcases hf with hf | ⟨j, j1, j2, j3⟩
     ·cases hf
     ·refine ih1 i _ (k + 1) h0 h1 h2 (by omega) (by omega) (by omega) ?_
      by_cases e : j = k.toNat
      ·left; subst e; exact beq_iff_eq.2 j3
      ·right; exact ⟨j, by omega, j2, j3⟩
    ·rw [cond_true]; exact ih1 i true (k + 1) h0 h1 h2 (by omega) (by omega) (by omega) (.inl rfl)
   ·rw [show decide (k < (((F_Follow (F_program c).1.1 (F_program c).1.2 0).1 : Nat) : Int)) = false from decide_eq_false c1, cond_false]
    have ff : f = true := by
     rcases hf with hf | ⟨j, j1, j2, j3⟩
     ·exact hf
     ·omega
    subst ff
    have p1 : 0 < ((outC F_Step F_env F_program c (F_state c.nr c.regs c.ns c.stack)).1.2 i.toNat).pC := G.pos
    have p2 : ((outC F_Step F_env F_program c (F_state c.nr c.regs c.ns c.stack)).1.2 i.toNat).pC < ((F_program c).1.1 : Int) := G.lt
    have go := ih2 i 0 h0 h1 h2 (by omega) (by omega) (by omega)
    rw [Bool.not_true, cond_false, decide_eq_false (by omega), cond_false, decide_eq_false (by omega), cond_false]
    by_cases hd : c.ins.dst = 10
    ·rw [nef hd, cond_false]; exact go
    ·have ht : ((outC F_Step F_env F_program c (F_state c.nr c.regs c.ns c.stack)).1.2 i.toNat).state.regs 10 = (F_state c.nr c.regs c.ns c.stack).regs 10 := G.ten hd
     rw [net hd, cond_true, ht, show veqB (v38 ((F_state c.nr c.regs c.ns c.stack).regs 10)) (v38 ((F_state c.nr c.regs c.ns c.stack).regs 10)) = true by simp [v38, v36, veqB, veqsB], Bool.not_true, cond_false]; exact go
  ·rw [L_StepOnward_0]
   by_cases c1 : i < ((stO c (stC c)).1.1 : Int)
   ·rw [show decide (i < (((outC F_Step F_env F_program c (F_state c.nr c.regs c.ns c.stack)).1.1 : Nat) : Int)) = true from decide_eq_true c1, cond_true]
    obtain ⟨j, j1, j2⟩ := (hg i.toNat (by omega)).next
    exact ih1 i false 0 h0 c1 (by omega) (by omega) (by omega) (by omega) (.inr ⟨j, by omega, j1, j2⟩)
   ·rw [show decide (i < (((outC F_Step F_env F_program c (F_state c.nr c.regs c.ns c.stack)).1.1 : Nat) : Int)) = false from decide_eq_false c1, cond_false]; exact shown_true
theorem okI_of {i : SInsn} (h : PIns i) : OkI i := by
 obtain ⟨⟨h0, h1⟩, ⟨h2, h3⟩, ⟨h4, h5⟩, ⟨h6, h7⟩, h8, h9⟩ := h
 exact ⟨h0, by omega, h2, by omega, h4, by omega, h6, h7, h8, h9⟩
theorem next_of {c : SCase} {n : Nat} {l : Nat -> SInsn} (h : Prog c n l) : Next l 0 (F_Follow n l 0) := by
 have := Follow_next (n := n) (g := l) (fun a ha => okI_of (h.ins a ha)) h.okay (a := 0) (by have := h.low; omega) rfl
 exact this
theorem follow_one {c : SCase} {n : Nat} {l : Nat -> SInsn} (h : Prog c n l) (hi : InsOk c n l) (hc : cls c.ins.op = 1 ∨ cls c.ins.op = 2 ∨ cls c.ins.op = 3 ∨ cls c.ins.op = 4 ∨ cls c.ins.op = 7 ∨ cls c.ins.op = 5 /\ opc c.ins.op = 128) :
 (F_Follow n l 0).1 = 1 /\ (F_Follow n l 0).2 0 = 1 := by
 have N := next_of h
 have e0 := h.at0
 have c149 : cls 149 = 5 := by decide +kernel
 have o149 : opc 149 = 144 := by decide +kernel
 have c24 : cls 24 = 0 := by decide +kernel
 have nj : F_jumps c.ins = true -> False := fun hj => by
  rcases hc with h | h | h | h | h | ⟨h, h'⟩
  ·rcases hi.jcls hj with k | k <;> omega
  ·rcases hi.jcls hj with k | k <;> omega
  ·rcases hi.jcls hj with k | k <;> omega
  ·rcases hi.jcls hj with k | k <;> omega
  ·rcases hi.jcls hj with k | k <;> omega
  ·have := hi.call h h'
   have hx : F_jumps c.ins = F_jumps (op0 c.ins.op) := jumps_op c.ins
   rw [this] at hx
   rw [hx] at hj
   exact absurd hj (by decide +kernel)
 cases N with
 | ends he k =>
  rw [e0] at he
  have := hi.exits he
  rw [this] at hc
  rw [c149, o149] at hc; omega
 | wide he w k v => rw [e0] at w; rw [w, c24] at hc; omega
 | ja he w j o k v => rw [e0] at j; exact (nj j).elim
 | one he w j o z k v => exact ⟨k, v⟩
 | two he w j o z k v u => rw [e0] at j; exact (nj j).elim
 | on he w j k v => exact ⟨k, v⟩
theorem follow_wide {c : SCase} {n : Nat} {l : Nat -> SInsn} (h : Prog c n l) (hi : InsOk c n l) (hc : cls c.ins.op = 0) : (F_Follow n l 0).1 = 1 /\ (F_Follow n l 0).2 0 = 2 := by
 have N := next_of h
 have e0 := h.at0
 have ho := hi.ld hc
 have hx : F_exits c.ins = false := by rw [exits_op, ho]; decide +kernel
 cases N with
 | ends he k => rw [e0, hx] at he; cases he
 | wide he w k v => exact ⟨k, v⟩
 | ja he w j o k v => rw [e0] at w; exact absurd ho w
 | one he w j o z k v => rw [e0] at w; exact absurd ho w
 | two he w j o z k v u => rw [e0] at w; exact absurd ho w
 | on he w j k v => rw [e0] at w; exact absurd ho w
theorem follow_jump {c : SCase} {n : Nat} {l : Nat -> SInsn} (h : Prog c n l) (hi : InsOk c n l) (hj : F_jumps c.ins = true) :
 (∃ k, k < (F_Follow n l 0).1 /\ (F_Follow n l 0).2 k = 1 + c.ins.off) /\ (c.ins.op ≠ 5 -> ∃ k, k < (F_Follow n l 0).1 /\ (F_Follow n l 0).2 k = 1) := by
 have N := next_of h
 have e0 := h.at0
 have hx : F_exits c.ins = false := ok_not_both (okI_of (by have := h.ins 0 (by have := h.low; omega); rwa [e0] at this)) hj
 have c24 : cls 24 = 0 := by decide +kernel
 have hc := hi.jcls hj
 cases N with
 | ends he k => rw [e0, hx] at he; cases he
 | wide he w k v => rw [e0] at w; rw [w, c24] at hc; omega
 | ja he w j o k v => rw [e0] at o v; exact ⟨⟨0, by omega, by rw [v]; omega⟩, fun h => absurd o h⟩
 | one he w j o z k v => rw [e0] at z; exact ⟨⟨0, by omega, by rw [v]; omega⟩, fun _ => ⟨0, by omega, by rw [v]; omega⟩⟩
 | two he w j o z k v u => rw [e0] at u; exact ⟨⟨1, by omega, by rw [u]; omega⟩, fun _ => ⟨0, by omega, by rw [v]; omega⟩⟩
 | on he w j k v => rw [e0] at j; rw [hj] at j; cases j
structure Kept (c : SCase) (s s' : SState) : Prop where
 ten : c.ins.dst ≠ 10 -> s'.regs 10 = s.regs 10
 stack : ∀ k, s.stack k = true -> s'.stack k = true
theorem kept_put {c : SCase} {s : SState} {x : SLook} (h : At0 c s x) (r : SReg) : Kept c s (x.put r) := by
 refine ⟨fun hd => ?_, fun k hk => by rw [← h.st] at hk; exact hk⟩
 show updF x.st.regs x.ins.dst.toNat r 10 = s.regs 10
 have := h.ins.dst
 rw [updF_at, h.at0, if_neg (by omega), h.st]
theorem kept_same {c : SCase} {s : SState} {x : SLook} (h : At0 c s x) : Kept c s x.st := ⟨fun _ => by rw [h.st], fun k hk => by rw [h.st]; exact hk⟩
theorem wide_put (x : SLook) : ∃ b r, F_wide x = (b, x.put r) := by
 unfold F_wide
 cases x.ins.src == 1
 ·exact ⟨_, _, rfl⟩
 ·cases decide (IntKind.i64.wrap x.ins.imm >= 0)
  ·exact ⟨_, _, rfl⟩
  ·exact ⟨_, _, rfl⟩
theorem alu_put (x : SLook) : (aluT x).2 = x.st ∨ ∃ r, (aluT x).2 = x.put r := by
 unfold aluT
 cases F_op x == 176
 ·cases F_op x == 128
  ·cases (F_second x).kind == 1
   ·exact .inl rfl
   ·cases x.dreg.kind == 1
    ·cases (F_class x == 7 && (F_op x == 0 || F_op x == 16))
     ·exact .inl rfl
     ·exact .inr ⟨_, rfl⟩
    ·exact .inr ⟨_, rfl⟩
  ·cases x.dreg.kind == 1
   ·exact .inl rfl
   ·exact .inr ⟨_, rfl⟩
 ·cases F_class x == 7
  ·cases (F_second x).kind == 1
   ·exact .inl rfl
   ·exact .inr ⟨_, rfl⟩
  ·exact .inr ⟨_, rfl⟩
theorem call_put (x : SLook) : (callT x).2 = x.st ∨ ∃ r, (callT x).2 = forget x r := by
 unfold callT
 cases x.ins.imm == 1
 ·cases x.ins.imm == 2
  ·cases x.ins.imm == 3
   ·cases x.ins.imm == 5
    ·cases x.ins.imm == 7
     ·cases x.ins.imm == 9
      ·exact .inl rfl
      ·exact .inr ⟨_, rfl⟩
     ·exact .inr ⟨_, rfl⟩
    ·exact .inr ⟨_, rfl⟩
   ·exact .inr ⟨_, rfl⟩
  ·exact .inr ⟨_, rfl⟩
 ·exact .inr ⟨_, rfl⟩
theorem mem_ok1 {q : Int} {r : Bool × SState} {o : SOut} (h : o ∈ (ok1 q r).1) : o = ⟨q, r.2⟩ := by
 unfold ok1 at h
 cases hr : r.1
 ·rw [hr] at h; cases h
 ·rw [hr] at h; simpa using h
theorem mem_test {x : SLook} {o : SOut} (h : o ∈ (testT x).1) : (o.pC = x.on ∨ o.pC = x.to) /\ ∃ r, o.state = x.put r := by
 unfold testT at h
 cases h1 : maybeT x
 ·rw [h1, cond_false] at h
  cases h2 : x.dreg.kind != 1
  ·rw [h2, cond_false] at h
   cases h3 : (F_second x).kind != 1
   ·rw [h3, cond_false] at h
    cases h4 : F_class x == 5
    ·rw [h4, cond_false] at h
     simp only [List.mem_cons, List.not_mem_nil, or_false] at h
     rcases h with rfl | rfl
     ·exact ⟨.inl rfl, _, rfl⟩
     ·exact ⟨.inr rfl, _, rfl⟩
    ·rw [h4, cond_true] at h
     rcases List.mem_append.1 h with h | h
     ·cases hr : (restW x).2
      ·rw [hr] at h; cases h
      ·rw [hr, cond_true, List.mem_singleton] at h; subst h; exact ⟨.inl rfl, _, rfl⟩
     ·cases hr : (mayW x).2
      ·rw [hr] at h; cases h
      ·rw [hr, cond_true, List.mem_singleton] at h; subst h; exact ⟨.inr rfl, _, rfl⟩
   ·rw [h3] at h; cases h
  ·rw [h2] at h; cases h
 ·rw [h1, cond_true] at h
  cases h2 : F_op x == 80
  ·rw [h2, cond_false] at h
   simp only [List.mem_cons, List.not_mem_nil, or_false] at h
   rcases h with rfl | rfl
   ·exact ⟨.inl rfl, _, rfl⟩
   ·exact ⟨.inr rfl, _, rfl⟩
  ·rw [h2, cond_true] at h
   simp only [List.mem_cons, List.not_mem_nil, or_false] at h
   rcases h with rfl | rfl
   ·exact ⟨.inl rfl, _, rfl⟩
   ·exact ⟨.inr rfl, _, rfl⟩
theorem outs_good {c : SCase} {x : SLook} (h : At0 c (stC c) x) {o : SOut} (ho : o ∈ (stepT x).1) : GoodO c o := by
 have hp := h.prog
 have hn := hp.low
 have hcl := h.cls
 have hop := h.op
 have mk : ∀ {q : Int} {s' : SState}, (∃ k, k < (foC c).1 /\ (foC c).2 k = q) -> 0 < q -> q < ((F_program c).1.1 : Int) -> Kept c (stC c) s' -> GoodO c ⟨q, s'⟩ := fun h1 h2 h3 K => ⟨h1, h2, h3, K.ten, fun k _ hk => K.stack k hk⟩
 have c07 := h.ins.c0
 have c77 := h.ins.c7
 by_cases c0 : cls c.ins.op = 0
 ·rw [step_ld (by rw [hcl]; exact c0)] at ho
  have := mem_ok1 ho
  subst this
  obtain ⟨f1, f2⟩ := follow_wide hp h.ins c0
  obtain ⟨b, r, hr⟩ := wide_put x
  rw [hr, h.pc]
  have hw := (hp.wide (h.ins.ld c0)).2
  exact mk ⟨0, by show 0 < (F_Follow (F_program c).1.1 (F_program c).1.2 0).1; omega, f2⟩ (by decide) (by show (2 : Int) < _; omega) (kept_put h r)
 have one : (cls c.ins.op = 1 ∨ cls c.ins.op = 2 ∨ cls c.ins.op = 3 ∨ cls c.ins.op = 4 ∨ cls c.ins.op = 7 ∨ cls c.ins.op = 5 /\ opc c.ins.op = 128) -> ∀ {r : Bool × SState}, o ∈ (ok1 x.on r).1 -> Kept c (stC c) r.2 -> GoodO c o := fun hc {r} ho K => by
  have := mem_ok1 ho
  subst this
  obtain ⟨f1, f2⟩ := follow_one hp h.ins hc
  rw [h.on]
  exact mk ⟨0, by show 0 < (F_Follow (F_program c).1.1 (F_program c).1.2 0).1; omega, f2⟩ (by decide) (by omega) K
 by_cases c1 : cls c.ins.op = 1
 ·rw [step_ldx (by rw [hcl]; exact c1)] at ho
  exact one (.inl c1) ho (kept_put h _)
 by_cases c2 : cls c.ins.op = 2 ∨ cls c.ins.op = 3
 ·rw [step_st (by rw [hcl]; exact c2)] at ho
  refine one (by omega) ho ?_
  have S := store_is h.look
  generalize F_store x = r at S
  cases S with
  | not _ => exact kept_same h
  | other _ _ => exact kept_same h
  | stack _ _ y hy => exact ⟨fun _ => by rw [h.st], fun k hk => by
   show y k = true
   rw [hy]
   split
   ·rfl
   ·rw [h.st]; exact hk⟩
 by_cases c4 : cls c.ins.op = 4 ∨ cls c.ins.op = 7
 ·rw [step_alu (by rw [hcl]; exact c4)] at ho
  refine one (by omega) ho ?_
  rcases alu_put x with e | ⟨r, e⟩ <;> rw [e]
  ·exact kept_same h
  ·exact kept_put h r
 have c56 : cls c.ins.op = 5 ∨ cls c.ins.op = 6 := by omega
 by_cases o0 : opc c.ins.op = 0
 ·have c5 : cls c.ins.op = 5 := by
   rcases c56 with e | e
   ·exact e
   ·exact absurd o0 (h.ins.j32 e).1
  rw [step_ja (by rw [hcl]; exact c56) (by rw [hop]; exact o0)] at ho
  simp only [List.mem_singleton] at ho
  subst ho
  have hj := (h.ins.ja c5 o0).2
  have f0 := h.ins.off0 hj
  rw [h.to]
  exact mk (follow_jump hp h.ins hj).1 (by omega) (h.ins.off1 hj) (kept_same h)
 by_cases o1 : opc c.ins.op = 144
 ·rw [step_exit (by rw [hcl]; exact c56) (by rw [hop]; exact o1)] at ho
  cases ho
 by_cases o2 : opc c.ins.op = 128
 ·have c5 : cls c.ins.op = 5 := by
   rcases c56 with e | e
   ·exact e
   ·exact absurd o2 (h.ins.j32 e).2.1
  rw [step_call (by rw [hcl]; exact c5) (by rw [hop]; exact o2)] at ho
  refine one (by omega) ho ?_
  rcases call_put x with e | ⟨r, e⟩ <;> rw [e]
  ·exact kept_same h
  ·exact ⟨fun _ => by rw [← h.st]; rfl, fun k hk => by rw [← h.st] at hk; exact hk⟩
 rw [step_test (by rw [hcl]; exact c56) (by rw [hop]; exact o0) (by rw [hop]; exact o1) (by rw [hop]; exact o2)] at ho
 have hj := h.ins.jumps c56 o0 o2 o1
 have f0 := h.ins.off0 hj
 have n5 : c.ins.op ≠ 5 := fun e => by
  have e5 : opc 5 = 0 := by decide +kernel
  rw [e] at o0; exact o0 e5
 obtain ⟨hq, r, hr⟩ := mem_test ho
 obtain ⟨q, s'⟩ := o
 simp only at hq hr
 subst hr
 obtain ⟨k1, k2⟩ := follow_jump hp h.ins hj
 rcases hq with e | e
 ·rw [h.on] at e; subst e
  exact mk (k2 n5) (by decide) (by omega) (kept_put h r)
 ·rw [h.to] at e; subst e
  exact mk k1 (by omega) (h.ins.off1 hj) (kept_put h r)
theorem onward_true {c : SCase} (hc : CsOk c) : F_StepOnward c = true := by
 unfold F_StepOnward
 cases hp : !(F_program c).2
 ·have h0 := at_0 hc hp (s := stC c) (state_ok hc.raws _ _)
  rw [cond_false]
  have T : Told c (stC c) (stepT (look0 c (stC c))).1 (stepT (look0 c (stC c))).2 := told_of rfl
  have e2 : (outC F_Step F_env F_program c (F_state c.nr c.regs c.ns c.stack)).2 = (stepT (look0 c (stC c))).2 := T.err
  have e1 : (outC F_Step F_env F_program c (F_state c.nr c.regs c.ns c.stack)).1.1 = (stepT (look0 c (stC c))).1.length := T.len
  have hl : (outC F_Step F_env F_program c (F_state c.nr c.regs c.ns c.stack)).1.1 <= 2 := Step_le _ _ _ _ _
  rcases step_E2 (look0 c (stC c)) with k | ⟨k, k'⟩
  ·rw [e2, nef k, cond_false, decide_eq_false (by omega), cond_false]
   refine (loops_on c hl (fun i hi => ?_) 6001).2.2 0 (by decide) (by omega) (by decide) (by decide)
   have hi' : i < (stepT (look0 c (stC c))).1.length := by rw [← T.len]; exact hi
   have := T.outs i hi'
   exact outs_good h0 (List.mem_of_getElem? this)
  ·rw [e2, k, e1, k', shown_true]; rfl
 ·rw [cond_true]; exact shown_true
open Go.ChangeShapes Go.WideShapes
theorem pIns_wf {a b c d e : Int} (w0 : (Lit.int .u8 a).wf = true) (w1 : (Lit.int .u8 b).wf = true) (w2 : (Lit.int .u8 c).wf = true) (w3 : (Lit.int .i16 d).wf = true) (w4 : (Lit.int .i32 e).wf = true) : PIns ⟨a, b, c, d, e⟩ := by
 simp [Lit.wf, IntKind.min, IntKind.max, IntKind.signed, IntKind.bits] at w0 w1 w2 w3 w4
 unfold PIns
 simp only
 omega
theorem u64_wf {a : Int} (w : (Lit.int .u64 a).wf = true) : 0 <= a /\ a < 18446744073709551616 := by
 simp [Lit.wf, IntKind.min, IntKind.max, IntKind.signed, IntKind.bits] at w
 omega
theorem elemIns {H : Type} {enc : TypeId × Value -> H} {W : World} {sp : Nat -> Bool} {held : Bool} {base : Nat} (n : Nat) (cs : List Value) (x : DataW H × List MemPlace) (hn : cs.length = Try.prog.cellsOf 24) (hf : DataW.trod enc Try.prog W base sp held n 24 cs = some x) : ∃ a, cs = cl rho0 (v24 a) /\ PIns a := by
 obtain ⟨fuel, hf⟩ := trod_fields Try.underlying24 hn hf
 have e24 : Try.prog.cellsOf 24 = 5 := by kernel_rfl
 rw [e24] at hn
 have e5 : Try.prog.cellsOf 5 = 1 := by kernel_rfl
 have e21 : Try.prog.cellsOf 21 = 1 := by kernel_rfl
 have e22 : Try.prog.cellsOf 22 = 1 := by kernel_rfl
 simp only [List.mem_cons, forall_eq_or_imp, List.not_mem_nil, false_imp_iff, implies_true, and_true, e5, e21, e22] at hf
 obtain ⟨⟨x0, h0⟩, ⟨x1, h1⟩, ⟨x2, h2⟩, ⟨x3, h3⟩, ⟨x4, h4⟩⟩ := hf
 obtain ⟨c0, c1, c2, c3, c4, rfl⟩ : ∃ c0 c1 c2 c3 c4, cs = [c0, c1, c2, c3, c4] := by
  match cs, hn with
  | [c0, c1, c2, c3, c4], _ => exact ⟨c0, c1, c2, c3, c4, rfl⟩
 obtain ⟨n0, g0, _, w0⟩ := DataW.trod_int Try.underlying5 h0
 obtain ⟨n1, g1, _, w1⟩ := DataW.trod_int Try.underlying5 h1
 obtain ⟨n2, g2, _, w2⟩ := DataW.trod_int Try.underlying5 h2
 obtain ⟨n3, g3, _, w3⟩ := DataW.trod_int Try.underlying22 h3
 obtain ⟨n4, g4, _, w4⟩ := DataW.trod_int Try.underlying21 h4
 simp at g0 g1 g2 g3 g4
 subst g0 g1 g2 g3 g4
 exact ⟨⟨n0, n1, n2, n3, n4⟩, rfl, pIns_wf w0 w1 w2 w3 w4⟩
theorem elemRaw {H : Type} {enc : TypeId × Value -> H} {W : World} {sp : Nat -> Bool} {held : Bool} {base : Nat} (n : Nat) (cs : List Value) (x : DataW H × List MemPlace) (hn : cs.length = Try.prog.cellsOf 76) (hf : DataW.trod enc Try.prog W base sp held n 76 cs = some x) : ∃ a, cs = cl rho0 (v76 a) /\ RawOk a := by
 obtain ⟨fuel, hf⟩ := trod_fields Try.underlying76 hn hf
 have e76 : Try.prog.cellsOf 76 = 6 := by kernel_rfl
 rw [e76] at hn
 have e3 : Try.prog.cellsOf 3 = 1 := by kernel_rfl
 have e34 : Try.prog.cellsOf 34 = 1 := by kernel_rfl
 simp only [List.mem_cons, forall_eq_or_imp, List.not_mem_nil, false_imp_iff, implies_true, and_true, e3, e34] at hf
 obtain ⟨⟨x0, h0⟩, ⟨x1, h1⟩, ⟨x2, h2⟩, ⟨x3, h3⟩, ⟨x4, h4⟩, ⟨x5, h5⟩⟩ := hf
 obtain ⟨c0, c1, c2, c3, c4, c5, rfl⟩ : ∃ c0 c1 c2 c3 c4 c5, cs = [c0, c1, c2, c3, c4, c5] := by
  match cs, hn with
  | [c0, c1, c2, c3, c4, c5], _ => exact ⟨c0, c1, c2, c3, c4, c5, rfl⟩
 obtain ⟨n0, g0, _, w0⟩ := DataW.trod_int Try.underlying3 h0
 obtain ⟨n1, g1, _, w1⟩ := DataW.trod_int Try.underlying3 h1
 obtain ⟨n2, g2, _, w2⟩ := DataW.trod_int Try.underlying3 h2
 obtain ⟨n3, g3, _, w3⟩ := DataW.trod_int Try.underlying3 h3
 obtain ⟨n4, g4, _, w4⟩ := DataW.trod_int Try.underlying34 h4
 obtain ⟨n5, g5, _, w5⟩ := DataW.trod_int Try.underlying34 h5
 simp at g0 g1 g2 g3 g4 g5
 subst g0 g1 g2 g3 g4 g5
 exact ⟨⟨n0, n1, n2, n3, n4, n5⟩, rfl, ⟨u64_wf w4, u64_wf w5⟩⟩
theorem elemMap {H : Type} {enc : TypeId × Value -> H} {W : World} {sp : Nat -> Bool} {held : Bool} {base : Nat} (n : Nat) (cs : List Value) (x : DataW H × List MemPlace) (hn : cs.length = Try.prog.cellsOf 73) (hf : DataW.trod enc Try.prog W base sp held n 73 cs = some x) : ∃ a, cs = cl rho0 (v73 a) /\ (fun _ : SMap => True) a := by
 obtain ⟨fuel, hf⟩ := trod_fields Try.underlying73 hn hf
 have e73 : Try.prog.cellsOf 73 = 5 := by kernel_rfl
 rw [e73] at hn
 have e3 : Try.prog.cellsOf 3 = 1 := by kernel_rfl
 have e9 : Try.prog.cellsOf 9 = 1 := by kernel_rfl
 simp only [List.mem_cons, forall_eq_or_imp, List.not_mem_nil, false_imp_iff, implies_true, and_true, e3, e9] at hf
 obtain ⟨⟨x0, h0⟩, ⟨x1, h1⟩, ⟨x2, h2⟩, ⟨x3, h3⟩, ⟨x4, h4⟩⟩ := hf
 obtain ⟨c0, c1, c2, c3, c4, rfl⟩ : ∃ c0 c1 c2 c3 c4, cs = [c0, c1, c2, c3, c4] := by
  match cs, hn with
  | [c0, c1, c2, c3, c4], _ => exact ⟨c0, c1, c2, c3, c4, rfl⟩
 obtain ⟨n0, g0, _, _⟩ := DataW.trod_string Try.underlying9 h0
 obtain ⟨n1, g1, _, w1⟩ := DataW.trod_int Try.underlying3 h1
 obtain ⟨n2, g2, _, w2⟩ := DataW.trod_int Try.underlying3 h2
 obtain ⟨n3, g3, _, w3⟩ := DataW.trod_int Try.underlying3 h3
 obtain ⟨n4, g4, _, w4⟩ := DataW.trod_int Try.underlying3 h4
 simp at g0 g1 g2 g3 g4
 subst g0 g1 g2 g3 g4
 exact ⟨⟨n0, n1, n2, n3, n4⟩, rfl, trivial⟩
theorem elemB {H : Type} {enc : TypeId × Value -> H} {W : World} {sp : Nat -> Bool} {held : Bool} {base : Nat} (n : Nat) (cs : List Value) (x : DataW H × List MemPlace) (hn : cs.length = Try.prog.cellsOf 4) (hf : DataW.trod enc Try.prog W base sp held n 4 cs = some x) : ∃ a : Bool, cs = cl rho0 (V.bool a) /\ (fun _ : Bool => True) a := by
 obtain ⟨b, h, _⟩ := DataW.trod_bool Try.underlying4 hf
 exact ⟨b, h, trivial⟩
theorem cl_bif (c : Bool) (x x' : Option Addr) (y z y' z' : Nat) : (bif c then Value.slice x y z else Value.slice x' y' z').cells.toList = [bif c then Value.slice x y z else Value.slice x' y' z'] := by cases c <;> rfl
theorem openC {H : Type} {enc : TypeId × Value -> H} {W : World} {held : Bool} {b0 : Nat} {v : Value} {d : DataW H} {p : List MemPlace}
 (hval : Value.okWide Try.prog W .any b0 29 v) (hd : DataW.Trod enc Try.prog W 0 (fun _ => true) held 29 v d p) :
 ∃ (a b m : View) (c : SCase), ViewOk Try.prog W a /\ ViewOk Try.prog W b /\ ViewOk Try.prog W m /\ a.t = 76 /\ a.n = c.nr /\ a.f = (fun i => v76 (c.regs i)) /\ b.t = 4 /\ b.n = c.ns /\ b.f = (fun i => V.bool (c.stack i)) /\ m.t = 73 /\ m.n = c.nm /\ m.f = (fun i => v73 (c.maps i)) /\ CsOk c /\
  ∀ l : List View, v = conc (rOf (a :: b :: m :: l)) (.agg 29 [v24 c.ins, v24 c.second, slV 0 c.nr 76, slV 1 c.ns 4, .int .i64 c.ctx, .int .i64 c.emit, slV 2 c.nm 73]) := by
 obtain ⟨cs, rfl, hn, fuel, hf⟩ := open_struct Try.underlying29 hval hd
 have ec : Try.prog.cellsOf 29 = 15 := by kernel_rfl
 rw [ec] at hn
 have e3 : Try.prog.cellsOf 3 = 1 := by kernel_rfl
 have e24 : Try.prog.cellsOf 24 = 5 := by kernel_rfl
 have e25 : Try.prog.cellsOf 25 = 1 := by kernel_rfl
 have e26 : Try.prog.cellsOf 26 = 1 := by kernel_rfl
 have e27 : Try.prog.cellsOf 27 = 1 := by kernel_rfl
 simp only [List.mem_cons, forall_eq_or_imp, List.not_mem_nil, false_imp_iff, implies_true, and_true, e3, e24, e25, e26, e27] at hf
 obtain ⟨⟨x0, h0⟩, ⟨x1, h1⟩, ⟨x2, h2⟩, ⟨x3, h3⟩, ⟨x4, h4⟩, ⟨x5, h5⟩, ⟨x6, h6⟩⟩ := hf
 obtain ⟨c0, c1, c2, c3, c4, c5, c6, c7, c8, c9, c10, c11, c12, c13, c14, rfl⟩ : ∃ c0 c1 c2 c3 c4 c5 c6 c7 c8 c9 c10 c11 c12 c13 c14, cs = [c0, c1, c2, c3, c4, c5, c6, c7, c8, c9, c10, c11, c12, c13, c14] := by
  match cs, hn with
  | [c0, c1, c2, c3, c4, c5, c6, c7, c8, c9, c10, c11, c12, c13, c14], _ => exact ⟨c0, c1, c2, c3, c4, c5, c6, c7, c8, c9, c10, c11, c12, c13, c14, rfl⟩
 obtain ⟨i1, g1, k1⟩ := elemIns _ _ _ (by rw [e24]; rfl) h0
 obtain ⟨i2, g2, k2⟩ := elemIns _ _ _ (by rw [e24]; rfl) h1
 obtain ⟨a, ga, oka, ta, fa, qa, hva⟩ := open_sliceF (e := fun x => v76 x) (Q := RawOk) Try.underlying25 (by rw [show Try.prog.cellsOf 76 = 6 from by kernel_rfl]; omega) h2 (fun n cs x => elemRaw n cs x) (fun a => fitB_fit _ _ _ (by kernel_rfl)) (fun a => wf_agg (by kernel_rfl) (by simp [Wfs, Wf])) (fun a => plain76 a)
 obtain ⟨b, gb, okb, tb, fb, qb, hvb⟩ := open_sliceF (e := fun x => V.bool x) (Q := (fun _ : Bool => True)) Try.underlying26 (by rw [show Try.prog.cellsOf 4 = 1 from by kernel_rfl]; omega) h3 (fun n cs x => elemB n cs x) (fun a => fitB_fit _ _ _ (by kernel_rfl)) (fun a => trivial) (fun a => trivial)
 obtain ⟨m, gm, okm, tm, fm, qm, hvm⟩ := open_sliceF (e := fun x => v73 x) (Q := (fun _ : SMap => True)) Try.underlying27 (by rw [show Try.prog.cellsOf 73 = 5 from by kernel_rfl]; omega) h6 (fun n cs x => elemMap n cs x) (fun a => fitB_fit _ _ _ (by kernel_rfl)) (fun a => wf_agg (by kernel_rfl) (by simp [Wfs, Wf])) (fun a => plain73 a)
 obtain ⟨n4, g4, _, w4⟩ := DataW.trod_int Try.underlying3 h4
 obtain ⟨n5, g5, _, w5⟩ := DataW.trod_int Try.underlying3 h5
 have g1 : [c0, c1, c2, c3, c4] = cl rho0 (v24 i1) := g1
 have g2 : [c5, c6, c7, c8, c9] = cl rho0 (v24 i2) := g2
 have za : [c10] = _ := hva
 have zb : [c11] = _ := hvb
 have z4 : [c12] = _ := g4
 have z5 : [c13] = _ := g5
 have zm : [c14] = _ := hvm
 simp only [List.cons.injEq, and_true] at za zb zm z4 z5
 refine ⟨a, b, m, ⟨i1, i2, a.n, ga, b.n, gb, n4, n5, m.n, gm⟩, oka, okb, okm, ta, rfl, fa, tb, rfl, fb, tm, rfl, fm, ⟨k1, k2, fun i hi => qa i hi⟩, fun l => ?_⟩
 have q1 := plain_conc (ρ := rho0) (ρ' := rOf (a :: b :: m :: l)) (v24 i1) (plain24 _)
 have q2 := plain_conc (ρ := rho0) (ρ' := rOf (a :: b :: m :: l)) (v24 i2) (plain24 _)
 have e1 : cl (rOf (a :: b :: m :: l)) (v24 i1) = [c0, c1, c2, c3, c4] := by rw [g1]; unfold cl; rw [q1]
 have e2 : cl (rOf (a :: b :: m :: l)) (v24 i2) = [c5, c6, c7, c8, c9] := by rw [g2]; unfold cl; rw [q2]
 subst za zb zm z4 z5
 show _ = Value.agg (concs (rOf (a :: b :: m :: l)) _).toArray
 simp only [concs_cons]
 have f1 : cl (rOf (a :: b :: m :: l)) (slV 0 a.n 76) = [_] := cl_bif a.ν _ _ _ _ _ _
 have f2 : cl (rOf (a :: b :: m :: l)) (slV 1 b.n 4) = [_] := cl_bif b.ν _ _ _ _ _ _
 have f3 : cl (rOf (a :: b :: m :: l)) (slV 2 m.n 73) = [_] := cl_bif m.ν _ _ _ _ _ _
 rw [e1, e2, f1, f2, f3]
 rfl
end Dd
