/- Texts of this seat, joined: J7, J75, J85, J9, P1, P2, P3, P4, P55, P6, JR0. -/
import Derived.Test.YtopnnipdijcpoaaT5
namespace Dd
set_option linter.unusedVariables false
set_option linter.unusedSimpArgs false
set_option maxRecDepth 100000
open Go
def RawOk (x : SRaw) : Prop := (0 <= x.a /\ x.a < 18446744073709551616) /\ (0 <= x.b /\ x.b < 18446744073709551616)
structure CsOk (c : SCase) : Prop where
 ins : PIns c.ins
 second : PIns c.second
 raws : ∀ i, i < c.nr -> RawOk (c.regs i)
theorem zR_ok : RegOk zR := by unfold zR; decide
theorem tm20 (a : Int) : -1048576 <= Int.tmod a 1048576 /\ Int.tmod a 1048576 <= 1048576 := by
 by_cases h : 0 <= a
 ·have h1 := Int.tmod_nonneg 1048576 h
  have h2 := Int.tmod_lt_of_pos a (show (0 : Int) < 1048576 by decide)
  omega
 ·have e : Int.tmod a 1048576 = -(Int.tmod (-a) 1048576) := by rw [Int.neg_tmod, Int.neg_neg]
  have h1 := Int.tmod_nonneg 1048576 (show 0 <= -a by omega)
  have h2 := Int.tmod_lt_of_pos (-a) (show (0 : Int) < 1048576 by decide)
  omega
theorem mm_num {a b : Int} (h1 : 0 <= a /\ a < 18446744073709551616) (h2 : 0 <= b /\ b < 18446744073709551616) : 0 <= mnI a b /\ mnI a b <= mxI a b /\ mxI a b < 18446744073709551616 := by
 unfold mnI mxI
 split <;> split <;> omega
theorem mm_ptr (a b : Int) : -1048576 <= mnI (Int.tmod a 1048576) (Int.tmod b 1048576) /\ mnI (Int.tmod a 1048576) (Int.tmod b 1048576) <= mxI (Int.tmod a 1048576) (Int.tmod b 1048576) /\ mxI (Int.tmod a 1048576) (Int.tmod b 1048576) <= 1048576 := by
 have h1 := tm20 a
 have h2 := tm20 b
 unfold mnI mxI
 split <;> split <;> omega
theorem made_ok {x : SRaw} (h : RawOk x) : RegOk (F_made x) := by
 have n1 := mm_num h.1 h.2
 have n2 := mm_ptr x.lo x.hi
 have z1 : (0 : Int) <= 0 /\ (0 : Int) <= 0 /\ (0 : Int) < 18446744073709551616 := by decide
 have z2 : (-1048576 : Int) <= 0 /\ (0 : Int) <= 0 /\ (0 : Int) <= 1048576 := by decide
 unfold F_made
 cases (Int.tmod (andI .i64 x.kind 255) 7 : Int) == 1 <;> cases F_rPointer (Int.tmod (andI .i64 x.kind 255) 7) <;> cases decide ((Int.tmod (andI .i64 x.kind 255) 7 : Int) >= 4) <;>
  simp only [cond_true, cond_false] <;> first | exact ⟨n1, n2⟩ | exact ⟨n1, z2⟩ | exact ⟨z1, n2⟩ | exact ⟨z1, z2⟩
def RegsOk (f : Nat -> SReg) : Prop := ∀ k, k < 11 -> RegOk (f k)
theorem regs_upd {f : Nat -> SReg} (h : RegsOk f) {k : Nat} {x : SReg} (hx : RegOk x) : RegsOk (updF f k x) := fun j hj => by
 rw [updF_at]
 split
 ·exact hx
 ·exact h j hj
theorem L_state_1_regs (n0 : Nat) (g0 : Nat -> SRaw) (n1 : Nat) (g1 : Nat -> Bool) (x : Nat -> SReg) : ∀ (fuel : Nat) (s : Int) (y : Nat -> Bool), 0 <= s -> s <= 512 -> 512 < s + fuel -> (L_state_1 fuel n0 g0 n1 g1 x s y).regs = x := by
 intro fuel
 induction fuel with
 | zero => intro s y h0 h1 h; omega
 | succ fuel ih =>
  intro s y h0 h1 h
  rw [L_state_1]
  by_cases c1 : s < ((n1 : Nat) : Int)
  ·rw [decide_eq_true c1, cond_true]
   by_cases c2 : s < 512
   ·rw [decide_eq_true c2, cond_true, i64_id (by omega) (by omega)]
    exact ih _ _ (by omega) (by omega) (by omega)
   ·rw [decide_eq_false c2, cond_false]
  ·rw [decide_eq_false c1, cond_false]
theorem L_state_0_regs {n0 : Nat} {g0 : Nat -> SRaw} (hg : ∀ i, i < n0 -> RawOk (g0 i)) (n1 : Nat) (g1 : Nat -> Bool) : ∀ (fuel : Nat) (s : Int) (x : Nat -> SReg), 0 <= s -> s <= 11 -> 11 < s + fuel -> RegsOk x -> RegsOk (L_state_0 fuel n0 g0 n1 g1 s x).regs := by
 intro fuel
 induction fuel with
 | zero => intro s y h0 h1 h; omega
 | succ fuel ih =>
  intro s x h0 h1 h hx
  rw [L_state_0]
  by_cases c1 : s < ((n0 : Nat) : Int)
  ·rw [decide_eq_true c1, cond_true]
   by_cases c2 : s < 11
   ·rw [decide_eq_true c2, cond_true, i64_id (by omega) (by omega)]
    exact ih _ _ (by omega) (by omega) (by omega) (regs_upd hx (made_ok (hg _ (by omega))))
   ·rw [decide_eq_false c2, cond_false, L_state_1_regs _ _ _ _ _ 513 0 _ (by decide) (by decide) (by decide)]; exact hx
  ·rw [decide_eq_false c1, cond_false, L_state_1_regs _ _ _ _ _ 513 0 _ (by decide) (by decide) (by decide)]; exact hx
theorem state_ok {n0 : Nat} {g0 : Nat -> SRaw} (hg : ∀ i, i < n0 -> RawOk (g0 i)) (n1 : Nat) (g1 : Nat -> Bool) : RegsOk (F_state n0 g0 n1 g1).regs :=
 L_state_0_regs hg n1 g1 12 0 _ (by decide) (by decide) (by decide) (fun _ _ => zR_ok)
theorem look_of {c : SCase} (hc : CsOk c) (h : (!(F_program c).2) = false) {s : SState} (hs : RegsOk s.regs) : pre_Step (F_env c) s (F_program c).1.1 (F_program c).1.2 0 :=
 (prog_ok hc.ins hc.second (by simpa using h)).look hs
open Go.RowKit Go.Proofs
def csM (G : Pre × SCase -> Option (Pre × V × Heap)) : List V -> Option (List Nat × (List (Option (TypeId × Blk)) -> Option (Pre × V × Heap)))
 | [.agg t [i, j, r, s, c, e, m]] => some ([blkOf r, blkOf s, blkOf m], fun Bs => match Bs with
  | [Br, Bs, Bm] => bif Nat.beq t 29 then
   (d24 i).bind fun i' => (d24 j).bind fun j' => (slB d76 76 Br r).bind fun r' => (slB dB 4 Bs s).bind fun s' => (dI .i64 c).bind fun c' => (dI .i64 e).bind fun e' => (slB d73 73 Bm m).bind fun m' =>
    G (some (Pre.ok r'.1 /\ Pre.ok s'.1 /\ Pre.ok m'.1), ⟨i', j', r'.2.1, r'.2.2, s'.2.1, s'.2.2, c', e', m'.2.1, m'.2.2⟩) else none
  | _ => none)
 | _ => none
theorem csM_is {G : Pre × SCase -> Option (Pre × V × Heap)} {vs : List V} {H : Heap} {rs : List Nat} {K : List (Option (TypeId × Blk)) -> Option (Pre × V × Heap)} {r : Pre × V × Heap} (h : csM G vs = some (rs, K)) (hK : K (rs.map (nth H)) = some r) :
 ∃ x, vs = [x] /\ (csD H x).bind G = some r := by
 unfold csM at h
 split at h
 ·rename_i t i j a s c e m
  simp only [Option.some.injEq, Prod.mk.injEq] at h
  obtain ⟨rfl, rfl⟩ := h
  refine ⟨_, rfl, ?_⟩
  simp only [List.map_cons, List.map_nil] at hK
  cases hc : Nat.beq t 29 <;> simp only [hc, cond_true, cond_false] at hK
  ·cases hK
  ·obtain ⟨i1, hi1, hK⟩ := bseq hK
   obtain ⟨j1, hj1, hK⟩ := bseq hK
   obtain ⟨a1, ha1, hK⟩ := bseq hK
   obtain ⟨s1, hs1, hK⟩ := bseq hK
   obtain ⟨c1, hc1, hK⟩ := bseq hK
   obtain ⟨e1, he1, hK⟩ := bseq hK
   obtain ⟨m1, hm1, hK⟩ := bseq hK
   unfold csD
   simp only [hc, cond_true, hi1, hj1, slB_sl ha1, slB_sl hs1, hc1, he1, slB_sl hm1, Option.bind_some]
   exact hK
 ·cases h
theorem spec_csM {f : FuncId} {c : List V -> Heap -> Option (Pre × V × Heap)} {G : Pre × SCase -> Option (Pre × V × Heap)} (hc : ∀ x H, c [x] H = (csD H x).bind G) (h : Spec Try.prog f (Con.heap (freshD c)).d) : Spec Try.prog f (Con.mkr (csM G)).d := by
 refine ⟨h.1, fun vs H p v H' hd => h.2 vs H p v H' ?_⟩
 simp only [Con.d, freshD] at hd ⊢
 split at hd
 ·rename_i rs K hF
  simp only [Option.map_eq_some_iff] at hd
  obtain ⟨⟨p1, v1, bl⟩, hr, he⟩ := hd
  obtain ⟨x, rfl, hx⟩ := csM_is hF hr
  rw [hc, hx]; exact congrArg some he
 ·cases hd
def gm_env (F_env : SCase -> SEnv) (s0 : Pre × SCase) : Option (Pre × V × Heap) :=
 some (some (Pre.ok s0.1), (V.agg 49 [(V.int .i64 (F_env s0.2).ctx), (V.int .i64 (F_env s0.2).emit), (slV 0 (F_env s0.2).nm 73)]), [(73, .row true (F_env s0.2).nm (fun i => (v73 ((F_env s0.2).maps i))))])
def cc_envM (F_env : SCase -> SEnv) := csM (gm_env F_env)
theorem envM_spec : Spec Try.prog 12 (Con.mkr (cc_envM F_env)).d := spec_csM (c := c_env) (fun _ _ => rfl) env_spec
@[reducible] def insC (c : SCase) (i : SInsn) : SCase := ⟨i, c.second, c.nr, c.regs, c.ns, c.stack, c.ctx, c.emit, c.nm, c.maps⟩
@[reducible] def outC (F_Step : SEnv -> SState -> Nat -> (Nat -> SInsn) -> Int -> (Nat × (Nat -> SOut)) × Int) (F_env : SCase -> SEnv) (F_program : SCase -> (Nat × (Nat -> SInsn)) × Bool) (c : SCase) (s : SState) : (Nat × (Nat -> SOut)) × Int :=
 F_Step (F_env c) s (F_program c).1.1 (F_program c).1.2 0
@[reducible] def zV : V := V.agg 38 [(V.int .i64 0), (V.agg 36 [(V.int .u64 0), (V.int .u64 0)]), (V.int .i64 0), (V.int .i64 0), (V.int .i64 0)]
theorem CsOk.with {c : SCase} (h : CsOk c) {i : SInsn} (hi : PIns i) : CsOk (insC c i) := ⟨hi, h.second, h.raws⟩
@[reducible] def callI (c : SCase) : SInsn := ⟨133, 0, 0, 0, c.ins.imm⟩
theorem callI_ok {c : SCase} (h : CsOk c) : PIns (callI c) := by
 have := h.ins.2.2.2.2
 unfold PIns callI
 simp only
 omega
theorem look_st {c : SCase} (hc : CsOk c) {n0 : Nat} {g0 : Nat -> SRaw} (hg : ∀ i, i < n0 -> RawOk (g0 i)) {n1 : Nat} {g1 : Nat -> Bool} (h : (!(F_program c).2) = false) : pre_Step (F_env c) (F_state n0 g0 n1 g1) (F_program c).1.1 (F_program c).1.2 0 :=
 look_of hc h (state_ok hg n1 g1)
theorem at0 {n : Nat} (h : (((n : Nat) : Int) != 1) = false) : 0 <= (0 : Int) /\ (0 : Int) < (n : Nat) := by
 have h : (n : Int) = 1 := by simpa using h
 omega
def F_StepCalls (c0 : SCase) : Bool :=
 (bif (!(F_program (insC c0 (callI c0))).2) then F_shown else (bif (((outC F_Step F_env F_program (insC c0 (callI c0)) (F_state c0.nr c0.regs c0.ns c0.stack)).2 : Int) != 0) then (bif F_shown then (((((outC F_Step F_env F_program (insC c0 (callI c0)) (F_state c0.nr c0.regs c0.ns c0.stack)).1.1 : Nat) : Int) : Int) == 0) else false) else (bif (((((outC F_Step F_env F_program (insC c0 (callI c0)) (F_state c0.nr c0.regs c0.ns c0.stack)).1.1 : Nat) : Int) : Int) != 1) then false else (bif ((((outC F_Step F_env F_program (insC c0 (callI c0)) (F_state c0.nr c0.regs c0.ns c0.stack)).1.2 0).pC : Int) != 1) then false else (bif (!(veqB (v40 ((outC F_Step F_env F_program (insC c0 (callI c0)) (F_state c0.nr c0.regs c0.ns c0.stack)).1.2 0).state.stack) (v40 (F_state c0.nr c0.regs c0.ns c0.stack).stack))) then false else (bif (!(veqB (v38 (((outC F_Step F_env F_program (insC c0 (callI c0)) (F_state c0.nr c0.regs c0.ns c0.stack)).1.2 0).state.regs 1)) zV)) then false else (bif (!(veqB (v38 (((outC F_Step F_env F_program (insC c0 (callI c0)) (F_state c0.nr c0.regs c0.ns c0.stack)).1.2 0).state.regs 2)) zV)) then false else (bif (!(veqB (v38 (((outC F_Step F_env F_program (insC c0 (callI c0)) (F_state c0.nr c0.regs c0.ns c0.stack)).1.2 0).state.regs 3)) zV)) then false else (bif (!(veqB (v38 (((outC F_Step F_env F_program (insC c0 (callI c0)) (F_state c0.nr c0.regs c0.ns c0.stack)).1.2 0).state.regs 4)) zV)) then false else (bif (!(veqB (v38 (((outC F_Step F_env F_program (insC c0 (callI c0)) (F_state c0.nr c0.regs c0.ns c0.stack)).1.2 0).state.regs 5)) zV)) then false else (bif (!(veqB (v38 (((outC F_Step F_env F_program (insC c0 (callI c0)) (F_state c0.nr c0.regs c0.ns c0.stack)).1.2 0).state.regs 6)) (v38 ((F_state c0.nr c0.regs c0.ns c0.stack).regs 6)))) then false else (bif (!(veqB (v38 (((outC F_Step F_env F_program (insC c0 (callI c0)) (F_state c0.nr c0.regs c0.ns c0.stack)).1.2 0).state.regs 7)) (v38 ((F_state c0.nr c0.regs c0.ns c0.stack).regs 7)))) then false else (bif (!(veqB (v38 (((outC F_Step F_env F_program (insC c0 (callI c0)) (F_state c0.nr c0.regs c0.ns c0.stack)).1.2 0).state.regs 8)) (v38 ((F_state c0.nr c0.regs c0.ns c0.stack).regs 8)))) then false else (bif (!(veqB (v38 (((outC F_Step F_env F_program (insC c0 (callI c0)) (F_state c0.nr c0.regs c0.ns c0.stack)).1.2 0).state.regs 9)) (v38 ((F_state c0.nr c0.regs c0.ns c0.stack).regs 9)))) then false else (bif (!(veqB (v38 (((outC F_Step F_env F_program (insC c0 (callI c0)) (F_state c0.nr c0.regs c0.ns c0.stack)).1.2 0).state.regs 10)) (v38 ((F_state c0.nr c0.regs c0.ns c0.stack).regs 10)))) then false else (bif F_shown then (bif ((((((outC F_Step F_env F_program (insC c0 (callI c0)) (F_state c0.nr c0.regs c0.ns c0.stack)).1.2 0).state.regs 0).kind : Int) == 6) == ((c0.ins.imm : Int) == 1)) then ((((((outC F_Step F_env F_program (insC c0 (callI c0)) (F_state c0.nr c0.regs c0.ns c0.stack)).1.2 0).state.regs 0).kind : Int) == 1) == ((c0.ins.imm : Int) != 1)) else false) else false))))))))))))))))
def pre_StepCalls (c0 : SCase) : Prop := CsOk c0
def D_StepCalls (F_shown : Bool) (F_program : T_program) (F_state : T_state) (F_env : SCase -> SEnv) (F_Step : T_Step) : List (Nat × Con) := [(8, .pure (cc_shown F_shown)), (9, .heap (freshD (cc_program F_program))), (13, .read (cc_state F_state)), (12, .mkr (cc_envM F_env)), (11, .heap (freshD (cc_Step F_Step)))]
theorem D_StepCalls_known : Known Try.prog (D_StepCalls F_shown F_program F_state F_env F_Step) := (known_cons shown_spec (known_cons program_spec (known_cons state_spec (known_cons envM_spec (known_cons Step_spec known_nil)))))
def ir_StepCalls : IR := (.seq (.region 1 [po 1 (.box 0 29 .agg (.t 0)), po 2 (.mov (.k (.bool false)))] none) (.seq (.region 0 [po 11 (.call 8 []), po 3 (.mov (.t 11))] none) (.seq (.region 0 [po 12 (.fieldAddr 29 (.t 1) 0 0 24), po 13 (.fieldAddr 24 (.t 12) 0 0 5), ps (.store 5 (.int .u8) (.t 13) (.k (.int .u8 (133))))] none) (.seq (.region 0 [po 14 (.fieldAddr 29 (.t 1) 0 0 24), po 15 (.fieldAddr 24 (.t 14) 1 1 5), ps (.store 5 (.int .u8) (.t 15) (.k (.int .u8 (0))))] none) (.seq (.region 0 [po 16 (.fieldAddr 29 (.t 1) 0 0 24), po 17 (.fieldAddr 24 (.t 16) 2 2 5), ps (.store 5 (.int .u8) (.t 17) (.k (.int .u8 (0))))] none) (.seq (.region 0 [po 18 (.fieldAddr 29 (.t 1) 0 0 24), po 19 (.fieldAddr 24 (.t 18) 3 3 22), ps (.store 22 (.int .i16) (.t 19) (.k (.int .i16 (0))))] none) (.seq (.region 0 [po 21 (.load 29 (.t 1)), po 22 (.call 9 [.t 21]), po 20 (.mov (.t 22)), po 23 (.extract (.t 20) 0), po 24 (.extract (.t 20) 1), po 4 (.mov (.t 23)), po 5 (.mov (.t 24))] none) (.seq (.seq (.region 0 [po 25 (.mov (.t 5)), po 26 (.un .not (.t 25))] none) (.cond (.t 26) (.seq (.region 0 [po 27 (.mov (.t 3)), po 2 (.mov (.t 27))] none) .ret) .skip)) (.seq (.region 1 [po 28 (.fieldAddr 29 (.t 1) 2 10 25), po 29 (.load 25 (.t 28)), po 30 (.fieldAddr 29 (.t 1) 3 11 26), po 31 (.load 26 (.t 30)), po 32 (.call 13 [.t 29, .t 31]), po 6 (.alloc 0 42 (.agg 42 [.arr 39 11 (fun _ => .agg 38 [.int .i64 (0), .agg 36 [.int .u64 (0), .int .u64 (0)], .int .i64 (0), .int .i64 (0), .int .i64 (0)]), .arr 40 512 (fun _ => .bool false)])), ps (.store 42 .agg (.t 6) (.t 32))] none) (.seq (.region 0 [po 34 (.load 29 (.t 1)), po 35 (.call 12 [.t 34]), po 36 (.load 42 (.t 6)), po 37 (.mov (.t 4)), po 38 (.call 11 [.t 35, .t 36, .t 37, .k (.int .i64 (0))]), po 33 (.mov (.t 38)), po 39 (.extract (.t 33) 0), po 40 (.extract (.t 33) 1), po 7 (.mov (.t 39)), po 8 (.mov (.t 40))] (some [[], [], [0, 1], [0, 1, 2], [], [], [], [6], [7], []])) (.seq (.seq (.region 0 [po 41 (.mov (.t 8)), po 42 (.bin .neq (.t 41) (.k (.int .i64 (0))))] none) (.cond (.t 42) (.seq (.region 0 [po 43 (.mov (.t 3)), po 44 (.mov (.t 43)), pg 45 (.mov (.t 7)) 44 true, pg 46 (.len false (.t 45)) 44 true, pg 47 (.bin .eql (.t 46) (.k (.int .i64 (0)))) 44 true, po 48 (.pick (.t 44) (.t 47) (.k (.bool false))), po 2 (.mov (.t 48))] none) .ret) .skip)) (.seq (.seq (.region 0 [po 49 (.mov (.t 7)), po 50 (.len false (.t 49)), po 51 (.bin .neq (.t 50) (.k (.int .i64 (1)))), po 52 (.mov (.t 51)), pg 53 (.mov (.t 7)) 52 false, pg 54 (.slAddr 54 579 (.t 53) (.k (.int .i64 (0)))) 52 false, pg 55 (.fieldAddr 54 (.t 54) 0 0 3) 52 false, pg 56 (.load 3 (.t 55)) 52 false, pg 57 (.bin .neq (.t 56) (.k (.int .i64 (1)))) 52 false, po 58 (.pick (.t 52) (.k (.bool true)) (.t 57)), po 59 (.mov (.t 58)), pg 60 (.mov (.t 7)) 59 false, pg 61 (.slAddr 54 579 (.t 60) (.k (.int .i64 (0)))) 59 false, pg 62 (.fieldAddr 54 (.t 61) 1 1 42) 59 false, pg 63 (.fieldAddr 42 (.t 62) 1 66 40) 59 false, pg 64 (.load 40 (.t 63)) 59 false, pg 65 (.fieldAddr 42 (.t 6) 1 66 40) 59 false, pg 66 (.load 40 (.t 65)) 59 false, pg 67 (.eqv 40 .agg true (.t 64) (.t 66)) 59 false, po 68 (.pick (.t 59) (.k (.bool true)) (.t 67))] (some [[], [], [], [], [], [], [], [], [], [], [], [], [], [], [], [], [11, 12, 13, 14, 15], [11, 12, 13, 14, 15], [], []])) (.cond (.t 68) (.seq (.region 0 [po 2 (.mov (.k (.bool false)))] none) .ret) .skip)) (.seq (.region 1 [po 69 (.mov (.t 7)), po 70 (.slAddr 54 579 (.t 69) (.k (.int .i64 (0)))), po 71 (.fieldAddr 54 (.t 70) 1 1 42), po 72 (.fieldAddr 42 (.t 71) 0 0 39), po 73 (.load 39 (.t 72)), po 9 (.alloc 0 39 (.arr 39 11 (fun _ => .agg 38 [.int .i64 (0), .agg 36 [.int .u64 (0), .int .u64 (0)], .int .i64 (0), .int .i64 (0), .int .i64 (0)]))), ps (.store 39 .agg (.t 9) (.t 73))] none) (.seq (.seq (.region 0 [po 10 (.mov (.k (.int .i64 (1))))] none) (.block 0 (.loop (.seq (.seq (.region 0 [po 74 (.mov (.t 10)), po 75 (.bin .leq (.t 74) (.k (.int .i64 (10))))] none) (.cond (.t 75) .skip (.exit 0))) (.seq (.block 1 (.seq (.region 0 [po 78 (.mov (.t 10)), po 79 (.bin .leq (.t 78) (.k (.int .i64 (5)))), po 80 (.mov (.t 79)), pg 81 (.mov (.t 10)) 80 true, pg 82 (.arrAddr 39 11 6 38 (.t 9) (.t 81)) 80 true, pg 83 (.load 38 (.t 82)) 80 true, pg 84 (.build 38 false [(3, (.int .i64)), (36, .agg), (3, (.int .i64)), (3, (.int .i64)), (3, (.int .i64))] (.agg 38 [.int .i64 (0), .agg 36 [.int .u64 (0), .int .u64 (0)], .int .i64 (0), .int .i64 (0), .int .i64 (0)]) []) 80 true, pg 85 (.eqv 38 .agg true (.t 83) (.t 84)) 80 true, po 86 (.pick (.t 80) (.t 85) (.k (.bool false))), po 87 (.mov (.t 86)), pg 88 (.mov (.t 10)) 87 false, pg 89 (.bin .gtr (.t 88) (.k (.int .i64 (5)))) 87 false, pg 90 (.mov (.t 89)) 87 false, pg 91 (.mov (.t 10)) 90 true, pg 92 (.arrAddr 39 11 6 38 (.t 9) (.t 91)) 90 true, pg 93 (.load 38 (.t 92)) 90 true, pg 94 (.mov (.t 10)) 90 true, pg 95 (.fieldAddr 42 (.t 6) 0 0 39) 90 true, pg 96 (.arrAddr 39 11 6 38 (.t 95) (.t 94)) 90 true, pg 97 (.load 38 (.t 96)) 90 true, pg 98 (.eqv 38 .agg true (.t 93) (.t 97)) 90 true, pg 99 (.pick (.t 90) (.t 98) (.k (.bool false))) 87 false, po 100 (.pick (.t 87) (.k (.bool true)) (.t 99))] (some [[], [], [], [], [], [], [3, 4, 5], [], [], [], [], [], [], [], [], [], [13, 14, 15], [13, 14, 15, 16], [13, 14, 15], [13, 14, 15], [], [], []])) (.cond (.t 100) (.seq (.region 0 [po 2 (.mov (.k (.bool false)))] none) .ret) .skip))) (.region 0 [po 76 (.mov (.t 10)), po 77 (.bin .add (.t 76) (.k (.int .i64 (1)))), po 10 (.mov (.t 77))] none)))))) (.seq (.region 0 [po 101 (.mov (.t 3)), po 102 (.mov (.t 101)), pg 103 (.arrAddr 39 11 6 38 (.t 9) (.k (.int .i64 (0)))) 102 true, pg 104 (.fieldAddr 38 (.t 103) 0 0 3) 102 true, pg 105 (.load 3 (.t 104)) 102 true, pg 106 (.bin .eql (.t 105) (.k (.int .i64 (6)))) 102 true, pg 107 (.fieldAddr 29 (.t 1) 0 0 24) 102 true, pg 108 (.fieldAddr 24 (.t 107) 4 4 21) 102 true, pg 109 (.load 21 (.t 108)) 102 true, pg 110 (.bin .eql (.t 109) (.k (.int .i32 (1)))) 102 true, pg 111 (.eqv 4 .bool false (.t 106) (.t 110)) 102 true, po 112 (.pick (.t 102) (.t 111) (.k (.bool false))), po 113 (.mov (.t 112)), pg 114 (.arrAddr 39 11 6 38 (.t 9) (.k (.int .i64 (0)))) 113 true, pg 115 (.fieldAddr 38 (.t 114) 0 0 3) 113 true, pg 116 (.load 3 (.t 115)) 113 true, pg 117 (.bin .eql (.t 116) (.k (.int .i64 (1)))) 113 true, pg 118 (.fieldAddr 29 (.t 1) 0 0 24) 113 true, pg 119 (.fieldAddr 24 (.t 118) 4 4 21) 113 true, pg 120 (.load 21 (.t 119)) 113 true, pg 121 (.bin .neq (.t 120) (.k (.int .i32 (1)))) 113 true, pg 122 (.eqv 4 .bool false (.t 117) (.t 121)) 113 true, po 123 (.pick (.t 113) (.t 122) (.k (.bool false))), po 2 (.mov (.t 123))] none) .ret)))))))))))))))
def rs_StepCalls : List ResultVar := [.tmp 2]
def phi_StepCalls (F_shown : Bool) (F_program : T_program) (F_state : T_state) (F_env : SCase -> SEnv) (F_Step : T_Step) (r : (Bool)) (c0 : SCase) : Prop :=
 (((∀ i, i < c0.nr -> (d76 (v76 (c0.regs i))).isSome = true) /\ (∀ i, i < c0.ns -> (dB (V.bool (c0.stack i))).isSome = true) /\ (∀ i, i < c0.nm -> (d73 (v73 (c0.maps i))).isSome = true)) /\ (pre_program (insC c0 (callI c0)))) /\
 ((!(F_program (insC c0 (callI c0))).2) = true -> Leaf ((V.bool F_shown) = (V.bool r))) /\
 ((!(F_program (insC c0 (callI c0))).2) = false -> ((∀ i, i < c0.nr -> (d76 (v76 (c0.regs i))).isSome = true) /\ (∀ i, i < c0.ns -> (dB (V.bool (c0.stack i))).isSome = true)) /\ (((∀ i, i < c0.nr -> (d76 (v76 (c0.regs i))).isSome = true) /\ (∀ i, i < c0.ns -> (dB (V.bool (c0.stack i))).isSome = true) /\ (∀ i, i < c0.nm -> (d73 (v73 (c0.maps i))).isSome = true))) /\ ((∀ i, i < (F_env (insC c0 (callI c0))).nm -> (d73 (v73 ((F_env (insC c0 (callI c0))).maps i))).isSome = true) /\ (∀ i, i < (F_program (insC c0 (callI c0))).1.1 -> (d24 (v24 ((F_program (insC c0 (callI c0))).1.2 i))).isSome = true) /\ (pre_Step (F_env (insC c0 (callI c0))) (F_state c0.nr c0.regs c0.ns c0.stack) (F_program (insC c0 (callI c0))).1.1 (F_program (insC c0 (callI c0))).1.2 0)) /\ true = true /\ ((((outC F_Step F_env F_program (insC c0 (callI c0)) (F_state c0.nr c0.regs c0.ns c0.stack)).2 : Int) != 0) = true -> (F_shown = true -> Leaf ((V.bool (((((outC F_Step F_env F_program (insC c0 (callI c0)) (F_state c0.nr c0.regs c0.ns c0.stack)).1.1 : Nat) : Int) : Int) == 0)) = (V.bool r))) /\ (F_shown = false -> Leaf ((V.bool false) = (V.bool r)))) /\ ((((outC F_Step F_env F_program (insC c0 (callI c0)) (F_state c0.nr c0.regs c0.ns c0.stack)).2 : Int) != 0) = false -> ((((((outC F_Step F_env F_program (insC c0 (callI c0)) (F_state c0.nr c0.regs c0.ns c0.stack)).1.1 : Nat) : Int) : Int) != 1) = false -> (0 <= (0 : Int) /\ (0 : Int) < ((outC F_Step F_env F_program (insC c0 (callI c0)) (F_state c0.nr c0.regs c0.ns c0.stack)).1.1 : Nat)) /\ (((((outC F_Step F_env F_program (insC c0 (callI c0)) (F_state c0.nr c0.regs c0.ns c0.stack)).1.2 0).pC : Int) != 1) = false -> (0 <= (0 : Int) /\ (0 : Int) < ((outC F_Step F_env F_program (insC c0 (callI c0)) (F_state c0.nr c0.regs c0.ns c0.stack)).1.1 : Nat)) /\ veqOk (v40 ((outC F_Step F_env F_program (insC c0 (callI c0)) (F_state c0.nr c0.regs c0.ns c0.stack)).1.2 0).state.stack) (v40 (F_state c0.nr c0.regs c0.ns c0.stack).stack) /\ true = true /\ ((!(veqB (v40 ((outC F_Step F_env F_program (insC c0 (callI c0)) (F_state c0.nr c0.regs c0.ns c0.stack)).1.2 0).state.stack) (v40 (F_state c0.nr c0.regs c0.ns c0.stack).stack))) = true -> Leaf ((V.bool false) = (V.bool r))) /\ ((!(veqB (v40 ((outC F_Step F_env F_program (insC c0 (callI c0)) (F_state c0.nr c0.regs c0.ns c0.stack)).1.2 0).state.stack) (v40 (F_state c0.nr c0.regs c0.ns c0.stack).stack))) = false -> (0 <= (0 : Int) /\ (0 : Int) < ((outC F_Step F_env F_program (insC c0 (callI c0)) (F_state c0.nr c0.regs c0.ns c0.stack)).1.1 : Nat)) /\ (0 <= (1 : Int) /\ (1 : Int) < (11 : Nat)) /\ veqOk (v38 (((outC F_Step F_env F_program (insC c0 (callI c0)) (F_state c0.nr c0.regs c0.ns c0.stack)).1.2 0).state.regs 1)) zV /\ ((!(veqB (v38 (((outC F_Step F_env F_program (insC c0 (callI c0)) (F_state c0.nr c0.regs c0.ns c0.stack)).1.2 0).state.regs 1)) zV)) = false -> true = true /\ (0 <= (2 : Int) /\ (2 : Int) < (11 : Nat)) /\ veqOk (v38 (((outC F_Step F_env F_program (insC c0 (callI c0)) (F_state c0.nr c0.regs c0.ns c0.stack)).1.2 0).state.regs 2)) zV /\ ((!(veqB (v38 (((outC F_Step F_env F_program (insC c0 (callI c0)) (F_state c0.nr c0.regs c0.ns c0.stack)).1.2 0).state.regs 2)) zV)) = false -> true = true /\ (0 <= (3 : Int) /\ (3 : Int) < (11 : Nat)) /\ veqOk (v38 (((outC F_Step F_env F_program (insC c0 (callI c0)) (F_state c0.nr c0.regs c0.ns c0.stack)).1.2 0).state.regs 3)) zV /\ ((!(veqB (v38 (((outC F_Step F_env F_program (insC c0 (callI c0)) (F_state c0.nr c0.regs c0.ns c0.stack)).1.2 0).state.regs 3)) zV)) = false -> true = true /\ (0 <= (4 : Int) /\ (4 : Int) < (11 : Nat)) /\ veqOk (v38 (((outC F_Step F_env F_program (insC c0 (callI c0)) (F_state c0.nr c0.regs c0.ns c0.stack)).1.2 0).state.regs 4)) zV /\ ((!(veqB (v38 (((outC F_Step F_env F_program (insC c0 (callI c0)) (F_state c0.nr c0.regs c0.ns c0.stack)).1.2 0).state.regs 4)) zV)) = false -> true = true /\ (0 <= (5 : Int) /\ (5 : Int) < (11 : Nat)) /\ veqOk (v38 (((outC F_Step F_env F_program (insC c0 (callI c0)) (F_state c0.nr c0.regs c0.ns c0.stack)).1.2 0).state.regs 5)) zV /\ ((!(veqB (v38 (((outC F_Step F_env F_program (insC c0 (callI c0)) (F_state c0.nr c0.regs c0.ns c0.stack)).1.2 0).state.regs 5)) zV)) = false -> true = true /\ (0 <= (6 : Int) /\ (6 : Int) < (11 : Nat)) /\ (0 <= (6 : Int) /\ (6 : Int) < (11 : Nat)) /\ veqOk (v38 (((outC F_Step F_env F_program (insC c0 (callI c0)) (F_state c0.nr c0.regs c0.ns c0.stack)).1.2 0).state.regs 6)) (v38 ((F_state c0.nr c0.regs c0.ns c0.stack).regs 6)) /\ true = true /\ ((!(veqB (v38 (((outC F_Step F_env F_program (insC c0 (callI c0)) (F_state c0.nr c0.regs c0.ns c0.stack)).1.2 0).state.regs 6)) (v38 ((F_state c0.nr c0.regs c0.ns c0.stack).regs 6)))) = true -> Leaf ((V.bool false) = (V.bool r))) /\ ((!(veqB (v38 (((outC F_Step F_env F_program (insC c0 (callI c0)) (F_state c0.nr c0.regs c0.ns c0.stack)).1.2 0).state.regs 6)) (v38 ((F_state c0.nr c0.regs c0.ns c0.stack).regs 6)))) = false -> (0 <= (7 : Int) /\ (7 : Int) < (11 : Nat)) /\ (0 <= (7 : Int) /\ (7 : Int) < (11 : Nat)) /\ veqOk (v38 (((outC F_Step F_env F_program (insC c0 (callI c0)) (F_state c0.nr c0.regs c0.ns c0.stack)).1.2 0).state.regs 7)) (v38 ((F_state c0.nr c0.regs c0.ns c0.stack).regs 7)) /\ true = true /\ ((!(veqB (v38 (((outC F_Step F_env F_program (insC c0 (callI c0)) (F_state c0.nr c0.regs c0.ns c0.stack)).1.2 0).state.regs 7)) (v38 ((F_state c0.nr c0.regs c0.ns c0.stack).regs 7)))) = true -> Leaf ((V.bool false) = (V.bool r))) /\ ((!(veqB (v38 (((outC F_Step F_env F_program (insC c0 (callI c0)) (F_state c0.nr c0.regs c0.ns c0.stack)).1.2 0).state.regs 7)) (v38 ((F_state c0.nr c0.regs c0.ns c0.stack).regs 7)))) = false -> (0 <= (8 : Int) /\ (8 : Int) < (11 : Nat)) /\ (0 <= (8 : Int) /\ (8 : Int) < (11 : Nat)) /\ veqOk (v38 (((outC F_Step F_env F_program (insC c0 (callI c0)) (F_state c0.nr c0.regs c0.ns c0.stack)).1.2 0).state.regs 8)) (v38 ((F_state c0.nr c0.regs c0.ns c0.stack).regs 8)) /\ true = true /\ ((!(veqB (v38 (((outC F_Step F_env F_program (insC c0 (callI c0)) (F_state c0.nr c0.regs c0.ns c0.stack)).1.2 0).state.regs 8)) (v38 ((F_state c0.nr c0.regs c0.ns c0.stack).regs 8)))) = true -> Leaf ((V.bool false) = (V.bool r))) /\ ((!(veqB (v38 (((outC F_Step F_env F_program (insC c0 (callI c0)) (F_state c0.nr c0.regs c0.ns c0.stack)).1.2 0).state.regs 8)) (v38 ((F_state c0.nr c0.regs c0.ns c0.stack).regs 8)))) = false -> (0 <= (9 : Int) /\ (9 : Int) < (11 : Nat)) /\ (0 <= (9 : Int) /\ (9 : Int) < (11 : Nat)) /\ veqOk (v38 (((outC F_Step F_env F_program (insC c0 (callI c0)) (F_state c0.nr c0.regs c0.ns c0.stack)).1.2 0).state.regs 9)) (v38 ((F_state c0.nr c0.regs c0.ns c0.stack).regs 9)) /\ true = true /\ ((!(veqB (v38 (((outC F_Step F_env F_program (insC c0 (callI c0)) (F_state c0.nr c0.regs c0.ns c0.stack)).1.2 0).state.regs 9)) (v38 ((F_state c0.nr c0.regs c0.ns c0.stack).regs 9)))) = true -> Leaf ((V.bool false) = (V.bool r))) /\ ((!(veqB (v38 (((outC F_Step F_env F_program (insC c0 (callI c0)) (F_state c0.nr c0.regs c0.ns c0.stack)).1.2 0).state.regs 9)) (v38 ((F_state c0.nr c0.regs c0.ns c0.stack).regs 9)))) = false -> (0 <= (10 : Int) /\ (10 : Int) < (11 : Nat)) /\ (0 <= (10 : Int) /\ (10 : Int) < (11 : Nat)) /\ veqOk (v38 (((outC F_Step F_env F_program (insC c0 (callI c0)) (F_state c0.nr c0.regs c0.ns c0.stack)).1.2 0).state.regs 10)) (v38 ((F_state c0.nr c0.regs c0.ns c0.stack).regs 10)) /\ true = true /\ ((!(veqB (v38 (((outC F_Step F_env F_program (insC c0 (callI c0)) (F_state c0.nr c0.regs c0.ns c0.stack)).1.2 0).state.regs 10)) (v38 ((F_state c0.nr c0.regs c0.ns c0.stack).regs 10)))) = true -> Leaf ((V.bool false) = (V.bool r))) /\ ((!(veqB (v38 (((outC F_Step F_env F_program (insC c0 (callI c0)) (F_state c0.nr c0.regs c0.ns c0.stack)).1.2 0).state.regs 10)) (v38 ((F_state c0.nr c0.regs c0.ns c0.stack).regs 10)))) = false -> (F_shown = true -> (0 <= (0 : Int) /\ (0 : Int) < (11 : Nat)) /\ veqOk (V.bool (((((outC F_Step F_env F_program (insC c0 (callI c0)) (F_state c0.nr c0.regs c0.ns c0.stack)).1.2 0).state.regs 0).kind : Int) == 6)) (V.bool ((c0.ins.imm : Int) == 1)) /\ (((((((outC F_Step F_env F_program (insC c0 (callI c0)) (F_state c0.nr c0.regs c0.ns c0.stack)).1.2 0).state.regs 0).kind : Int) == 6) == ((c0.ins.imm : Int) == 1)) = true -> (0 <= (0 : Int) /\ (0 : Int) < (11 : Nat)) /\ veqOk (V.bool (((((outC F_Step F_env F_program (insC c0 (callI c0)) (F_state c0.nr c0.regs c0.ns c0.stack)).1.2 0).state.regs 0).kind : Int) == 1)) (V.bool ((c0.ins.imm : Int) != 1)) /\ Leaf ((V.bool ((((((outC F_Step F_env F_program (insC c0 (callI c0)) (F_state c0.nr c0.regs c0.ns c0.stack)).1.2 0).state.regs 0).kind : Int) == 1) == ((c0.ins.imm : Int) != 1))) = (V.bool r))) /\ (((((((outC F_Step F_env F_program (insC c0 (callI c0)) (F_state c0.nr c0.regs c0.ns c0.stack)).1.2 0).state.regs 0).kind : Int) == 6) == ((c0.ins.imm : Int) == 1)) = false -> Leaf ((V.bool false) = (V.bool r)))) /\ (F_shown = false -> Leaf ((V.bool false) = (V.bool r))))))))) /\ ((!(veqB (v38 (((outC F_Step F_env F_program (insC c0 (callI c0)) (F_state c0.nr c0.regs c0.ns c0.stack)).1.2 0).state.regs 5)) zV)) = true -> true = true /\ Leaf ((V.bool false) = (V.bool r)))) /\ ((!(veqB (v38 (((outC F_Step F_env F_program (insC c0 (callI c0)) (F_state c0.nr c0.regs c0.ns c0.stack)).1.2 0).state.regs 4)) zV)) = true -> true = true /\ Leaf ((V.bool false) = (V.bool r)))) /\ ((!(veqB (v38 (((outC F_Step F_env F_program (insC c0 (callI c0)) (F_state c0.nr c0.regs c0.ns c0.stack)).1.2 0).state.regs 3)) zV)) = true -> true = true /\ Leaf ((V.bool false) = (V.bool r)))) /\ ((!(veqB (v38 (((outC F_Step F_env F_program (insC c0 (callI c0)) (F_state c0.nr c0.regs c0.ns c0.stack)).1.2 0).state.regs 2)) zV)) = true -> true = true /\ Leaf ((V.bool false) = (V.bool r)))) /\ ((!(veqB (v38 (((outC F_Step F_env F_program (insC c0 (callI c0)) (F_state c0.nr c0.regs c0.ns c0.stack)).1.2 0).state.regs 1)) zV)) = true -> true = true /\ Leaf ((V.bool false) = (V.bool r))))) /\ (((((outC F_Step F_env F_program (insC c0 (callI c0)) (F_state c0.nr c0.regs c0.ns c0.stack)).1.2 0).pC : Int) != 1) = true -> true = true /\ Leaf ((V.bool false) = (V.bool r)))) /\ ((((((outC F_Step F_env F_program (insC c0 (callI c0)) (F_state c0.nr c0.regs c0.ns c0.stack)).1.1 : Nat) : Int) : Int) != 1) = true -> true = true /\ Leaf ((V.bool false) = (V.bool r)))))
theorem StepCalls_runs (F_shown : Bool) (F_program : T_program) (F_state : T_state) (F_env : SCase -> SEnv) (F_Step : T_Step) (r : (Bool)) (c0 : SCase) (S : List It -> Env -> Heap -> Prop) :
 (Ran (D_StepCalls F_shown F_program F_state F_env F_Step) (fun d => Nat.beq d 1) S (retV rs_StepCalls fun u _ => u = (V.bool r)) 4000 [.code ir_StepCalls] (argsE 0 [(csV c0)]) (csC c0 [])) = phi_StepCalls F_shown F_program F_state F_env F_Step r c0 := by kernel_rfl
theorem StepCalls_lf {r v : Bool} (e : r = v) : Leaf ((V.bool v) = (V.bool r)) := ⟨(congrArg (fun r : Bool => ((V.bool r) : V)) e).symm⟩
theorem StepCalls_phi (c0 : SCase) (hp : pre_StepCalls c0) : phi_StepCalls F_shown F_program F_state F_env F_Step (F_StepCalls c0) c0 := by
 unfold phi_StepCalls
 have e := F_StepCalls.eq_1 c0
 refine ⟨⟨⟨(fun _ _ => rfl), (fun _ _ => rfl), (fun _ _ => rfl)⟩, ⟨callI_ok hp, CsOk.second (CsOk.with hp (callI_ok hp))⟩⟩, ?_⟩
 refine br e (fun h0 e => ?_) (fun h0 e => ?_)
 ·exact StepCalls_lf e
 refine ⟨⟨(fun _ _ => rfl), (fun _ _ => rfl)⟩, ⟨(fun _ _ => rfl), (fun _ _ => rfl), (fun _ _ => rfl)⟩, ⟨(fun _ _ => rfl), (fun _ _ => rfl), (look_st (CsOk.with hp (callI_ok hp)) (CsOk.raws hp) (by assumption))⟩, rfl, ?_⟩
 refine br e (fun h1 e => ?_) (fun h1 e => ?_)
 ·refine br e (fun h2 e => ?_) (fun h2 e => ?_)
  ·exact StepCalls_lf e
  exact StepCalls_lf e
 refine brf e (fun h2 e => ?_) (fun h2 e => ?_)
 ·refine ⟨(by first | exact at0 (by assumption) | decide), ?_⟩
  refine brf e (fun h3 e => ?_) (fun h3 e => ?_)
  ·refine ⟨(by first | exact at0 (by assumption) | decide), (ok40 _ _), rfl, ?_⟩
   refine br e (fun h4 e => ?_) (fun h4 e => ?_)
   ·exact StepCalls_lf e
   refine ⟨(by first | exact at0 (by assumption) | decide), (by decide), (ok38 _ zR), ?_⟩
   refine brf e (fun h5 e => ?_) (fun h5 e => ?_)
   ·refine ⟨rfl, (by decide), (ok38 _ zR), ?_⟩
    refine brf e (fun h6 e => ?_) (fun h6 e => ?_)
    ·refine ⟨rfl, (by decide), (ok38 _ zR), ?_⟩
     refine brf e (fun h7 e => ?_) (fun h7 e => ?_)
     ·refine ⟨rfl, (by decide), (ok38 _ zR), ?_⟩
      refine brf e (fun h8 e => ?_) (fun h8 e => ?_)
      ·refine ⟨rfl, (by decide), (ok38 _ zR), ?_⟩
       refine brf e (fun h9 e => ?_) (fun h9 e => ?_)
       ·refine ⟨rfl, (by decide), (by decide), (ok38 _ _), rfl, ?_⟩
        refine br e (fun h10 e => ?_) (fun h10 e => ?_)
        ·exact StepCalls_lf e
        refine ⟨(by decide), (by decide), (ok38 _ _), rfl, ?_⟩
        refine br e (fun h11 e => ?_) (fun h11 e => ?_)
        ·exact StepCalls_lf e
        refine ⟨(by decide), (by decide), (ok38 _ _), rfl, ?_⟩
        refine br e (fun h12 e => ?_) (fun h12 e => ?_)
        ·exact StepCalls_lf e
        refine ⟨(by decide), (by decide), (ok38 _ _), rfl, ?_⟩
        refine br e (fun h13 e => ?_) (fun h13 e => ?_)
        ·exact StepCalls_lf e
        refine ⟨(by decide), (by decide), (ok38 _ _), rfl, ?_⟩
        refine br e (fun h14 e => ?_) (fun h14 e => ?_)
        ·exact StepCalls_lf e
        refine br e (fun h15 e => ?_) (fun h15 e => ?_)
        ·refine ⟨(by first | exact at0 (by assumption) | decide), trivial, ?_⟩
         refine br e (fun h16 e => ?_) (fun h16 e => ?_)
         ·refine ⟨(by first | exact at0 (by assumption) | decide), trivial, ?_⟩
          exact StepCalls_lf e
         exact StepCalls_lf e
        exact StepCalls_lf e
       refine ⟨rfl, ?_⟩
       exact StepCalls_lf e
      refine ⟨rfl, ?_⟩
      exact StepCalls_lf e
     refine ⟨rfl, ?_⟩
     exact StepCalls_lf e
    refine ⟨rfl, ?_⟩
    exact StepCalls_lf e
   refine ⟨rfl, ?_⟩
   exact StepCalls_lf e
  refine ⟨rfl, ?_⟩
  exact StepCalls_lf e
 refine ⟨rfl, ?_⟩
 exact StepCalls_lf e
def cc_StepCalls (F_StepCalls : SCase -> Bool) (vs : List V) (H : Heap) : Option (Pre × V) :=
 match vs with
 | [x0] => (csD H x0).bind fun s0 => some (some (Pre.ok s0.1 /\ pre_StepCalls s0.2), (V.bool (F_StepCalls s0.2)))
 | _ => none
def c_StepCalls := cc_StepCalls F_StepCalls
theorem StepCalls_fn : Fn Try.prog 4 ir_StepCalls 1 rs_StepCalls := Fn.mk2 (code := Try.f4.body.getD .skip) Try.func4
theorem StepCalls_spec : Spec Try.prog 4 (Con.read c_StepCalls).d := by
 refine spec_read2 StepCalls_fn D_StepCalls_known (fun d => Nat.beq d 1) 4000 (fun vs H p v h hp ρ w hR hw => ?_)
 unfold c_StepCalls cc_StepCalls at h
 split at h
 ·rename_i x0
  obtain ⟨⟨p0, c0⟩, es0, h⟩ := Option.bind_eq_some_iff.1 h
  obtain ⟨rfl, rfl⟩ := Prod.mk.inj (Option.some.inj h)
  obtain ⟨hp0, hp⟩ := hp
  obtain ⟨w0, _⟩ := hw
  obtain ⟨⟨πa, κa, δa, νa, εa, ta, ma, fa⟩, ⟨πb, κb, δb, νb, εb, tb, mb, fb⟩, ⟨πc, κc, δc, νc, εc, tc, mc, fc⟩, ka, kb, kc, hta, hma, hfa, htb, hmb, hfb, htc, hmc, hfc, q0⟩ := cs_view es0 hp0 hR w0
  simp only at hta hma hfa htb hmb hfb htc hmc hfc; subst hta hma hfa htb hmb hfb htc hmc hfc
  refine ⟨[⟨πa, κa, δa, νa, εa, 76, c0.nr, fun i => (v76 (c0.regs i))⟩, ⟨πb, κb, δb, νb, εb, 4, c0.ns, fun i => (V.bool (c0.stack i))⟩, ⟨πc, κc, δc, νc, εc, 73, c0.nm, fun i => (v73 (c0.maps i))⟩], [(csV c0)], ?_, ?_, ?_, plain_bool, Nat.le_refl _, ?_⟩
  ·intro x hx; simp only [List.mem_cons, List.not_mem_nil, or_false] at hx
   rcases hx with rfl | rfl | rfl
   ·exact ka
   ·exact kb
   ·exact kc
  ·exact (vals_cons ((q0 _ 0 1 2 (fun _ _ _ => rfl) (fun _ _ _ => rfl) (fun _ _ _ => rfl)).symm) rfl)
  ·exact ⟨cs_wf rfl rfl rfl, trivial⟩
  ·exact fun S _ => Eq.mpr (StepCalls_runs F_shown F_program F_state F_env F_Step (F_StepCalls c0) c0 S) (StepCalls_phi c0 hp)
 ·cases h
abbrev Outs := (Nat × (Nat -> SOut)) × Int
def outsOf (r : Outs) : List SOut × Int := ((List.range r.1.1).map r.1.2, r.2)
def ok1 (pc : Int) (r : Bool × SState) : List SOut × Int := bif r.1 then ([⟨pc, r.2⟩], 0) else ([], 7)
def SLook.dreg (x : SLook) : SReg := x.st.regs x.ins.dst.toNat
def SLook.put (x : SLook) (r : SReg) : SState := ⟨updF x.st.regs x.ins.dst.toNat r, x.st.stack⟩
def aluT (x : SLook) : Bool × SState :=
 bif F_op x == 176 then
  (bif F_class x == 7 then ((F_second x).kind != 0, x.put (F_second x)) else
   bif (F_second x).kind == 1 then (true, x.put (F_Number (F_sLow (F_second x).num))) else (false, x.st)) else
 bif F_op x == 128 then
  (bif x.dreg.kind == 1 then (true, x.put (F_Number (F_sDo (F_op x) (F_class x == 7) x.dreg.num x.dreg.num))) else (false, x.st)) else
 bif (F_second x).kind == 1 then
  (bif x.dreg.kind == 1 then (true, x.put (F_Number (F_sDo (F_op x) (F_class x == 7) x.dreg.num (F_second x).num))) else
   bif (F_class x == 7 && (F_op x == 0 || F_op x == 16)) then ((F_Move x.dreg (F_second x).num (F_op x == 16)).2, x.put (F_Move x.dreg (F_second x).num (F_op x == 16)).1) else (false, x.st)) else (false, x.st)
theorem ne_eqb {a k m : Int} (h : (a == k) = true) (hk : k ≠ m) : (a == m) = false := by
 have : a = k := by simpa using h
 subst this; exact beq_eq_false_iff_ne.2 hk
theorem alu_eq (x : SLook) : F_alu x = aluT x := by
 unfold F_alu q_alu_0 q_alu_1 q_alu_2 q_alu_3 q_alu_4 q_alu_5 q_alu_6 q_alu_7 q_alu_8 q_alu_9 aluT SLook.put SLook.dreg
 simp only [bne]
 cases h1 : (F_op x == 176) <;> simp only [cond_true, cond_false]
 ·cases h2 : (F_op x == 128) <;> simp only [cond_true, cond_false]
  ·cases (F_second x).kind == 1 <;> simp only [cond_true, cond_false, Bool.not_true, Bool.not_false] <;> cases (x.st.regs x.ins.dst.toNat).kind == 1 <;> simp only [cond_true, cond_false, Bool.not_true, Bool.not_false] <;>
    cases F_class x == 7 <;> simp only [cond_true, cond_false, Bool.not_true, Bool.not_false, Bool.true_and, Bool.false_and] <;> cases F_op x == 0 <;> simp only [cond_true, cond_false, Bool.true_or, Bool.false_or] <;> cases F_op x == 16 <;> rfl
 ·have h2 := ne_eqb h1 (show (176 : Int) ≠ 128 by decide)
  have h3 := ne_eqb h1 (show (176 : Int) ≠ 0 by decide)
  have h4 := ne_eqb h1 (show (176 : Int) ≠ 16 by decide)
  simp only [h2, h3, h4, cond_true, cond_false]
  cases F_class x == 7 <;> simp only [cond_true, cond_false] <;> cases (F_second x).kind == 1 <;> simp only [cond_true, cond_false, Bool.not_true, Bool.not_false]
def isM (x : SLook) (m : Int) : Prop := 0 <= m /\ m < (x.nm : Int)
inductive Lim (x : SLook) (r : SReg) : Int -> Int -> Prop
 | ctx (h : r.kind = 2) : Lim x r 0 x.ctx
 | stack (h : r.kind = 3) : Lim x r (-512) 0
 | value (h : r.kind = 5) (hm : isM x r.map) : Lim x r 0 (x.maps r.map.toNat).value
def inR (x : SLook) (r : SReg) (off size : Int) : Prop := ∃ a b, Lim x r a b /\ a <= r.lo + off /\ r.hi + off + size <= b
theorem inR.stack {x : SLook} {r : SReg} {off size : Int} (h : inR x r off size) (hk : r.kind = 3) : -512 <= r.lo + off /\ r.hi + off + size <= 0 := by
 obtain ⟨a, b, h, q⟩ := h
 cases h with
 | ctx h => omega
 | stack h => exact q
 | value h => omega
def SLook.ref (x : SLook) : Bool := (x.st.regs 1).kind == 4 && F_is x (x.st.regs 1).map
def keyT (x : SLook) : Bool := x.ref && F_readable x (x.st.regs 2) 0 (x.maps (x.st.regs 1).map.toNat).key
def forget (x : SLook) (r : SReg) : SState := ⟨updF (updF (updF (updF (updF (updF x.st.regs 0 r) 1 zR) 2 zR) 3 zR) 4 zR) 5 zR, x.st.stack⟩
def callT (x : SLook) : Bool × SState :=
 bif x.ins.imm == 1 then (keyT x && (x.ins.src == 0 && x.ins.off == 0), forget x ⟨6, ⟨0, 0⟩, 0, 0, (x.st.regs 1).map⟩) else
 bif x.ins.imm == 2 then (keyT x && (F_readable x (x.st.regs 3) 0 (x.maps (x.st.regs 1).map.toNat).value && ((x.st.regs 4).kind == 1 && (x.ins.src == 0 && x.ins.off == 0))), forget x (F_Number F_sAll)) else
 bif x.ins.imm == 3 then (keyT x && (x.ins.src == 0 && x.ins.off == 0), forget x (F_Number F_sAll)) else
 bif x.ins.imm == 5 then (x.ins.src == 0 && x.ins.off == 0, forget x (F_Number F_sAll)) else
 bif x.ins.imm == 7 then (x.ins.src == 0 && x.ins.off == 0, forget x (F_Number (F_sLow F_sAll))) else
 bif x.ins.imm == 9 then (decide (x.emit > 0) && (F_readable x (x.st.regs 1) 0 x.emit && (x.ins.src == 0 && x.ins.off == 0)), forget x (F_Number (F_sOne 0))) else (false, x.st)
theorem call_eq (x : SLook) : F_call x = callT x := by
 unfold F_call q_call_0 q_call_1 q_call_2 q_call_3 q_call_4 q_call_5 callT keyT SLook.ref
 cases h1 : (x.st.regs 1).kind == 4
 ·simp only [cond_true, cond_false, Bool.false_and]
  cases x.ins.imm == 1 <;> simp only [cond_true, cond_false]
  rotate_left
  ·rfl
  cases x.ins.imm == 2 <;> simp only [cond_true, cond_false]
  rotate_left
  ·rfl
  cases x.ins.imm == 3 <;> simp only [cond_true, cond_false]
  rotate_left
  ·rfl
  cases x.ins.imm == 5 <;> simp only [cond_true, cond_false]
  ·cases x.ins.imm == 7 <;> simp only [cond_true, cond_false]
   ·cases x.ins.imm == 9 <;> simp only [cond_true, cond_false]
    cases decide (x.emit > 0) <;> cases F_readable x (x.st.regs 1) 0 x.emit <;> cases x.ins.src == 0 <;> rfl
   ·cases x.ins.src == 0 <;> rfl
  ·cases x.ins.src == 0 <;> rfl
 ·cases h2 : F_is x (x.st.regs 1).map
  ·simp only [cond_true, cond_false, Bool.and_false, Bool.false_and]
   cases x.ins.imm == 1 <;> simp only [cond_true, cond_false]
   rotate_left
   ·rfl
   cases x.ins.imm == 2 <;> simp only [cond_true, cond_false]
   rotate_left
   ·rfl
   cases x.ins.imm == 3 <;> simp only [cond_true, cond_false]
   rotate_left
   ·rfl
   cases x.ins.imm == 5 <;> simp only [cond_true, cond_false]
   ·cases x.ins.imm == 7 <;> simp only [cond_true, cond_false]
    ·cases x.ins.imm == 9 <;> simp only [cond_true, cond_false]
     cases decide (x.emit > 0) <;> cases F_readable x (x.st.regs 1) 0 x.emit <;> cases x.ins.src == 0 <;> rfl
    ·cases x.ins.src == 0 <;> rfl
   ·cases x.ins.src == 0 <;> rfl
  ·simp only [cond_true, cond_false, Bool.and_true, Bool.true_and]
   cases x.ins.imm == 1 <;> simp only [cond_true, cond_false]
   ·cases x.ins.imm == 2 <;> simp only [cond_true, cond_false]
    ·cases x.ins.imm == 3 <;> simp only [cond_true, cond_false]
     ·cases x.ins.imm == 5 <;> simp only [cond_true, cond_false]
      ·cases x.ins.imm == 7 <;> simp only [cond_true, cond_false]
       ·cases x.ins.imm == 9 <;> simp only [cond_true, cond_false]
        cases decide (x.emit > 0) <;> cases F_readable x (x.st.regs 1) 0 x.emit <;> cases x.ins.src == 0 <;> rfl
       ·cases x.ins.src == 0 <;> rfl
      ·cases x.ins.src == 0 <;> rfl
     ·cases F_readable x (x.st.regs 2) 0 (x.maps (x.st.regs 1).map.toNat).key <;> cases x.ins.src == 0 <;> rfl
    ·cases F_readable x (x.st.regs 2) 0 (x.maps (x.st.regs 1).map.toNat).key <;> cases F_readable x (x.st.regs 3) 0 (x.maps (x.st.regs 1).map.toNat).value <;> cases (x.st.regs 4).kind == 1 <;> cases x.ins.src == 0 <;> rfl
   ·cases F_readable x (x.st.regs 2) 0 (x.maps (x.st.regs 1).map.toNat).key <;> cases x.ins.src == 0 <;> rfl
def SLook.on (x : SLook) : Int := IntKind.i64.wrap (x.pc + 1)
def SLook.to (x : SLook) : Int := IntKind.i64.wrap (IntKind.i64.wrap (x.pc + 1) + IntKind.i64.wrap x.ins.off)
def restW (x : SLook) : SSpan × Bool := bif (F_opposite (F_op x)).2 then F_sWhere (F_opposite (F_op x)).1 x.dreg.num (F_second x).num else (x.dreg.num, true)
def mayW (x : SLook) : SSpan × Bool := F_sWhere (F_op x) x.dreg.num (F_second x).num
def maybeT (x : SLook) : Bool := F_class x == 5 && (x.dreg.kind == 6 && (andI .u8 x.ins.op 8 == 0 && (x.ins.imm == 0 && (F_op x == 16 || F_op x == 80))))
def SLook.value (x : SLook) : SReg := ⟨5, ⟨0, 0⟩, 0, 0, x.dreg.map⟩
def testT (x : SLook) : List SOut × Int :=
 bif maybeT x then
  (bif F_op x == 80 then [⟨x.on, x.put (F_Number (F_sOne 0))⟩, ⟨x.to, x.put x.value⟩] else [⟨x.on, x.put x.value⟩, ⟨x.to, x.put (F_Number (F_sOne 0))⟩], 0) else
 bif x.dreg.kind != 1 then ([], 7) else bif (F_second x).kind != 1 then ([], 7) else
 bif F_class x == 5 then ((bif (restW x).2 then [⟨x.on, x.put (F_Number (restW x).1)⟩] else []) ++ (bif (mayW x).2 then [⟨x.to, x.put (F_Number (mayW x).1)⟩] else []), 0) else
 ([⟨x.on, x.put x.dreg⟩, ⟨x.to, x.put x.dreg⟩], 0)
def tailT (x : SLook) : List SOut × Int :=
 bif x.dreg.kind != 1 then ([], 7) else bif (F_second x).kind != 1 then ([], 7) else
 bif F_class x == 5 then ((bif (restW x).2 then [⟨x.on, x.put (F_Number (restW x).1)⟩] else []) ++ (bif (mayW x).2 then [⟨x.to, x.put (F_Number (mayW x).1)⟩] else []), 0) else
 ([⟨x.on, x.put x.dreg⟩, ⟨x.to, x.put x.dreg⟩], 0)
theorem test_eq (x : SLook) : outsOf (F_test x) = testT x := by
 have e : testT x = bif maybeT x then (bif F_op x == 80 then [⟨x.on, x.put (F_Number (F_sOne 0))⟩, ⟨x.to, x.put x.value⟩] else [⟨x.on, x.put x.value⟩, ⟨x.to, x.put (F_Number (F_sOne 0))⟩], 0) else tailT x := rfl
 rw [e]
 unfold F_test q_test_0 q_test_1 q_test_2 q_test_3 q_test_4 q_test_5 q_test_6 q_test_7 q_test_8 maybeT
 have d : x.st.regs x.ins.dst.toNat = x.dreg := rfl
 rw [d]
 have tail : ∀ T : Outs, T = (bif (x.dreg.kind != 1) then (((0 : Nat), fun _ => default), 7)
  else (bif ((F_second x).kind != 1) then (((0 : Nat), fun _ => default), 7)
  else (bif (!(F_class x == 5)) then (((2 : Nat), (updF (updF (fun _ => (⟨0, (⟨(fun _ => zR), (fun _ => false)⟩ : SState)⟩ : SOut)) 0 (F_knows x x.on x.dreg)) 1 (F_knows x x.to x.dreg))), 0)
  else (bif (F_opposite (F_op x)).2 then (bif (F_sWhere (F_opposite (F_op x)).1 x.dreg.num (F_second x).num).2 then (bif (mayW x).2 then (((2 : Nat), (catF 1 (catF 0 (fun _ => default) 0 (updF (fun _ => (⟨0, (⟨(fun _ => zR), (fun _ => false)⟩ : SState)⟩ : SOut)) 0 (F_knows x x.on (F_Number (F_sWhere (F_opposite (F_op x)).1 x.dreg.num (F_second x).num).1)))) 0 (updF (fun _ => (⟨0, (⟨(fun _ => zR), (fun _ => false)⟩ : SState)⟩ : SOut)) 0 (F_knows x x.to (F_Number (mayW x).1))))), 0)
  else (((1 : Nat), (catF 0 (fun _ => default) 0 (updF (fun _ => (⟨0, (⟨(fun _ => zR), (fun _ => false)⟩ : SState)⟩ : SOut)) 0 (F_knows x x.on (F_Number (F_sWhere (F_opposite (F_op x)).1 x.dreg.num (F_second x).num).1))))), 0))
  else (bif (mayW x).2 then (((1 : Nat), (catF 0 (fun _ => default) 0 (updF (fun _ => (⟨0, (⟨(fun _ => zR), (fun _ => false)⟩ : SState)⟩ : SOut)) 0 (F_knows x x.to (F_Number (mayW x).1))))), 0)
  else (((0 : Nat), fun _ => default), 0)))
  else (bif (mayW x).2 then (((2 : Nat), (catF 1 (catF 0 (fun _ => default) 0 (updF (fun _ => (⟨0, (⟨(fun _ => zR), (fun _ => false)⟩ : SState)⟩ : SOut)) 0 (F_knows x x.on (F_Number x.dreg.num)))) 0 (updF (fun _ => (⟨0, (⟨(fun _ => zR), (fun _ => false)⟩ : SState)⟩ : SOut)) 0 (F_knows x x.to (F_Number (mayW x).1))))), 0)
  else (((1 : Nat), (catF 0 (fun _ => default) 0 (updF (fun _ => (⟨0, (⟨(fun _ => zR), (fun _ => false)⟩ : SState)⟩ : SOut)) 0 (F_knows x x.on (F_Number x.dreg.num))))), 0)))))) -> outsOf T = tailT x := by
  rintro T rfl
  unfold tailT restW
  cases x.dreg.kind != 1 <;> simp only [cond_true, cond_false]
  rotate_left
  ·rfl
  cases (F_second x).kind != 1 <;> simp only [cond_true, cond_false]
  rotate_left
  ·rfl
  cases F_class x == 5 <;> simp only [cond_true, cond_false, Bool.not_true, Bool.not_false]
  ·rfl
  cases (F_opposite (F_op x)).2 <;> simp only [cond_true, cond_false]
  ·cases (mayW x).2 <;> rfl
  ·cases (F_sWhere (F_opposite (F_op x)).1 x.dreg.num (F_second x).num).2 <;> simp only [cond_true, cond_false]
   ·cases (mayW x).2 <;> rfl
   ·cases (mayW x).2 <;> rfl
 cases h5 : F_class x == 5 <;> simp only [cond_true, cond_false, Bool.false_and, Bool.true_and, h5]
 ·exact tail _ (by rw [h5]; rfl)
 cases x.dreg.kind == 6 <;> simp only [cond_true, cond_false, Bool.false_and, Bool.true_and, h5]
 ·exact tail _ (by rw [h5]; rfl)
 cases andI .u8 x.ins.op 8 == 0 <;> simp only [cond_true, cond_false, Bool.false_and, Bool.true_and, h5]
 ·exact tail _ (by rw [h5]; rfl)
 cases x.ins.imm == 0 <;> simp only [cond_true, cond_false, Bool.false_and, Bool.true_and, h5]
 ·exact tail _ (by rw [h5]; rfl)
 cases F_op x == 16 <;> simp only [cond_true, cond_false, Bool.false_or, Bool.true_or, h5]
 ·cases F_op x == 80 <;> simp only [cond_true, cond_false, h5]
  ·exact tail _ (by rw [h5]; rfl)
  ·rfl
 ·cases F_op x == 80 <;> rfl
def stepT (x : SLook) : List SOut × Int :=
 bif F_class x == 0 then ok1 (IntKind.i64.wrap (x.pc + 2)) (F_wide x) else
 bif F_class x == 1 then ok1 x.on (F_load x) else
 bif F_class x == 2 || F_class x == 3 then ok1 x.on (F_store x) else
 bif F_class x == 4 || F_class x == 7 then ok1 x.on (aluT x) else
 bif F_op x == 0 then ([⟨x.to, x.st⟩], 0) else
 bif F_op x == 144 then ([], bif (x.st.regs 0).kind != 1 then 7 else 0) else
 bif F_op x == 128 then ok1 x.on (callT x) else testT x
theorem Step_eq (e : SEnv) (s : SState) (n : Nat) (l : Nat -> SInsn) (pc : Int) : outsOf (F_Step e s n l pc) = stepT (mkLook e s n l pc) := by
 unfold F_Step q_Step_0 q_Step_1 stepT
 rw [alu_eq, call_eq]
 have k : ∀ (q : Int) (r : Bool × SState), outsOf (bif (!r.1) then (((0 : Nat), fun _ => default), 7) else (((1 : Nat), (updF (fun _ => (⟨0, (⟨(fun _ => (⟨0, (⟨0, 0⟩ : SSpan), 0, 0, 0⟩ : SReg)), (fun _ => false)⟩ : SState)⟩ : SOut)) 0 (⟨q, r.2⟩ : SOut))), 0)) = ok1 q r := by
  intro q r
  unfold ok1
  cases r.1 <;> rfl
 cases F_class (mkLook e s n l pc) == 0 <;> simp only [cond_true, cond_false]
 rotate_left
 ·exact k _ _
 cases F_class (mkLook e s n l pc) == 1 <;> simp only [cond_true, cond_false]
 rotate_left
 ·exact k _ _
 cases F_class (mkLook e s n l pc) == 2 <;> simp only [cond_true, cond_false, Bool.false_or, Bool.true_or]
 rotate_left
 ·exact k _ _
 cases F_class (mkLook e s n l pc) == 3 <;> simp only [cond_true, cond_false]
 rotate_left
 ·exact k _ _
 cases F_class (mkLook e s n l pc) == 4 <;> simp only [cond_true, cond_false, Bool.false_or, Bool.true_or]
 rotate_left
 ·exact k _ _
 cases F_class (mkLook e s n l pc) == 7 <;> simp only [cond_true, cond_false]
 rotate_left
 ·exact k _ _
 cases F_op (mkLook e s n l pc) == 0 <;> simp only [cond_true, cond_false]
 rotate_left
 ·rfl
 cases F_op (mkLook e s n l pc) == 144 <;> simp only [cond_true, cond_false]
 ·cases F_op (mkLook e s n l pc) == 128 <;> simp only [cond_true, cond_false]
  ·exact test_eq _
  ·exact k _ _
 ·show outsOf (bif ((s.regs 0).kind != 1) then (((0 : Nat), fun _ => default), 7) else (((0 : Nat), fun _ => default), 0)) = ([], bif ((s.regs 0).kind != 1) then 7 else 0)
  cases (s.regs 0).kind != 1 <;> rfl
theorem outs_len (r : Outs) : (outsOf r).1.length = r.1.1 := by simp [outsOf]
theorem outs_at (r : Outs) {i : Nat} (h : i < r.1.1) : (outsOf r).1[i]? = some (r.1.2 i) := by simp [outsOf, h]
def imB (a b : Bool) : Bool := !a || b
theorem imB_t {a b : Bool} (h : imB a b = true) (ha : a = true) : b = true := by subst ha; simpa [imB] using h
def cls (x : Int) : Int := andI .u8 x 7
def opc (x : Int) : Int := andI .u8 x 240
def opG (x : Int) : List Bool :=
  [imB (cls x == 0) (x == 24), imB (cls x == 0 || cls x == 1 || cls x == 4 || cls x == 7) (F_writes (op0 x)), imB ((cls x == 5 || cls x == 6) && (opc x != 0 && opc x != 128 && opc x != 144)) (F_jumps (op0 x)),
   imB (cls x == 6) (opc x != 0 && opc x != 128 && opc x != 144), imB (cls x == 5 && opc x == 0) (x == 5 && F_jumps (op0 x)), imB (cls x == 5 && opc x == 128) (x == 133), imB (cls x == 5 && opc x == 144) (x == 149),
   imB (cls x == 4 || cls x == 7) (decide (opc x <= 192)), imB ((cls x == 4 || cls x == 7) && opc x == 128) (andI .u8 x 8 == 0), decide (0 <= cls x /\ cls x <= 7), F_scls (op0 x) == cls x, F_what (op0 x) == opc x,
   imB (F_exits (op0 x)) (x == 149), imB (F_jumps (op0 x)) (cls x == 5 || cls x == 6)]
theorem opG_nat : ∀ o : Nat, o < 256 -> (!(fl (o : Int)).2 || (opG (o : Int)).all id) = true := by decide +kernel
theorem opG_all {x : Int} (h0 : 0 <= x) (h1 : x < 256) (hf : (fl x).2 = true) : (opG x).all id = true := by
 have := opG_nat x.toNat (by omega)
 rw [Int.toNat_of_nonneg h0, hf] at this
 simpa using this
structure OpOk (i : SInsn) : Prop where
 ld : cls i.op = 0 -> i.op = 24
 writes : cls i.op = 0 ∨ cls i.op = 1 ∨ cls i.op = 4 ∨ cls i.op = 7 -> F_writes i = true
 jumps : cls i.op = 5 ∨ cls i.op = 6 -> opc i.op ≠ 0 -> opc i.op ≠ 128 -> opc i.op ≠ 144 -> F_jumps i = true
 j32 : cls i.op = 6 -> opc i.op ≠ 0 /\ opc i.op ≠ 128 /\ opc i.op ≠ 144
 ja : cls i.op = 5 -> opc i.op = 0 -> i.op = 5 /\ F_jumps i = true
 call : cls i.op = 5 -> opc i.op = 128 -> i.op = 133
 exit : cls i.op = 5 -> opc i.op = 144 -> i.op = 149
 alu : cls i.op = 4 ∨ cls i.op = 7 -> opc i.op <= 192
 neg : cls i.op = 4 ∨ cls i.op = 7 -> opc i.op = 128 -> andI .u8 i.op 8 = 0
 c0 : 0 <= cls i.op
 c7 : cls i.op <= 7
 scls : F_scls i = cls i.op
 what : F_what i = opc i.op
 exits : F_exits i = true -> i.op = 149
 jcls : F_jumps i = true -> cls i.op = 5 ∨ cls i.op = 6
theorem op_ok {i : SInsn} (h0 : 0 <= i.op) (h1 : i.op < 256) (hf : F_Known i = true) : OpOk i := by
 have h := opG_all h0 h1 (known_fl hf)
 simp only [opG, List.all_cons, List.all_nil, id, Bool.and_true, Bool.and_eq_true] at h
 obtain ⟨a1, a2, a3, a4, a5, a6, a7, a8, a9, a10, a11, a12, a13, a14⟩ := h
 have e : ∀ {a b : Int}, a = b -> (a == b) = true := fun h => beq_iff_eq.2 h
 have d : ∀ {a b : Int}, a ≠ b -> (a != b) = true := fun h => by simp [h]
 refine ⟨fun h => beq_iff_eq.1 (imB_t a1 (e h)), fun h => ?_, fun h h2 h3 h4 => ?_, fun h => ?_, fun h h2 => ?_, fun h h2 => ?_, fun h h2 => ?_, fun h => ?_, fun h h2 => ?_, (of_decide_eq_true a10).1, (of_decide_eq_true a10).2, beq_iff_eq.1 a11, beq_iff_eq.1 a12, fun h => beq_iff_eq.1 (imB_t a13 h), fun h => ?_⟩
 ·rw [writes_op]; exact imB_t a2 (by rcases h with h | h | h | h <;> simp [h])
 ·rw [jumps_op]; exact imB_t a3 (by rw [d h2, d h3, d h4]; rcases h with h | h <;> simp [h])
 ·have := imB_t a4 (e h); simp only [Bool.and_eq_true, bne_iff_ne] at this; exact ⟨this.1.1, this.1.2, this.2⟩
 ·have := imB_t a5 (by rw [e h, e h2]; rfl); rw [jumps_op]; simpa using this
 ·have := imB_t a6 (by rw [e h, e h2]; rfl); simpa using this
 ·have := imB_t a7 (by rw [e h, e h2]; rfl); simpa using this
 ·exact of_decide_eq_true (imB_t a8 (by rcases h with h | h <;> simp [h]))
 ·have := imB_t a9 (by rw [e h2]; rcases h with h | h <;> simp [h]); simpa using this
 ·have := imB_t a14 (by rw [← jumps_op]; exact h); simpa using this
structure InsOk (c : SCase) (n : Nat) (l : Nat -> SInsn) : Prop extends OpOk c.ins where
 dst : 0 <= c.ins.dst /\ c.ins.dst < 11
 src : 0 <= c.ins.src /\ c.ins.src < 11
 ten : F_writes c.ins = true -> c.ins.dst ≠ 10
 helper : cls c.ins.op = 5 -> opc c.ins.op = 128 -> F_helper c.ins.imm = true
 off0 : F_jumps c.ins = true -> 0 <= c.ins.off
 off1 : F_jumps c.ins = true -> 1 + c.ins.off < n
theorem Prog.insok {c : SCase} (hc : PIns c.ins) {n : Nat} {l : Nat -> SInsn} (h : Prog c n l) : InsOk c n l := by
 have hw := h.okay.good 0 (by have := h.low; omega)
 have hr := h.regs
 have ho := op_ok hc.1.1 hc.1.2 h.known
 unfold badS at hw
 simp only [halfS, Bool.not_false, Bool.true_or, Bool.true_and] at hw
 unfold wrongS at hw
 simp only [Bool.or_eq_false_iff, decide_eq_false_iff_not, Bool.and_eq_false_iff] at hw
 rw [h.at0] at hw
 obtain ⟨⟨⟨⟨⟨w1, w2⟩, w3⟩, w4⟩, w5⟩, w6⟩ := hw
 refine ⟨ho, ⟨hc.2.1.1, hr.1⟩, ⟨hc.2.2.1.1, hr.2⟩, fun h hd => ?_, fun h1 h2 => ?_, fun h => ?_, fun h => ?_⟩
 ·rcases w3 with w | w
  ·rw [h] at w; cases w
  ·simp [hd] at w
 ·rcases w4 with (w | w) | w
  ·rw [ho.scls, h1] at w; simp at w
  ·rw [ho.what, h2] at w; simp at w
  ·simpa using w
 ·rcases w5 with w | w
  ·rw [h] at w; cases w
  ·omega
 ·rcases w5 with w | w
  ·rw [h] at w; cases w
  ·omega
def look0 (c : SCase) (s : SState) : SLook := mkLook (F_env c) s (F_program c).1.1 (F_program c).1.2 0
structure At0 (c : SCase) (s : SState) (x : SLook) : Prop where
 prog : Prog c (F_program c).1.1 (F_program c).1.2
 ins : InsOk c (F_program c).1.1 (F_program c).1.2
 look : LkOk x
 at0 : x.ins = c.ins
 st : x.st = s
 on : x.on = 1
 to : x.to = 1 + c.ins.off
 pc : x.pc = 0
 l : x.l = (F_program c).1.2
 cls : F_class x = Dd.cls c.ins.op
 op : F_op x = opc c.ins.op
theorem at_0 {c : SCase} (hc : CsOk c) (h : (!(F_program c).2) = false) {s : SState} (hs : RegsOk s.regs) : At0 c s (look0 c s) := by
 have hp := prog_ok hc.ins hc.second (by simpa using h)
 have e : (look0 c s).ins = c.ins := hp.at0
 have ho := hc.ins.2.2.2.1
 refine ⟨hp, hp.insok hc.ins, (look_of hc h hs).2.2, e, rfl, rfl, ?_, rfl, rfl, ?_, ?_⟩
 ·unfold SLook.to
  rw [e]
  show IntKind.i64.wrap (IntKind.i64.wrap (0 + 1) + IntKind.i64.wrap c.ins.off) = 1 + c.ins.off
  rw [i64_id (k := c.ins.off) (by omega) (by omega), i64_id (k := 0 + 1) (by omega) (by omega), i64_id (by omega) (by omega)]; omega
 ·unfold F_class Dd.cls; rw [e]
 ·unfold F_op opc; rw [e]
theorem out0 (c : SCase) (s : SState) : outsOf (F_Step (F_env c) s (F_program c).1.1 (F_program c).1.2 0) = stepT (look0 c s) := Step_eq _ _ _ _ _
def E2 (r : List SOut × Int) : Prop := (r.2 = 0) ∨ (r.2 = 7 /\ r.1 = [])
theorem eqt {a b : Int} (h : a = b) : (a == b) = true := beq_iff_eq.2 h
theorem eqf {a b : Int} (h : a ≠ b) : (a == b) = false := beq_eq_false_iff_ne.2 h
theorem net {a b : Int} (h : a ≠ b) : (a != b) = true := by simp [h]
theorem step_call {x : SLook} (hc : F_class x = 5) (h2 : F_op x = 128) : stepT x = ok1 x.on (callT x) := by
 unfold stepT
 rw [eqf (show F_class x ≠ 0 by omega), eqf (show F_class x ≠ 1 by omega), eqf (show F_class x ≠ 2 by omega), eqf (show F_class x ≠ 3 by omega), eqf (show F_class x ≠ 4 by omega), eqf (show F_class x ≠ 7 by omega), eqf (show F_op x ≠ 0 by omega), eqf (show F_op x ≠ 144 by omega), eqt h2]; rfl
theorem step_exit {x : SLook} (hc : F_class x = 5 ∨ F_class x = 6) (h2 : F_op x = 144) : stepT x = ([], bif (x.st.regs 0).kind != 1 then 7 else 0) := by
 unfold stepT
 rw [eqf (show F_class x ≠ 0 by omega), eqf (show F_class x ≠ 1 by omega), eqf (show F_class x ≠ 2 by omega), eqf (show F_class x ≠ 3 by omega), eqf (show F_class x ≠ 4 by omega), eqf (show F_class x ≠ 7 by omega), eqf (show F_op x ≠ 0 by omega), eqt h2]; rfl
abbrev stO (c : SCase) (s : SState) : Outs := outC F_Step F_env F_program c s
structure Told (c : SCase) (s : SState) (l : List SOut) (e : Int) : Prop where
 err : (stO c s).2 = e
 len : (stO c s).1.1 = l.length
 outs : ∀ i, i < l.length -> l[i]? = some ((stO c s).1.2 i)
theorem told_of {c : SCase} {s : SState} {l : List SOut} {e : Int} (h : stepT (look0 c s) = (l, e)) : Told c s l e := by
 have o := out0 c s
 rw [h] at o
 have h2 : (stO c s).2 = e := congrArg Prod.snd o
 have hl : (outsOf (stO c s)).1 = l := congrArg Prod.fst o
 have h1 : (stO c s).1.1 = l.length := by rw [← hl, outs_len]
 exact ⟨h2, h1, fun i hi => by rw [← hl]; exact outs_at _ (by omega)⟩
theorem Told.at {c : SCase} {s : SState} {l : List SOut} {e : Int} (h : Told c s l e) {i : Nat} {o : SOut} (ho : l[i]? = some o) : (stO c s).1.2 i = o := by
 have hi : i < l.length := (List.getElem?_eq_some_iff.1 ho).1
 have := h.outs i hi
 rw [ho] at this
 exact (Option.some.inj this).symm
theorem veq38 (r : SReg) : veqB (v38 r) (v38 r) = true := by simp [v38, v36, veqB, veqsB]
theorem veq40 (f : Nat -> Bool) : veqB (v40 f) (v40 f) = true := by simp [v40, veqB]
theorem calls_told {c : SCase} {s : SState} {x : SLook} (h : At0 c s x) (h5 : cls c.ins.op = 5) (h8 : opc c.ins.op = 128) : stepT x = ok1 1 (callT x) := by
 rw [step_call (by rw [h.cls, h5]) (by rw [h.op, h8]), h.on]
theorem call_kind (x : SLook) (h : (callT x).1 = true) : ∃ r, callT x = (true, forget x r) /\ (r.kind = 6 /\ x.ins.imm = 1 ∨ r.kind = 1 /\ x.ins.imm ≠ 1) := by
 unfold callT at *
 by_cases m1 : x.ins.imm = 1
 ·rw [eqt m1, cond_true] at *; exact ⟨_, Prod.ext h rfl, .inl ⟨rfl, m1⟩⟩
 ·rw [eqf m1, cond_false] at *
  by_cases m2 : x.ins.imm = 2
  ·rw [eqt m2, cond_true] at *; exact ⟨_, Prod.ext h rfl, .inr ⟨rfl, m1⟩⟩
  ·rw [eqf m2, cond_false] at *
   by_cases m3 : x.ins.imm = 3
   ·rw [eqt m3, cond_true] at *; exact ⟨_, Prod.ext h rfl, .inr ⟨rfl, m1⟩⟩
   ·rw [eqf m3, cond_false] at *
    by_cases m5 : x.ins.imm = 5
    ·rw [eqt m5, cond_true] at *; exact ⟨_, Prod.ext h rfl, .inr ⟨rfl, m1⟩⟩
    ·rw [eqf m5, cond_false] at *
     by_cases m7 : x.ins.imm = 7
     ·rw [eqt m7, cond_true] at *; exact ⟨_, Prod.ext h rfl, .inr ⟨rfl, m1⟩⟩
     ·rw [eqf m7, cond_false] at *
      by_cases m9 : x.ins.imm = 9
      ·rw [eqt m9, cond_true] at *; exact ⟨_, Prod.ext h rfl, .inr ⟨rfl, m1⟩⟩
      ·rw [eqf m9, cond_false] at *; cases h
theorem calls_true {c : SCase} (hc : CsOk c) : F_StepCalls c = true := by
 unfold F_StepCalls
 have hcc := CsOk.with hc (callI_ok hc)
 cases hp : !(F_program (insC c (callI c))).2
 ·have h0 := at_0 hcc hp (s := F_state c.nr c.regs c.ns c.stack) (state_ok hc.raws _ _)
  have e := calls_told h0 (show cls 133 = 5 by decide +kernel) (show opc 133 = 128 by decide +kernel)
  rw [cond_false]
  cases ho : (callT (look0 (insC c (callI c)) (F_state c.nr c.regs c.ns c.stack))).1
  ·have hT : stepT (look0 (insC c (callI c)) (F_state c.nr c.regs c.ns c.stack)) = ([], 7) := by rw [e]; unfold ok1; rw [ho]; rfl
   have T := told_of hT
   rw [T.err, T.len, shown_true]; rfl
  ·obtain ⟨r, hr, hk⟩ := call_kind _ ho
   have hT : stepT (look0 (insC c (callI c)) (F_state c.nr c.regs c.ns c.stack)) = ([⟨1, forget (look0 (insC c (callI c)) (F_state c.nr c.regs c.ns c.stack)) r⟩], 0) := by rw [e, hr]; rfl
   have T := told_of hT
   have ha := T.at (i := 0) rfl
   rw [T.err, T.len, ha, shown_true]
   have hi : (look0 (insC c (callI c)) (F_state c.nr c.regs c.ns c.stack)).ins.imm = c.ins.imm := by rw [h0.at0]
   rw [hi] at hk
   generalize hq : look0 (insC c (callI c)) (F_state c.nr c.regs c.ns c.stack) = x at *
   have hst : x.st = F_state c.nr c.regs c.ns c.stack := by rw [← hq]; rfl
   have g : ∀ k, 6 <= k -> (forget x r).regs k = (F_state c.nr c.regs c.ns c.stack).regs k := fun k hk => by
    rw [← hst]
    unfold forget
    simp only [updF_at]
    rw [if_neg (by omega), if_neg (by omega), if_neg (by omega), if_neg (by omega), if_neg (by omega), if_neg (by omega)]
   have z : v38 zR = zV := rfl
   rw [show (forget x r).stack = (F_state c.nr c.regs c.ns c.stack).stack by rw [← hst]; rfl, show (forget x r).regs 0 = r from rfl, show (forget x r).regs 1 = zR from rfl, show (forget x r).regs 2 = zR from rfl, show (forget x r).regs 3 = zR from rfl, show (forget x r).regs 4 = zR from rfl, show (forget x r).regs 5 = zR from rfl,
    g 6 (by omega), g 7 (by omega), g 8 (by omega), g 9 (by omega), g 10 (by omega), ← z]
   simp only [veq38, veq40, Bool.not_true, cond_false, cond_true]
   rcases hk with ⟨k1, k2⟩ | ⟨k1, k2⟩
   ·rw [k1, k2]; rfl
   ·rw [k1, eqf k2, net k2]; rfl
 ·rw [cond_true]; exact shown_true
open Go.ChangeShapes Go.WideShapes
theorem pIns_wf {a b c d e : Int} (w0 : (Lit.int .u8 a).wf = true) (w1 : (Lit.int .u8 b).wf = true) (w2 : (Lit.int .u8 c).wf = true) (w3 : (Lit.int .i16 d).wf = true) (w4 : (Lit.int .i32 e).wf = true) : PIns ⟨a, b, c, d, e⟩ := by
 simp [Lit.wf, IntKind.min, IntKind.max, IntKind.signed, IntKind.bits] at w0 w1 w2 w3 w4
 unfold PIns
 simp only
 omega
theorem u64_wf {a : Int} (w : (Lit.int .u64 a).wf = true) : 0 <= a /\ a < 18446744073709551616 := by
 simp [Lit.wf, IntKind.min, IntKind.max, IntKind.signed, IntKind.bits] at w
 omega
theorem elemIns {H : Type} {enc : TypeId × Value -> H} {W : World} {sp : Nat -> Bool} {held : Bool} {base : Nat} (n : Nat) (cs : List Value) (x : DataW H × List MemPlace) (hn : cs.length = Try.prog.cellsOf 24) (hf : DataW.trod enc Try.prog W base sp held n 24 cs = some x) : ∃ a, cs = cl rho0 (v24 a) /\ PIns a := by
 obtain ⟨fuel, hf⟩ := trod_fields Try.underlying24 hn hf
 have e24 : Try.prog.cellsOf 24 = 5 := by kernel_rfl
 rw [e24] at hn
 have e5 : Try.prog.cellsOf 5 = 1 := by kernel_rfl
 have e21 : Try.prog.cellsOf 21 = 1 := by kernel_rfl
 have e22 : Try.prog.cellsOf 22 = 1 := by kernel_rfl
 simp only [List.mem_cons, forall_eq_or_imp, List.not_mem_nil, false_imp_iff, implies_true, and_true, e5, e21, e22] at hf
 obtain ⟨⟨x0, h0⟩, ⟨x1, h1⟩, ⟨x2, h2⟩, ⟨x3, h3⟩, ⟨x4, h4⟩⟩ := hf
 obtain ⟨c0, c1, c2, c3, c4, rfl⟩ : ∃ c0 c1 c2 c3 c4, cs = [c0, c1, c2, c3, c4] := by
  match cs, hn with
  | [c0, c1, c2, c3, c4], _ => exact ⟨c0, c1, c2, c3, c4, rfl⟩
 obtain ⟨n0, g0, _, w0⟩ := DataW.trod_int Try.underlying5 h0
 obtain ⟨n1, g1, _, w1⟩ := DataW.trod_int Try.underlying5 h1
 obtain ⟨n2, g2, _, w2⟩ := DataW.trod_int Try.underlying5 h2
 obtain ⟨n3, g3, _, w3⟩ := DataW.trod_int Try.underlying22 h3
 obtain ⟨n4, g4, _, w4⟩ := DataW.trod_int Try.underlying21 h4
 simp at g0 g1 g2 g3 g4
 subst g0 g1 g2 g3 g4
 exact ⟨⟨n0, n1, n2, n3, n4⟩, rfl, pIns_wf w0 w1 w2 w3 w4⟩
theorem elemRaw {H : Type} {enc : TypeId × Value -> H} {W : World} {sp : Nat -> Bool} {held : Bool} {base : Nat} (n : Nat) (cs : List Value) (x : DataW H × List MemPlace) (hn : cs.length = Try.prog.cellsOf 76) (hf : DataW.trod enc Try.prog W base sp held n 76 cs = some x) : ∃ a, cs = cl rho0 (v76 a) /\ RawOk a := by
 obtain ⟨fuel, hf⟩ := trod_fields Try.underlying76 hn hf
 have e76 : Try.prog.cellsOf 76 = 6 := by kernel_rfl
 rw [e76] at hn
 have e3 : Try.prog.cellsOf 3 = 1 := by kernel_rfl
 have e34 : Try.prog.cellsOf 34 = 1 := by kernel_rfl
 simp only [List.mem_cons, forall_eq_or_imp, List.not_mem_nil, false_imp_iff, implies_true, and_true, e3, e34] at hf
 obtain ⟨⟨x0, h0⟩, ⟨x1, h1⟩, ⟨x2, h2⟩, ⟨x3, h3⟩, ⟨x4, h4⟩, ⟨x5, h5⟩⟩ := hf
 obtain ⟨c0, c1, c2, c3, c4, c5, rfl⟩ : ∃ c0 c1 c2 c3 c4 c5, cs = [c0, c1, c2, c3, c4, c5] := by
  match cs, hn with
  | [c0, c1, c2, c3, c4, c5], _ => exact ⟨c0, c1, c2, c3, c4, c5, rfl⟩
 obtain ⟨n0, g0, _, w0⟩ := DataW.trod_int Try.underlying3 h0
 obtain ⟨n1, g1, _, w1⟩ := DataW.trod_int Try.underlying3 h1
 obtain ⟨n2, g2, _, w2⟩ := DataW.trod_int Try.underlying3 h2
 obtain ⟨n3, g3, _, w3⟩ := DataW.trod_int Try.underlying3 h3
 obtain ⟨n4, g4, _, w4⟩ := DataW.trod_int Try.underlying34 h4
 obtain ⟨n5, g5, _, w5⟩ := DataW.trod_int Try.underlying34 h5
 simp at g0 g1 g2 g3 g4 g5
 subst g0 g1 g2 g3 g4 g5
 exact ⟨⟨n0, n1, n2, n3, n4, n5⟩, rfl, ⟨u64_wf w4, u64_wf w5⟩⟩
theorem elemMap {H : Type} {enc : TypeId × Value -> H} {W : World} {sp : Nat -> Bool} {held : Bool} {base : Nat} (n : Nat) (cs : List Value) (x : DataW H × List MemPlace) (hn : cs.length = Try.prog.cellsOf 73) (hf : DataW.trod enc Try.prog W base sp held n 73 cs = some x) : ∃ a, cs = cl rho0 (v73 a) /\ (fun _ : SMap => True) a := by
 obtain ⟨fuel, hf⟩ := trod_fields Try.underlying73 hn hf
 have e73 : Try.prog.cellsOf 73 = 5 := by kernel_rfl
 rw [e73] at hn
 have e3 : Try.prog.cellsOf 3 = 1 := by kernel_rfl
 have e9 : Try.prog.cellsOf 9 = 1 := by kernel_rfl
 simp only [List.mem_cons, forall_eq_or_imp, List.not_mem_nil, false_imp_iff, implies_true, and_true, e3, e9] at hf
 obtain ⟨⟨x0, h0⟩, ⟨x1, h1⟩, ⟨x2, h2⟩, ⟨x3, h3⟩, ⟨x4, h4⟩⟩ := hf
 obtain ⟨c0, c1, c2, c3, c4, rfl⟩ : ∃ c0 c1 c2 c3 c4, cs = [c0, c1, c2, c3, c4] := by
  match cs, hn with
  | [c0, c1, c2, c3, c4], _ => exact ⟨c0, c1, c2, c3, c4, rfl⟩
 obtain ⟨n0, g0, _, _⟩ := DataW.trod_string Try.underlying9 h0
 obtain ⟨n1, g1, _, w1⟩ := DataW.trod_int Try.underlying3 h1
 obtain ⟨n2, g2, _, w2⟩ := DataW.trod_int Try.underlying3 h2
 obtain ⟨n3, g3, _, w3⟩ := DataW.trod_int Try.underlying3 h3
 obtain ⟨n4, g4, _, w4⟩ := DataW.trod_int Try.underlying3 h4
 simp at g0 g1 g2 g3 g4
 subst g0 g1 g2 g3 g4
 exact ⟨⟨n0, n1, n2, n3, n4⟩, rfl, trivial⟩
theorem elemB {H : Type} {enc : TypeId × Value -> H} {W : World} {sp : Nat -> Bool} {held : Bool} {base : Nat} (n : Nat) (cs : List Value) (x : DataW H × List MemPlace) (hn : cs.length = Try.prog.cellsOf 4) (hf : DataW.trod enc Try.prog W base sp held n 4 cs = some x) : ∃ a : Bool, cs = cl rho0 (V.bool a) /\ (fun _ : Bool => True) a := by
 obtain ⟨b, h, _⟩ := DataW.trod_bool Try.underlying4 hf
 exact ⟨b, h, trivial⟩
theorem cl_bif (c : Bool) (x x' : Option Addr) (y z y' z' : Nat) : (bif c then Value.slice x y z else Value.slice x' y' z').cells.toList = [bif c then Value.slice x y z else Value.slice x' y' z'] := by cases c <;> rfl
theorem openC {H : Type} {enc : TypeId × Value -> H} {W : World} {held : Bool} {b0 : Nat} {v : Value} {d : DataW H} {p : List MemPlace}
 (hval : Value.okWide Try.prog W .any b0 29 v) (hd : DataW.Trod enc Try.prog W 0 (fun _ => true) held 29 v d p) :
 ∃ (a b m : View) (c : SCase), ViewOk Try.prog W a /\ ViewOk Try.prog W b /\ ViewOk Try.prog W m /\ a.t = 76 /\ a.n = c.nr /\ a.f = (fun i => v76 (c.regs i)) /\ b.t = 4 /\ b.n = c.ns /\ b.f = (fun i => V.bool (c.stack i)) /\ m.t = 73 /\ m.n = c.nm /\ m.f = (fun i => v73 (c.maps i)) /\ CsOk c /\
  ∀ l : List View, v = conc (rOf (a :: b :: m :: l)) (.agg 29 [v24 c.ins, v24 c.second, slV 0 c.nr 76, slV 1 c.ns 4, .int .i64 c.ctx, .int .i64 c.emit, slV 2 c.nm 73]) := by
 obtain ⟨cs, rfl, hn, fuel, hf⟩ := open_struct Try.underlying29 hval hd
 have ec : Try.prog.cellsOf 29 = 15 := by kernel_rfl
 rw [ec] at hn
 have e3 : Try.prog.cellsOf 3 = 1 := by kernel_rfl
 have e24 : Try.prog.cellsOf 24 = 5 := by kernel_rfl
 have e25 : Try.prog.cellsOf 25 = 1 := by kernel_rfl
 have e26 : Try.prog.cellsOf 26 = 1 := by kernel_rfl
 have e27 : Try.prog.cellsOf 27 = 1 := by kernel_rfl
 simp only [List.mem_cons, forall_eq_or_imp, List.not_mem_nil, false_imp_iff, implies_true, and_true, e3, e24, e25, e26, e27] at hf
 obtain ⟨⟨x0, h0⟩, ⟨x1, h1⟩, ⟨x2, h2⟩, ⟨x3, h3⟩, ⟨x4, h4⟩, ⟨x5, h5⟩, ⟨x6, h6⟩⟩ := hf
 obtain ⟨c0, c1, c2, c3, c4, c5, c6, c7, c8, c9, c10, c11, c12, c13, c14, rfl⟩ : ∃ c0 c1 c2 c3 c4 c5 c6 c7 c8 c9 c10 c11 c12 c13 c14, cs = [c0, c1, c2, c3, c4, c5, c6, c7, c8, c9, c10, c11, c12, c13, c14] := by
  match cs, hn with
  | [c0, c1, c2, c3, c4, c5, c6, c7, c8, c9, c10, c11, c12, c13, c14], _ => exact ⟨c0, c1, c2, c3, c4, c5, c6, c7, c8, c9, c10, c11, c12, c13, c14, rfl⟩
 obtain ⟨i1, g1, k1⟩ := elemIns _ _ _ (by rw [e24]; rfl) h0
 obtain ⟨i2, g2, k2⟩ := elemIns _ _ _ (by rw [e24]; rfl) h1
 obtain ⟨a, ga, oka, ta, fa, qa, hva⟩ := open_sliceF (e := fun x => v76 x) (Q := RawOk) Try.underlying25 (by rw [show Try.prog.cellsOf 76 = 6 from by kernel_rfl]; omega) h2 (fun n cs x => elemRaw n cs x) (fun a => fitB_fit _ _ _ (by kernel_rfl)) (fun a => wf_agg (by kernel_rfl) (by simp [Wfs, Wf])) (fun a => plain76 a)
 obtain ⟨b, gb, okb, tb, fb, qb, hvb⟩ := open_sliceF (e := fun x => V.bool x) (Q := (fun _ : Bool => True)) Try.underlying26 (by rw [show Try.prog.cellsOf 4 = 1 from by kernel_rfl]; omega) h3 (fun n cs x => elemB n cs x) (fun a => fitB_fit _ _ _ (by kernel_rfl)) (fun a => trivial) (fun a => trivial)
 obtain ⟨m, gm, okm, tm, fm, qm, hvm⟩ := open_sliceF (e := fun x => v73 x) (Q := (fun _ : SMap => True)) Try.underlying27 (by rw [show Try.prog.cellsOf 73 = 5 from by kernel_rfl]; omega) h6 (fun n cs x => elemMap n cs x) (fun a => fitB_fit _ _ _ (by kernel_rfl)) (fun a => wf_agg (by kernel_rfl) (by simp [Wfs, Wf])) (fun a => plain73 a)
 obtain ⟨n4, g4, _, w4⟩ := DataW.trod_int Try.underlying3 h4
 obtain ⟨n5, g5, _, w5⟩ := DataW.trod_int Try.underlying3 h5
 have g1 : [c0, c1, c2, c3, c4] = cl rho0 (v24 i1) := g1
 have g2 : [c5, c6, c7, c8, c9] = cl rho0 (v24 i2) := g2
 have za : [c10] = _ := hva
 have zb : [c11] = _ := hvb
 have z4 : [c12] = _ := g4
 have z5 : [c13] = _ := g5
 have zm : [c14] = _ := hvm
 simp only [List.cons.injEq, and_true] at za zb zm z4 z5
 refine ⟨a, b, m, ⟨i1, i2, a.n, ga, b.n, gb, n4, n5, m.n, gm⟩, oka, okb, okm, ta, rfl, fa, tb, rfl, fb, tm, rfl, fm, ⟨k1, k2, fun i hi => qa i hi⟩, fun l => ?_⟩
 have q1 := plain_conc (ρ := rho0) (ρ' := rOf (a :: b :: m :: l)) (v24 i1) (plain24 _)
 have q2 := plain_conc (ρ := rho0) (ρ' := rOf (a :: b :: m :: l)) (v24 i2) (plain24 _)
 have e1 : cl (rOf (a :: b :: m :: l)) (v24 i1) = [c0, c1, c2, c3, c4] := by rw [g1]; unfold cl; rw [q1]
 have e2 : cl (rOf (a :: b :: m :: l)) (v24 i2) = [c5, c6, c7, c8, c9] := by rw [g2]; unfold cl; rw [q2]
 subst za zb zm z4 z5
 show _ = Value.agg (concs (rOf (a :: b :: m :: l)) _).toArray
 simp only [concs_cons]
 have f1 : cl (rOf (a :: b :: m :: l)) (slV 0 a.n 76) = [_] := cl_bif a.ν _ _ _ _ _ _
 have f2 : cl (rOf (a :: b :: m :: l)) (slV 1 b.n 4) = [_] := cl_bif b.ν _ _ _ _ _ _
 have f3 : cl (rOf (a :: b :: m :: l)) (slV 2 m.n 73) = [_] := cl_bif m.ν _ _ _ _ _ _
 rw [e1, e2, f1, f2, f3]
 rfl
end Dd
