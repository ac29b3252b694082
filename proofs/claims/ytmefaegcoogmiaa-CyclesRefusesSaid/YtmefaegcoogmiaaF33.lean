-- Written for this claim by programs of this session (wip/print2 in its repo: a changed printer, a shortener, a packer). Lean checks it.
import Derived.Test.YtmefaegcoogmiaaP0
import Derived.Test.YtmefaegcoogmiaaF42
namespace Go.Proofs.Ytmefaegcoogmiaa.PAll
open Go.RowKit Go.Proofs.YtmefaegcoogmiaaW.PrintWords Go.Proofs.YtmefaegcoogmiaaW.PrintLast Go.Proofs.YtmefaegcoogmiaaW.PrintMore
attribute [local go_sem] max2_int min2_int max_two min_two max_three min_three max_four min_four   -- for this text's walks alone
set_option linter.unusedVariables false
set_option linter.unusedSimpArgs false

/-! ### jacquardref01_Fit: function 33 -/
def jacquardref01_Fit.f (k : Nat) (a0 : Int) (a1 : Int) : Option (Int) := (jacquardref01_Bits.f k a0 a1).bind fun t176 => ((jacquardref01_Word.f k t176).bind fun t179 => (some t179))
theorem jacquardref01_Fit.mono : ∀ a0 a1 k, LeO (jacquardref01_Fit.f k a0 a1) (jacquardref01_Fit.f (k + 1) a0 a1) := by
 intro a0 a1 k
 unfold jacquardref01_Fit.f
 repeat' first
     | (with_reducible exact jacquardref01_Bits.mono _ _ _)
     | (with_reducible exact jacquardref01_Word.mono _ _)
     | (with_reducible exact LeO.refl _)
     | (with_reducible exact LeO.none _)
     | (with_reducible refine LeO.ite ?_ ?_)
     | (with_reducible refine LeO.bind ?_ (fun _ => ?_))
     | exact jacquardref01_Bits.mono _ _ _
     | exact jacquardref01_Word.mono _ _
     | exact LeO.none _
     | refine LeO.ite ?_ ?_
     | refine LeO.bind ?_ (fun _ => ?_)
set_option maxHeartbeats 8000000 in
set_option maxRecDepth 100000 in
theorem jacquardref01_Fit.calls (k : Nat) (a0 : Int) (a1 : Int) (r : Int) (w : World) (h : jacquardref01_Fit.f k a0 a1 = some r) :
    Calls Try.prog 33 #[.int .i64 a0, .int .u64 a1] w fun e w' => e = .returned (.int .u64 r) ∧ Below w.heap.size w w' := by
 have HB := Aside0.mk (Below.refl w.heap.size w)
 have H : ((jacquardref01_Bits.f k a0 a1).bind fun t176 => ((jacquardref01_Word.f k t176).bind fun t179 => (some t179))) = some r := h
 clear h
 replace H := Option.bind_eq_some_iff.mp H
 obtain ⟨t176, A30, H⟩ := H
 replace H : ((jacquardref01_Word.f k t176).bind fun t179 => (some t179)) = some r := H
 have A3 := Aside0.mk A30
 clear A30
 replace H := Option.bind_eq_some_iff.mp H
 obtain ⟨t179, A40, H⟩ := H
 replace H : (some t179) = some r := H
 have A4 := Aside0.mk A40
 clear A40
 obtain rfl := Option.some.inj H
 go_enter Try.func33, Try.ntmps33
 go_wp2_with (first | ((with_reducible refine gate_callee (f := 43) rfl ?_); refine gL_ 7 Try.func43 #[.int .i64 a0, .int .u64 a1] ?_; (with_reducible refine (jacquardref01_Bits.calls k a0 a1 t176 _ A3.out).mono ?_); rintro e w5 ⟨v177, rfl, ho0, hb⟩; refine ⟨_, rfl, ?_⟩; have n0_ := Aside0.mk (Kd.R_lower ho0 (below_size bl_)); have n1_ := Aside0.mk (below_step bl_ hb); clear HB; have HO178 := n0_; have HB := n1_; clear n0_ n1_; (try clear hb); (try clear hb2); (try clear hk); (try clear hi); (try clear ho0); obtain ⟨Ao6, co6, eo6⟩ := Kd.R_slice HO178.out; subst eo6) | ((with_reducible refine gate_callee (f := 42) rfl ?_); refine gL_ 8 Try.func42 #[.slice Ao6 t176.length co6] ?_; (with_reducible refine (jacquardref01_Word.calls k _ _ t176 t179 _ ?side1 ?side2 A4.out).mono ?_); (case side1 => exact CR_ HO178); (case side2 => exact (Kd.R_reads' HO178.out).2.1); rintro e w' ⟨rfl, ⟨nd, rfl⟩⟩; refine ⟨_, rfl, ?_⟩))
 go_ret
 exact ⟨by first | rfl | (simp [errW_none, errW_some] <;> rfl) | (simp [*, errW_none, errW_some] <;> rfl), by repeat (first | (with_reducible first | exact HB.out | apply below_alloc | apply pw_below_drewN | apply below_drew1) | exact HB.out)⟩

/-! ### jacquardref01_IsCompare: function 34 -/
def jacquardref01_IsCompare.f (a0 : Int) : Option (Bool) := if a0 ≥ 15 then (some (decide (a0 ≤ 20))) else (some false)
set_option maxHeartbeats 8000000 in
set_option maxRecDepth 100000 in
theorem jacquardref01_IsCompare.calls (a0 : Int) (r : Bool) (w : World) (h : jacquardref01_IsCompare.f a0 = some r) :
    Calls Try.prog 34 #[.int .i64 a0] w fun e w' => e = .returned (.bool r) ∧ Drawn0 w w' := by
 have H : (if a0 ≥ 15 then (some (decide (a0 ≤ 20))) else (some false)) = some r := h
 clear h
 by_cases c2 : a0 ≥ 15
 · rw [if_pos c2] at H
   have c2b0 : decide (15 ≤ a0) = true := decide_eq_true c2
   clear c2
   obtain rfl := Option.some.inj H
   go_enter Try.func34, Try.ntmps34
   go_wp2
   go_ret
   exact ⟨by first | rfl | (simp; done) | (simp [*]; done), by repeat (first | exact Drawn0.refl _ | apply Drawn0.step)⟩
 rw [if_neg c2] at H
 have c2b0 : decide (15 ≤ a0) = false := decide_eq_false c2
 clear c2
 obtain rfl := Option.some.inj H
 go_enter Try.func34, Try.ntmps34
 go_wp2
 go_ret
 exact ⟨by first | rfl | (simp; done) | (simp [*]; done), by repeat (first | exact Drawn0.refl _ | apply Drawn0.step)⟩

-- NOT PRINTED: function 37 (jacquardref27_maker_any)

-- NOT PRINTED: function 35 (jacquardref27_maker_value)

/-! ### jacquardref01_IsBinary: function 36 -/
def jacquardref01_IsBinary.f (a0 : Int) : Option (Bool) := if a0 ≥ 2 then (some (decide (a0 ≤ 20))) else (some false)
set_option maxHeartbeats 8000000 in
set_option maxRecDepth 100000 in
theorem jacquardref01_IsBinary.calls (a0 : Int) (r : Bool) (w : World) (h : jacquardref01_IsBinary.f a0 = some r) :
    Calls Try.prog 36 #[.int .i64 a0] w fun e w' => e = .returned (.bool r) ∧ Drawn0 w w' := by
 have H : (if a0 ≥ 2 then (some (decide (a0 ≤ 20))) else (some false)) = some r := h
 clear h
 by_cases c2 : a0 ≥ 2
 · rw [if_pos c2] at H
   have c2b0 : decide (2 ≤ a0) = true := decide_eq_true c2
   clear c2
   obtain rfl := Option.some.inj H
   go_enter Try.func36, Try.ntmps36
   go_wp2
   go_ret
   exact ⟨by first | rfl | (simp; done) | (simp [*]; done), by repeat (first | exact Drawn0.refl _ | apply Drawn0.step)⟩
 rw [if_neg c2] at H
 have c2b0 : decide (2 ≤ a0) = false := decide_eq_false c2
 clear c2
 obtain rfl := Option.some.inj H
 go_enter Try.func36, Try.ntmps36
 go_wp2
 go_ret
 exact ⟨by first | rfl | (simp; done) | (simp [*]; done), by repeat (first | exact Drawn0.refl _ | apply Drawn0.step)⟩

-- NOT PRINTED: function 38 (jacquardref27_maker_stream)

-- NOT PRINTED: function 26 (jacquardref27_maker_step)

-- NOT PRINTED: function 39 (jacquardref27_maker_edge)

-- NOT PRINTED: function 27 (jacquardref27_maker_end)
end Go.Proofs.Ytmefaegcoogmiaa.PAll
