-- Written for this claim by programs of this session (wip/print2 in its repo: a changed printer, a shortener, a packer). Lean checks it.
import Derived.Test.YtpmlbbglekaidaaP0
namespace Go.Proofs.Ytpmlbbglekaidaa.PAll
open Go.RowKit Go.Proofs.YtpmlbbglekaidaaW.PrintWords Go.Proofs.YtpmlbbglekaidaaW.PrintLast Go.Proofs.YtpmlbbglekaidaaW.PrintMore
attribute [local go_sem] max2_int min2_int max_two min_two max_three min_three max_four min_four   -- for this text's walks alone
set_option linter.unusedVariables false
set_option linter.unusedSimpArgs false

/-! ### slices_Clone_int_int: function 48 -/
-- slices.Clone[[]int,int], by hand
def slices_Clone_int_int.f (l0 : List Int) : Option (List Int) := if l0.length ≤ 1000000 then some l0 else none
set_option maxHeartbeats 2000000 in
set_option maxRecDepth 100000 in
theorem slices_Clone_int_int.calls (A0 : Option Addr) (c0 : Nat) (l0 : List Int) (r : List Int) (w : World) (hr0 : Kd.C (Kd.int .i64) w A0 l0.length l0) (hc0 : l0.length ≤ c0) (h : slices_Clone_int_int.f l0 = some r) :
    Calls Try.prog 48 #[.slice A0 l0.length c0] w fun e w' => ∃ v0_, e = .returned (v0_) ∧ Kd.R (Kd.int .i64) 3 w' w.heap.size (fun _ => True) v0_ r ∧ Below w.heap.size w w' := by
  have H : (if l0.length ≤ 1000000 then some l0 else none) = some r := h
  clear h
  by_cases hl : l0.length ≤ 1000000
  case neg => rw [if_neg hl] at H; exact absurd H (by simp)
  rw [if_pos hl] at H
  obtain rfl : l0 = r := by simpa using H
  clear H
  replace hl := Aside0.mk hl
  have q22 : ∀ (w : World) (a : Option Addr) (n c n' c' : Nat), (Go.binOp .eql 31 (.slice a n c) (.slice none n' c')).run Try.prog w = .ok (.bool a.isNone) w := fun w a n c n' c' => Lib.run_eql_slice_nil w _ _ a n c n' c' Try.underlying31
  cases A0 with
  | none =>
    obtain rfl : l0 = [] := by
      cases l0 with
      | nil => rfl
      | cons x l => obtain ⟨ad, e, _⟩ := hr0.2.2 (by simp); cases e
    go_enter Try.func48, Try.ntmps48
    go_wp2
    go_ret
    exact ⟨_, rfl, Kd.R_nil _ _ _ _ _, Below.refl _ _⟩
  | some ad =>
    replace hr0 := Aside0.mk hr0
    go_enter Try.func48, Try.ntmps48
    have HBa : Below w.heap.size w (w.alloc (.cells #[] 3)) := (Below.refl _ w).alloc (Nat.le_refl _) _
    have RLa : Kd.R (Kd.int .i64) 3 (w.alloc (.cells #[] 3)) w.heap.size (fun _ => True) (.slice (some ⟨w.heap.size, 0, none⟩) 0 0) ([] : List Int) := ⟨fun _ _ => trivial, [], World.ownsRow_made w #[] 0 (Nat.le_refl _) (Nat.zero_le _) rfl, ⟨by simp, fun j p hj => by simp at hj⟩⟩
    have RPa : Kd.C (Kd.int .i64) (w.alloc (.cells #[] 3)) (some ad) l0.length l0 := Kd.C_below hr0.out (below_alloc (Below.refl _ _) _)
    replace RLa := Aside0.mk RLa
    replace RPa := Aside0.mk RPa
    go_wp2_with (first | ((with_reducible refine gate_builtin (b := .append) (xs := #[.tmp 5, .tmp 6]) rfl ?_); at_builtin; refine Kd.R_append_row (Value.int .i64) (0 : Int) (w0 := w) w.heap.size rfl (.tmp 5) (.tmp 6) 31 3 (.int .i64 0) 8 rfl Try.underlying31 info3 rfl (by decide) (.slice (some ⟨w.heap.size, 0, none⟩) 0 0) [] l0 (some ad) l0.length c0 (fun _ => True) rfl rfl ?aF RLa.out RPa.out HBa (below_size HBa) ?aL ?_; (case aF => exact (fun _ _ => trivial)); (case aL => have := hl.out; simp only [List.length_nil]; omega); intro v9 w9 ho hb9 hg9 hat; rw [List.nil_append] at ho; replace ho := Aside0.mk ho; replace hg9 := Aside0.mk hg9))
    go_ret
    exact ⟨_, rfl, ho.out, hb9⟩
end Go.Proofs.Ytpmlbbglekaidaa.PAll
