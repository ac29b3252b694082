/- The law LibraryReserves returns true for every input, and what it was given reads afterwards as before. Conditions: none beyond the given row's own. -/
-- Written for this claim by a program of this session (wip/print2 in its repo), which runs a changed printer. Lean checks it.
import Derived.Test.YtmacdopdogodoaaRows
import Derived.Test.YtmacdopdogodoaaQLibraryReserves
import Derived.Test.YtmacdopdogodoaaPureLibraryReserves
import Derived.WalkKit
import Derived.ProofKit
import Derived.OpenShut
import Derived.ShutString
import Derived.ChangeOld
import Derived.Below
import Derived.SizedLaws
namespace Go.Proofs.Ytmacdopdogodoaa.libraryReserves
open Go.ChangeShapes Go.WideShapes Go.ChangeAt Go.RowKit Go.Proofs.YtmacdopdogodoaaW.PrintWords Go.Proofs.Ytmacdopdogodoaa.PAll
open Go.ChangeMaps (open_string shut_string)
set_option linter.unusedVariables false
set_option linter.unusedSimpArgs false
theorem own : ownKnob Try.prog.godebug = none := by kernel_rfl
theorem laidOut : laidOutB Try.prog = true := by kernel_rfl
set_option maxRecDepth 100000 in
theorem lifted (os : Os) (started : os.Started) (H : Type) (enc : TypeId × Value → H) :
    ReturnsInHanded {} Try.checked os 7 .any (Rows.libraryReservesSpec.pre6 enc Try.prog Try.f7 Rows.libraryReservesRow.domain false) (Rows.libraryReservesSpec.post enc Try.prog Try.f7 false true false false) := by
  refine returnsInHanded_of_change_sized (C := Try.checked) own started (by kernel_rfl) Try.func7
    (ChangeSpec.witness6 (enc := enc) (C := Try.checked) false ⟨#[], #[.agg #[.string ByteArray.empty, .slice none 0 0, .slice none 0 0, .slice none 0 0, .slice none 0 0, .slice none 0 0], .int .i64 0], []⟩ 12 (by kernel_rfl) (by kernel_rfl) (by kernel_rfl) (by kernel_rfl)) ?_
  intro W base args ds gs before hval0 hW hcnd hsz0 _
  have hsz : (DataW.weightsEach Try.prog (Try.f7.params.toList ++ Rows.libraryReservesSpec.plain.varTypes Try.prog) (ds ++ gs)).all (· ≤ reachBytes) = true := hsz0
  have hval : ∀ (j : Nat) t v, Try.f7.params[j]? = some t → args[j]? = some v → Value.okWide Try.prog W .any base t v := hval0
  have hW' := hW
  obtain ⟨p, q, hA0, hV, rfl, hfz, hnd⟩ := hW
  have hA : DataW.TrodAll enc Try.prog W 0 (fun _ => true) true Try.f7.params.toList args.toList ds p := hA0
  rw [Try.params7] at hA hval hsz
  obtain ⟨v0, vs0, d0, ds0, p0, q0, hargs, rfl, rfl, h0, r0⟩ := trodAll_cons hA
  obtain ⟨v1, vs1, d1, ds1, p1, q1, rfl, rfl, rfl, h1, r1⟩ := trodAll_cons r0
  obtain ⟨rfl, rfl, rfl⟩ := trodAll_nil r1
  obtain rfl : args = #[v0, v1] := by cases args; simp_all
  obtain ⟨rfl, rfl⟩ := trodVars_none hV
  have k0 := h0
  have lt0 : ∀ x ∈ p0, x.block < W.heap.size := by obtain ⟨m, hm⟩ := k0; exact DataW.trod_lt m _ _ _ hm
  obtain ⟨x0, hK0, hW0⟩ := Opens.arg opens45 h0 (wts_each hsz (j := 0) (t := 45) rfl rfl)
  obtain ⟨cs0, hcs0⟩ : ∃ cs, v0.cells.toList = cs := ⟨_, rfl⟩
  rw [hcs0] at hK0
  obtain ⟨_, _, rfl, rfl, ⟨_, _, rfl, ⟨A0_1, c0_1, rfl, hl0_1, hC0_1⟩, ⟨_, _, rfl, ⟨A0_2, c0_2, rfl, hl0_2, hC0_2⟩, ⟨_, _, rfl, ⟨A0_3, c0_3, rfl, hl0_3, hC0_3⟩, ⟨_, _, rfl, ⟨A0_4, c0_4, rfl, hl0_4, hC0_4⟩, ⟨A0_5, c0_5, rfl, hl0_5, hC0_5⟩⟩⟩⟩⟩⟩ := hK0
  simp only [List.cons_append, List.nil_append, List.append_assoc] at hcs0
  obtain rfl := agg_of_cells hcs0
  obtain ⟨a1, rfl, rfl, rfl, hW1⟩ := open_int Try.underlying3 (hval 1 3 v1 rfl rfl) h1
  clear hA0 hval0 hsz0 hsz
  obtain ⟨k, hp⟩ := Pure.LibraryReserves x0 a1 hW0 hW1
  refine (jacquardlaw27_LibraryReserves.calls k x0.f0 _ _ x0.f1 _ _ x0.f2 _ _ x0.f3 _ _ x0.f4 _ _ x0.f5 a1 true W hC0_1 hl0_1 hC0_2 hl0_2 hC0_3 hl0_3 hC0_4 hl0_4 hC0_5 hl0_5 hp rfl).mono ?_
  rintro e W' ⟨rfl, bel0⟩
  have bel : Below W.heap.size W W' := bel0
  exact ⟨_, rfl, _, _, _, [], _, [], hW', trodAll_mk1 (shut_bool Try.underlying4 _), (trodAll_cons_mk (Below.trod laidOut (by kernel_rfl) (of_decide_eq_true (by kernel_rfl)) k0 bel lt0) (trodAll_cons_mk (shut_int Try.underlying3 hW1) trodAll_mk0)), rfl, bel.frame _, fun h => by cases h⟩
theorem over : Rows.libraryReservesRow.holds Try.pinned (OpenSpec.ofChange Rows.libraryReservesSpec) :=
  OpenClaim.holds_of_wide 7 Try.f7 rfl rfl rfl rfl rfl rfl rfl ⟨rfl, rfl, rfl, rfl, rfl⟩ rfl rfl rfl rfl rfl (by kernel_rfl) Try.func7 (by kernel_rfl)
    (of_decide_eq_true (by kernel_rfl)) (by unfold Func.isWrapper; first | (rw [if_pos (by decide +kernel)]; kernel_rfl) | (rw [if_neg (by decide +kernel)]; exact ⟨rfl, rfl⟩))
    (fun os started H enc _ => lifted os started H enc)
theorem proved : Rows.LibraryReservesSaid := over
#print axioms proved
end Go.Proofs.Ytmacdopdogodoaa.libraryReserves
namespace Go.Proofs.Ytmacdopdogodoaa
/-- The row, under a short name, for the claim. -/
theorem libraryReserves_holds : Rows.LibraryReservesSaid := libraryReserves.proved
end Go.Proofs.Ytmacdopdogodoaa
