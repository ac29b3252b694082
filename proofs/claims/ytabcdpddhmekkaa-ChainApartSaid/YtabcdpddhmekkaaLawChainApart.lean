/- The law ChainApart returns true for every input (if each instruction has a cycle of its own, all chains fit in the least period), and what it was given reads afterwards as before. Conditions: none beyond the given row's own. -/
import Derived.Test.YtabcdpddhmekkaaRows
import Derived.Test.YtabcdpddhmekkaaP23
import Derived.Test.YtabcdpddhmekkaaR
import Derived.Test.YtabcdpddhmekkaaX
import Derived.ProofKit
import Derived.OpenShut
import Derived.ShutString
import Derived.ChangeOld
import Derived.Below
import Derived.SizedLaws
set_option linter.all false
namespace Go.Proofs.Ytabcdpddhmekkaa.chainApart
open Go Go.RowKit Go.Vm Go.ChangeShapes Go.WideShapes Go.ChangeAt Go.Proofs.YtabcdpddhmekkaaW.PrintWords
theorem own : ownKnob Try.prog.godebug = none := by kernel_rfl
theorem mixed : Try.prog.follows .mixedOrders = true := by kernel_rfl
theorem laidOut : laidOutB Try.prog = true := by kernel_rfl
set_option maxRecDepth 100000 in
theorem lifted (os : Os) (started : os.Started) (H : Type) (enc : TypeId × Value → H) :
    ReturnsInHanded {} Try.checked os 5 .any (Rows.chainApartSpec.pre6 enc Try.prog Try.f5 Rows.chainApartRow.domain false) (Rows.chainApartSpec.post enc Try.prog Try.f5 false true false false) := by
  refine returnsInHanded_of_change_sized (C := Try.checked) own started (by kernel_rfl) Try.func5
    (ChangeSpec.witness6 (enc := enc) (C := Try.checked) false ⟨#[], #[.agg #[.slice none 0 0, .slice none 0 0, .slice none 0 0, .slice none 0 0, .slice none 0 0], .int .u8 0], []⟩ 12 (by kernel_rfl) (by kernel_rfl) (by kernel_rfl) (by kernel_rfl)) ?_
  intro W base args ds gs before hval0 hW hcnd hsz0 _
  have hsz : (DataW.weightsEach Try.prog (Try.f5.params.toList ++ Rows.chainApartSpec.plain.varTypes Try.prog) (ds ++ gs)).all (· ≤ reachBytes) = true := hsz0
  have hval : ∀ (j : Nat) t v, Try.f5.params[j]? = some t → args[j]? = some v → Value.okWide Try.prog W .any base t v := hval0
  have hW' := hW
  obtain ⟨p, q, hA0, hV, rfl, hfz, hnd⟩ := hW
  have hA : DataW.TrodAll enc Try.prog W 0 (fun _ => true) true Try.f5.params.toList args.toList ds p := hA0
  rw [Try.params5] at hA hval hsz
  obtain ⟨v0, vs0, d0, ds0, p0, q0, hargs, rfl, rfl, h0, r0⟩ := trodAll_cons hA
  obtain ⟨v1, vs1, d1, ds1, p1, q1, rfl, rfl, rfl, h1, r1⟩ := trodAll_cons r0
  obtain ⟨rfl, rfl, rfl⟩ := trodAll_nil r1
  obtain rfl : args = #[v0, v1] := by cases args; simp_all
  obtain ⟨rfl, rfl⟩ := trodVars_none hV
  have k0 := h0
  have lt0 : ∀ x ∈ p0, x.block < W.heap.size := by obtain ⟨m, hm⟩ := k0; exact DataW.trod_lt m _ _ _ hm
  obtain ⟨x, hK0, hW0⟩ := Opens.arg vm.opensSK h0 (vm.wts_each hsz (j := 0) (t := 26) rfl rfl)
  obtain ⟨hi, h4⟩ := vm.sk_in hW0
  obtain ⟨a1, rfl, rfl, rfl, w1⟩ := open_int Try.underlying5 (hval 1 5 v1 rfl rfl) h1
  obtain ⟨b1, c1⟩ : vm.By a1 := vm.wf_by w1
  clear hA0 hval0 hsz0 hsz
  refine (Calls.law vm.encOK vm.extOK vm.inpOK mixed (fun q hq => absurd hq (by show q ∉ vm.glT; simp [vm.glT])) (vm.apart_true (1300000 + (x.f4.map vm.j75).length) x.f0 (x.f1.map vm.j66) (x.f2.map vm.j66) x.f3 (x.f4.map vm.j75) a1 b1 c1 h4 (by omega) (fun hf => (by have := vm.mk_ok (1299999 + (x.f4.map vm.j75).length) hi hf; rw [show 1299999 + (x.f4.map vm.j75).length + 1 = 1300000 + (x.f4.map vm.j75).length from by omega] at this; exact this))) (.cons _ _ _ _ (vm.skv_in hK0) (.cons _ _ _ _ (.int _ _) .nil))).mono ?_
  rintro e W' ⟨rfl, bel⟩
  exact ⟨_, rfl, _, _, _, [], _, [], hW', trodAll_mk1 (shut_bool Try.underlying4 _), (trodAll_cons_mk (Below.trod laidOut (by kernel_rfl) (of_decide_eq_true (by kernel_rfl)) k0 bel lt0) (trodAll_cons_mk (shut_int Try.underlying5 w1) trodAll_mk0)), rfl, bel.frame _, fun h => by cases h⟩
theorem over : Rows.chainApartRow.holds Try.pinned (OpenSpec.ofChange Rows.chainApartSpec) :=
  OpenClaim.holds_of_wide 5 Try.f5 rfl rfl rfl rfl rfl rfl rfl ⟨rfl, rfl, rfl, rfl, rfl⟩ rfl rfl rfl rfl rfl (by kernel_rfl) Try.func5 (by kernel_rfl)
    (of_decide_eq_true (by kernel_rfl)) (by unfold Func.isWrapper; first | (rw [if_pos (by decide +kernel)]; kernel_rfl) | (rw [if_neg (by decide +kernel)]; exact ⟨rfl, rfl⟩))
    (fun os started H enc _ => lifted os started H enc)
theorem proved : Rows.ChainApartSaid := over
#print axioms proved
end Go.Proofs.Ytabcdpddhmekkaa.chainApart
namespace Go.Proofs.Ytabcdpddhmekkaa
/-- The row, under a short name, for the claim. -/
theorem chainApart_holds : Rows.ChainApartSaid := chainApart.proved
end Go.Proofs.Ytabcdpddhmekkaa
