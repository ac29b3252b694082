/- The law ChainPeriods returns true for every input (a longer period has no arc that a shorter one has not), and what it was given reads afterwards as before. Conditions: none beyond the given row's own. -/
import Derived.Test.YtabcdpddhmekkaaRows
import Derived.Test.YtabcdpddhmekkaaP23
import Derived.Test.YtabcdpddhmekkaaR
import Derived.Test.YtabcdpddhmekkaaX
import Derived.ProofKit
import Derived.OpenShut
import Derived.ShutString
import Derived.ChangeOld
import Derived.Below
import Derived.SizedLaws
set_option linter.all false
namespace Go.Proofs.Ytabcdpddhmekkaa.chainPeriods
open Go Go.RowKit Go.Vm Go.ChangeShapes Go.WideShapes Go.ChangeAt Go.Proofs.YtabcdpddhmekkaaW.PrintWords
theorem own : ownKnob Try.prog.godebug = none := by kernel_rfl
theorem mixed : Try.prog.follows .mixedOrders = true := by kernel_rfl
theorem laidOut : laidOutB Try.prog = true := by kernel_rfl
theorem cellsT : Try.prog.cellsOf 68 = 2 := by kernel_rfl
theorem cellsE : Try.prog.cellsOf 57 = 1 := by kernel_rfl
theorem wf_in {n : Int} (h : (Lit.int .u16 n).wf = true) : 0 ≤ n ∧ n ≤ 65535 := by
  unfold Lit.wf at h
  rw [Bool.and_eq_true] at h
  have h1 := of_decide_eq_true h.1
  have h2 := of_decide_eq_true h.2
  have e1 : IntKind.u16.min = 0 := rfl
  have e2 : IntKind.u16.max = 65535 := rfl
  omega
/-- An array of two, opened. -/
theorem open_two {H : Type} {enc : TypeId × Value → H} {w : World} {base : Nat} {spare : Nat → Bool} {held : Bool} {v : Value} {d : DataW H} {p : List MemPlace}
    (h : DataW.Trod enc Try.prog w base spare held 68 v d p) : ∃ x y : Int, v = .agg #[.int .u16 x, .int .u16 y] ∧ (0 ≤ x ∧ x ≤ 65535) ∧ (0 ≤ y ∧ y ≤ 65535) := by
  obtain ⟨fuel, hf⟩ := h
  obtain ⟨xs, n, rfl, hx, hcs, hxl, hxs⟩ := DataW.trod_array Try.underlying68 hf
  rw [cellsT] at hcs
  match xs, hxl with
  | [x0, x1], _ =>
    have h0 := hxs 0 (by omega)
    have h1 := hxs 1 (by omega)
    simp only [cellsE] at h0 h1
    generalize hc : v.cells.toList = cs at hcs h0 h1
    match cs, hcs with
    | [c0, c1], _ =>
      obtain ⟨a, ha, -, wa⟩ := DataW.trod_int Try.underlying57 h0
      obtain ⟨b, hb, -, wb⟩ := DataW.trod_int Try.underlying57 h1
      obtain rfl : c0 = .int .u16 a := by simpa using ha
      obtain rfl : c1 = .int .u16 b := by simpa using hb
      exact ⟨a, b, agg_of_cells hc, wf_in wa, wf_in wb⟩
set_option maxRecDepth 100000 in
theorem lifted (os : Os) (started : os.Started) (H : Type) (enc : TypeId × Value → H) :
    ReturnsInHanded {} Try.checked os 8 .any (Rows.chainPeriodsSpec.pre6 enc Try.prog Try.f8 Rows.chainPeriodsRow.domain false) (Rows.chainPeriodsSpec.post enc Try.prog Try.f8 false true false false) := by
  refine returnsInHanded_of_change_sized (C := Try.checked) own started (by kernel_rfl) Try.func8
    (ChangeSpec.witness6 (enc := enc) (C := Try.checked) false ⟨#[], #[.agg #[.slice none 0 0, .slice none 0 0, .slice none 0 0, .slice none 0 0, .slice none 0 0], .int .u8 0, .agg #[.int .u16 0, .int .u16 0]], []⟩ 12 (by kernel_rfl) (by kernel_rfl) (by kernel_rfl) (by kernel_rfl)) ?_
  intro W base args ds gs before hval0 hW hcnd hsz0 _
  have hsz : (DataW.weightsEach Try.prog (Try.f8.params.toList ++ Rows.chainPeriodsSpec.plain.varTypes Try.prog) (ds ++ gs)).all (· ≤ reachBytes) = true := hsz0
  have hval : ∀ (j : Nat) t v, Try.f8.params[j]? = some t → args[j]? = some v → Value.okWide Try.prog W .any base t v := hval0
  have hW' := hW
  obtain ⟨p, q, hA0, hV, rfl, hfz, hnd⟩ := hW
  have hA : DataW.TrodAll enc Try.prog W 0 (fun _ => true) true Try.f8.params.toList args.toList ds p := hA0
  rw [Try.params8] at hA hval hsz
  obtain ⟨v0, vs0, d0, ds0, p0, q0, hargs, rfl, rfl, h0, r0⟩ := trodAll_cons hA
  obtain ⟨v1, vs1, d1, ds1, p1, q1, rfl, rfl, rfl, h1, r1⟩ := trodAll_cons r0
  obtain ⟨v2, vs2, d2, ds2, p2, q2, rfl, rfl, rfl, h2, r2⟩ := trodAll_cons r1
  obtain ⟨rfl, rfl, rfl⟩ := trodAll_nil r2
  obtain rfl : args = #[v0, v1, v2] := by cases args; simp_all
  obtain ⟨rfl, rfl⟩ := trodVars_none hV
  have k0 := h0
  have lt0 : ∀ x ∈ p0, x.block < W.heap.size := by obtain ⟨m, hm⟩ := k0; exact DataW.trod_lt m _ _ _ hm
  obtain ⟨x, hK0, hW0⟩ := Opens.arg vm.opensSK h0 (vm.wts_each hsz (j := 0) (t := 26) rfl rfl)
  obtain ⟨hi, h4⟩ := vm.sk_in hW0
  obtain ⟨a1, rfl, rfl, rfl, w1⟩ := open_int Try.underlying5 (hval 1 5 v1 rfl rfl) h1
  obtain ⟨b1, c1⟩ : vm.By a1 := vm.wf_by w1
  have k2 := h2
  have lt2 : ∀ x ∈ p2, x.block < W.heap.size := by obtain ⟨m, hm⟩ := k2; exact DataW.trod_lt m _ _ _ hm
  obtain ⟨x2, y2, rfl, xb2, yb2⟩ := open_two h2
  clear hA0 hval0 hsz0 hsz
  refine (Calls.law vm.encOK vm.extOK vm.inpOK mixed (fun q hq => absurd hq (by show q ∉ vm.glT; simp [vm.glT])) (vm.periods_true (1300000 + (x.f4.map vm.j75).length) x.f0 (x.f1.map vm.j66) (x.f2.map vm.j66) x.f3 (x.f4.map vm.j75) a1 x2 y2 b1 c1 xb2 yb2 h4 (by omega) (fun hf => (by have := vm.mk_ok (1299999 + (x.f4.map vm.j75).length) hi hf; rw [show 1299999 + (x.f4.map vm.j75).length + 1 = 1300000 + (x.f4.map vm.j75).length from by omega] at this; exact this))) (.cons _ _ _ _ (vm.skv_in hK0) (.cons _ _ _ _ (.int _ _) (.cons _ _ _ _ (.agg [.int .u16 x2, .int .u16 y2] #[.int .u16 x2, .int .u16 y2] (.cons _ _ _ _ (.int _ _) (.cons _ _ _ _ (.int _ _) .nil))) .nil)))).mono ?_
  rintro e W' ⟨rfl, bel⟩
  exact ⟨_, rfl, _, _, _, [], _, [], hW', trodAll_mk1 (shut_bool Try.underlying4 _), (trodAll_cons_mk (Below.trod laidOut (by kernel_rfl) (of_decide_eq_true (by kernel_rfl)) k0 bel lt0) (trodAll_cons_mk (shut_int Try.underlying5 w1) (trodAll_cons_mk (Below.trod laidOut (by kernel_rfl) (of_decide_eq_true (by kernel_rfl)) k2 bel lt2) trodAll_mk0))), rfl, bel.frame _, fun h => by cases h⟩
theorem over : Rows.chainPeriodsRow.holds Try.pinned (OpenSpec.ofChange Rows.chainPeriodsSpec) :=
  OpenClaim.holds_of_wide 8 Try.f8 rfl rfl rfl rfl rfl rfl rfl ⟨rfl, rfl, rfl, rfl, rfl⟩ rfl rfl rfl rfl rfl (by kernel_rfl) Try.func8 (by kernel_rfl)
    (of_decide_eq_true (by kernel_rfl)) (by unfold Func.isWrapper; first | (rw [if_pos (by decide +kernel)]; kernel_rfl) | (rw [if_neg (by decide +kernel)]; exact ⟨rfl, rfl⟩))
    (fun os started H enc _ => lifted os started H enc)
theorem proved : Rows.ChainPeriodsSaid := over
#print axioms proved
end Go.Proofs.Ytabcdpddhmekkaa.chainPeriods
namespace Go.Proofs.Ytabcdpddhmekkaa
/-- The row, under a short name, for the claim. -/
theorem chainPeriods_holds : Rows.ChainPeriodsSaid := chainPeriods.proved
end Go.Proofs.Ytabcdpddhmekkaa
