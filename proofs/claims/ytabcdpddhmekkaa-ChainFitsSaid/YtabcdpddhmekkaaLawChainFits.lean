/- The law ChainFits returns true for every input (the arcs hold exactly if all chains fit in the period), and what it was given reads afterwards as before. Conditions: none beyond the given row's own. -/
import Derived.Test.YtabcdpddhmekkaaRows
import Derived.Test.YtabcdpddhmekkaaP23
import Derived.Test.YtabcdpddhmekkaaR
import Derived.Test.YtabcdpddhmekkaaX
import Derived.ProofKit
import Derived.OpenShut
import Derived.ShutString
import Derived.ChangeOld
import Derived.Below
import Derived.SizedLaws
set_option linter.all false
namespace Go.Proofs.Ytabcdpddhmekkaa.chainFits
open Go Go.RowKit Go.Vm Go.ChangeShapes Go.WideShapes Go.ChangeAt Go.Proofs.YtabcdpddhmekkaaW.PrintWords
theorem own : ownKnob Try.prog.godebug = none := by kernel_rfl
theorem mixed : Try.prog.follows .mixedOrders = true := by kernel_rfl
theorem laidOut : laidOutB Try.prog = true := by kernel_rfl
theorem cellsT : Try.prog.cellsOf 66 = 2 := by kernel_rfl
theorem cellsE : Try.prog.cellsOf 5 = 1 := by kernel_rfl
theorem wf_in {n : Int} (h : (Lit.int .u8 n).wf = true) : 0 ≤ n ∧ n ≤ 255 := by
  unfold Lit.wf at h
  rw [Bool.and_eq_true] at h
  have h1 := of_decide_eq_true h.1
  have h2 := of_decide_eq_true h.2
  have e1 : IntKind.u8.min = 0 := rfl
  have e2 : IntKind.u8.max = 255 := rfl
  omega
/-- An array of two, opened. -/
theorem open_two {H : Type} {enc : TypeId × Value → H} {w : World} {base : Nat} {spare : Nat → Bool} {held : Bool} {v : Value} {d : DataW H} {p : List MemPlace}
    (h : DataW.Trod enc Try.prog w base spare held 66 v d p) : ∃ x y : Int, v = .agg #[.int .u8 x, .int .u8 y] ∧ (0 ≤ x ∧ x ≤ 255) ∧ (0 ≤ y ∧ y ≤ 255) := by
  obtain ⟨fuel, hf⟩ := h
  obtain ⟨xs, n, rfl, hx, hcs, hxl, hxs⟩ := DataW.trod_array Try.underlying66 hf
  rw [cellsT] at hcs
  match xs, hxl with
  | [x0, x1], _ =>
    have h0 := hxs 0 (by omega)
    have h1 := hxs 1 (by omega)
    simp only [cellsE] at h0 h1
    generalize hc : v.cells.toList = cs at hcs h0 h1
    match cs, hcs with
    | [c0, c1], _ =>
      obtain ⟨a, ha, -, wa⟩ := DataW.trod_int Try.underlying5 h0
      obtain ⟨b, hb, -, wb⟩ := DataW.trod_int Try.underlying5 h1
      obtain rfl : c0 = .int .u8 a := by simpa using ha
      obtain rfl : c1 = .int .u8 b := by simpa using hb
      exact ⟨a, b, agg_of_cells hc, wf_in wa, wf_in wb⟩
set_option maxRecDepth 100000 in
theorem lifted (os : Os) (started : os.Started) (H : Type) (enc : TypeId × Value → H) :
    ReturnsInHanded {} Try.checked os 7 .any (Rows.chainFitsSpec.pre6 enc Try.prog Try.f7 Rows.chainFitsRow.domain false) (Rows.chainFitsSpec.post enc Try.prog Try.f7 false true false false) := by
  refine returnsInHanded_of_change_sized (C := Try.checked) own started (by kernel_rfl) Try.func7
    (ChangeSpec.witness6 (enc := enc) (C := Try.checked) false ⟨#[], #[.agg #[.slice none 0 0, .slice none 0 0, .slice none 0 0, .slice none 0 0, .slice none 0 0], .agg #[.int .u8 0, .int .u8 0], .slice none 0 0], []⟩ 12 (by kernel_rfl) (by kernel_rfl) (by kernel_rfl) (by kernel_rfl)) ?_
  intro W base args ds gs before hval0 hW hcnd hsz0 _
  have hsz : (DataW.weightsEach Try.prog (Try.f7.params.toList ++ Rows.chainFitsSpec.plain.varTypes Try.prog) (ds ++ gs)).all (· ≤ reachBytes) = true := hsz0
  have hval : ∀ (j : Nat) t v, Try.f7.params[j]? = some t → args[j]? = some v → Value.okWide Try.prog W .any base t v := hval0
  have hW' := hW
  obtain ⟨p, q, hA0, hV, rfl, hfz, hnd⟩ := hW
  have hA : DataW.TrodAll enc Try.prog W 0 (fun _ => true) true Try.f7.params.toList args.toList ds p := hA0
  rw [Try.params7] at hA hval hsz
  obtain ⟨v0, vs0, d0, ds0, p0, q0, hargs, rfl, rfl, h0, r0⟩ := trodAll_cons hA
  obtain ⟨v1, vs1, d1, ds1, p1, q1, rfl, rfl, rfl, h1, r1⟩ := trodAll_cons r0
  obtain ⟨v2, vs2, d2, ds2, p2, q2, rfl, rfl, rfl, h2, r2⟩ := trodAll_cons r1
  obtain ⟨rfl, rfl, rfl⟩ := trodAll_nil r2
  obtain rfl : args = #[v0, v1, v2] := by cases args; simp_all
  obtain ⟨rfl, rfl⟩ := trodVars_none hV
  have k0 := h0
  have lt0 : ∀ x ∈ p0, x.block < W.heap.size := by obtain ⟨m, hm⟩ := k0; exact DataW.trod_lt m _ _ _ hm
  obtain ⟨x, hK0, hW0⟩ := Opens.arg vm.opensSK h0 (vm.wts_each hsz (j := 0) (t := 26) rfl rfl)
  obtain ⟨hi, h4⟩ := vm.sk_in hW0
  have k1 := h1
  have lt1 : ∀ x ∈ p1, x.block < W.heap.size := by obtain ⟨m, hm⟩ := k1; exact DataW.trod_lt m _ _ _ hm
  obtain ⟨x1, y1, rfl, xb1, yb1⟩ := open_two h1
  have k2 := h2
  have lt2 : ∀ x ∈ p2, x.block < W.heap.size := by obtain ⟨m, hm⟩ := k2; exact DataW.trod_lt m _ _ _ hm
  obtain ⟨a2, len2, cap2, e2⟩ := okWide_slice Try.underlying22 (hval 2 22 v2 rfl rfl)
  obtain ⟨l2, g2, b2⟩ := vm.bytes_in e2 h2 (vm.wts_each hsz (j := 2) (t := 22) rfl rfl)
  clear hA0 hval0 hsz0 hsz
  refine (Calls.law vm.encOK vm.extOK vm.inpOK mixed (fun q hq => absurd hq (by show q ∉ vm.glT; simp [vm.glT])) (vm.fits_true (1300000 + (x.f4.map vm.j75).length) x.f0 (x.f1.map vm.j66) (x.f2.map vm.j66) x.f3 (x.f4.map vm.j75) x1 y1 xb1.1 xb1.2 yb1.1 yb1.2 l2 b2 h4 (by omega) (fun hf => (by have := vm.mk_ok (1299999 + (x.f4.map vm.j75).length) hi hf; rw [show 1299999 + (x.f4.map vm.j75).length + 1 = 1300000 + (x.f4.map vm.j75).length from by omega] at this; exact this))) (.cons _ _ _ _ (vm.skv_in hK0) (.cons _ _ _ _ (.agg [.int .u8 x1, .int .u8 y1] #[.int .u8 x1, .int .u8 y1] (.cons _ _ _ _ (.int _ _) (.cons _ _ _ _ (.int _ _) .nil))) (.cons _ _ _ _ g2 .nil)))).mono ?_
  rintro e W' ⟨rfl, bel⟩
  exact ⟨_, rfl, _, _, _, [], _, [], hW', trodAll_mk1 (shut_bool Try.underlying4 _), (trodAll_cons_mk (Below.trod laidOut (by kernel_rfl) (of_decide_eq_true (by kernel_rfl)) k0 bel lt0) (trodAll_cons_mk (Below.trod laidOut (by kernel_rfl) (of_decide_eq_true (by kernel_rfl)) k1 bel lt1) (trodAll_cons_mk (Below.trod laidOut (by kernel_rfl) (of_decide_eq_true (by kernel_rfl)) k2 bel lt2) trodAll_mk0))), rfl, bel.frame _, fun h => by cases h⟩
theorem over : Rows.chainFitsRow.holds Try.pinned (OpenSpec.ofChange Rows.chainFitsSpec) :=
  OpenClaim.holds_of_wide 7 Try.f7 rfl rfl rfl rfl rfl rfl rfl ⟨rfl, rfl, rfl, rfl, rfl⟩ rfl rfl rfl rfl rfl (by kernel_rfl) Try.func7 (by kernel_rfl)
    (of_decide_eq_true (by kernel_rfl)) (by unfold Func.isWrapper; first | (rw [if_pos (by decide +kernel)]; kernel_rfl) | (rw [if_neg (by decide +kernel)]; exact ⟨rfl, rfl⟩))
    (fun os started H enc _ => lifted os started H enc)
theorem proved : Rows.ChainFitsSaid := over
#print axioms proved
end Go.Proofs.Ytabcdpddhmekkaa.chainFits
namespace Go.Proofs.Ytabcdpddhmekkaa
/-- The row, under a short name, for the claim. -/
theorem chainFits_holds : Rows.ChainFitsSaid := chainFits.proved
end Go.Proofs.Ytabcdpddhmekkaa
