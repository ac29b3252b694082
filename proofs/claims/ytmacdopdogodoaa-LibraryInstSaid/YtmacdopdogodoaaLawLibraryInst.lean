/- The law LibraryInst returns true for every input, and what it was given reads afterwards as before. Conditions: none. -/
import Derived.Test.YtmacdopdogodoaaRows
import Derived.Test.YtmacdopdogodoaaP3
import Derived.Test.YtmacdopdogodoaaX
import Derived.Test.YtmacdopdogodoaaBr
import Derived.ProofKit
import Derived.OpenShut
import Derived.ShutString
import Derived.ChangeOld
import Derived.Below
import Derived.SizedLaws
set_option linter.all false
namespace Go.Proofs.Ytmacdopdogodoaa.libraryInst
open Go Go.RowKit Go.Vm Go.ChangeShapes Go.WideShapes Go.ChangeAt
theorem own : ownKnob Try.prog.godebug = none := by kernel_rfl
theorem mixed : Try.prog.follows .mixedOrders = true := by kernel_rfl
theorem laidOut : laidOutB Try.prog = true := by kernel_rfl
theorem cells51 : Try.prog.cellsOf 51 = 2 := by kernel_rfl
theorem cells5 : Try.prog.cellsOf 5 = 1 := by kernel_rfl
theorem wf_u8 {n : Int} (h : (Lit.int .u8 n).wf = true) : 0 ≤ n ∧ n ≤ 255 := by
  unfold Lit.wf at h
  rw [Bool.and_eq_true] at h
  have h1 := of_decide_eq_true h.1
  have h2 := of_decide_eq_true h.2
  have e1 : IntKind.u8.min = 0 := rfl
  have e2 : IntKind.u8.max = 255 := rfl
  omega
theorem agg_of_cells {v : Value} {c0 c1 : Value} {r : List Value} (h : v.cells.toList = c0 :: c1 :: r) : v = .agg (c0 :: c1 :: r).toArray := by
  cases v <;> simp_all [Value.cells]
  rw [← h]
/-- An array of two bytes, opened. -/
theorem open_pair {H : Type} {enc : TypeId × Value → H} {w : World} {base : Nat} {spare : Nat → Bool} {held : Bool} {v : Value} {d : DataW H} {p : List MemPlace}
    (h : DataW.Trod enc Try.prog w base spare held 51 v d p) : ∃ x y : Int, v = .agg #[.int .u8 x, .int .u8 y] ∧ (0 ≤ x ∧ x ≤ 255) ∧ (0 ≤ y ∧ y ≤ 255) := by
  obtain ⟨fuel, hf⟩ := h
  obtain ⟨xs, n, rfl, hx, hcs, hxl, hxs⟩ := DataW.trod_array Try.underlying51 hf
  rw [cells51] at hcs
  match xs, hxl with
  | [x0, x1], _ =>
    have h0 := hxs 0 (by omega)
    have h1 := hxs 1 (by omega)
    rw [cells5] at h0 h1
    generalize hc : v.cells.toList = cs at *
    match cs, hcs with
    | [c0, c1], _ =>
      obtain ⟨a, ha, -, wa⟩ := DataW.trod_int Try.underlying5 h0
      obtain ⟨b, hb, -, wb⟩ := DataW.trod_int Try.underlying5 h1
      obtain rfl : c0 = .int .u8 a := by simpa using ha
      obtain rfl : c1 = .int .u8 b := by simpa using hb
      exact ⟨a, b, agg_of_cells hc, wf_u8 wa, wf_u8 wb⟩
set_option maxRecDepth 100000 in
theorem lifted (os : Os) (started : os.Started) (H : Type) (enc : TypeId × Value → H) :
    ReturnsInHanded {} Try.checked os 8 .any (Rows.libraryInstSpec.pre6 enc Try.prog Try.f8 Rows.libraryInstRow.domain false) (Rows.libraryInstSpec.post enc Try.prog Try.f8 false true false false) := by
  refine returnsInHanded_of_change_sized (C := Try.checked) own started (by kernel_rfl) Try.func8
    (ChangeSpec.witness6 (enc := enc) (C := Try.checked) false ⟨#[], #[.int .u8 0, .agg #[.int .u8 0, .int .u8 0]], []⟩ 8 (by kernel_rfl) (by kernel_rfl) (by kernel_rfl) (by kernel_rfl)) ?_
  intro W base args ds gs before hval0 hW hcnd hsz0 _
  have hval : ∀ (j : Nat) t v, Try.f8.params[j]? = some t → args[j]? = some v → Value.okWide Try.prog W .any base t v := hval0
  have hW' := hW
  obtain ⟨p, q, hA0, hV, rfl, hfz, hnd⟩ := hW
  have hA : DataW.TrodAll enc Try.prog W 0 (fun _ => true) true Try.f8.params.toList args.toList ds p := hA0
  rw [Try.params8] at hA hval
  obtain ⟨v0, vs0, d0, ds0, p0, q0, hargs, rfl, rfl, h0, r0⟩ := trodAll_cons hA
  obtain ⟨v1, vs1, d1, ds1, p1, q1, rfl, rfl, rfl, h1, r1⟩ := trodAll_cons r0
  obtain ⟨rfl, rfl, rfl⟩ := trodAll_nil r1
  obtain rfl : args = #[v0, v1] := by cases args; simp_all
  obtain ⟨rfl, rfl⟩ := trodVars_none hV
  obtain ⟨a0, rfl, rfl, rfl, w0⟩ := open_int Try.underlying5 (hval 0 5 v0 rfl rfl) h0
  have k1 := h1
  have lt1 : ∀ x ∈ p1, x.block < W.heap.size := by obtain ⟨m, hm⟩ := k1; exact DataW.trod_lt m _ _ _ hm
  obtain ⟨x, y, rfl, ⟨x0, x1⟩, y0, y1⟩ := open_pair h1
  obtain ⟨b0, b1⟩ := wf_u8 w0
  refine (Calls.law vm.encOK vm.extOK vm.inpOK mixed (fun q hq => absurd hq (by show q ∉ vm.glT; simp [vm.glT])) (vm.inst_true a0 x y b0 b1 x0 x1 y0 y1) (.cons _ _ _ _ (.int _ _) (.cons _ _ _ _ (.agg [.int .u8 x, .int .u8 y] #[.int .u8 x, .int .u8 y] (.cons _ _ _ _ (.int _ _) (.cons _ _ _ _ (.int _ _) .nil))) .nil))).mono ?_
  rintro e W' ⟨rfl, bel⟩
  exact ⟨_, rfl, _, _, _, [], _, [], hW', trodAll_mk1 (shut_bool Try.underlying4 _), (trodAll_cons_mk (shut_int Try.underlying5 w0) (trodAll_cons_mk (Below.trod laidOut (by kernel_rfl) (of_decide_eq_true (by kernel_rfl)) k1 bel lt1) trodAll_mk0)), rfl, bel.frame _, fun h => by cases h⟩
theorem over : Rows.libraryInstRow.holds Try.pinned (OpenSpec.ofChange Rows.libraryInstSpec) :=
  OpenClaim.holds_of_wide 8 Try.f8 rfl rfl rfl rfl rfl rfl rfl ⟨rfl, rfl, rfl, rfl, rfl⟩ rfl rfl rfl rfl rfl (by kernel_rfl) Try.func8 (by kernel_rfl)
    (of_decide_eq_true (by kernel_rfl)) (by unfold Func.isWrapper; first | (rw [if_pos (by decide +kernel)]; kernel_rfl) | (rw [if_neg (by decide +kernel)]; exact ⟨rfl, rfl⟩))
    (fun os started H enc _ => lifted os started H enc)
theorem proved : Rows.LibraryInstSaid := over
#print axioms proved
end Go.Proofs.Ytmacdopdogodoaa.libraryInst
namespace Go.Proofs.Ytmacdopdogodoaa
/-- The row, under a short name, for the claim. -/
theorem libraryInst_holds : Rows.LibraryInstSaid := libraryInst.proved
end Go.Proofs.Ytmacdopdogodoaa
