import Derived.Test.YtflgegjljcpedaaDoorVm2
set_option linter.all false
namespace Go.Vm
open Go Go.RowKit
/-! ### what the caller holds, as plain values -/
section
variable {N : Nat → Type} {E : Enc N}
def oldS (w : World) : Stab := fun b _ => b < w.heap.size
theorem cell_lt {w : World} {a : Addr} {v : Value} (h : w.cell? a = some v) : a.block < w.heap.size ∧ a.spot = none := by
  unfold World.cell? at h
  cases hh : w.heap[a.block]? with
  | none => rw [hh] at h; exact absurd h (by simp)
  | some o =>
    refine ⟨(Array.getElem?_eq_some_iff.1 hh).1, ?_⟩
    rw [hh] at h
    cases o with
    | cells c e f =>
      dsimp only at h
      cases hs : a.spot with
      | none => rfl
      | some k => rw [hs] at h; exact absurd h (by simp)
    | _ => exact absurd h (by simp)
theorem Cx.old (w : World) : Cx w (Xof noRho) (oldS w) noRho w :=
  ⟨.refl _ _, fun _ _ h => h, fun _ _ _ h => absurd h (by simp [noRho]), fun _ _ _ h => absurd h (by simp [noRho]), fun _ _ _ _ _ h => absurd h (by simp [noRho])⟩
/-- A law: a call that answers yes or no. -/
theorem Calls.law {T : Tbl N} (hE : EncOK T.E) (hX : ExtOK T) (hI : InpOK T) (hm : T.P.follows .mixedOrders = true) {k : Nat} {f : FuncId} {pargs : List (PV N)} {args : Array Value} {w : World} {b : Bool} (hg : Glob T.gl w (fun _ => False)) (h : evF T k f pargs [] = some ([.bool b], [])) (ha : VRs T.E (oldS w) w noRho pargs args.toList) :
    Calls T.P f args w fun e w' => e = .returned (.bool b) ∧ Below w.heap.size w w' := by
  refine (evF_ok hE hX hI hm k f pargs [] _ h (oldS w) noRho w args (Cx.old w) (fun q hq => (hg q hq).imp fun v h => ⟨h.1, h.2.1, fun ⟨_, _, h, _⟩ => absurd h (by simp [noRho])⟩) ha (fun _ _ h => absurd h (by simp)) (fun _ _ => rfl)).mono ?_
  rintro e w' ⟨u, S', ρ', rfl, cx, _, _, hres, _⟩
  have hres : VR T.E S' w' ρ' (.bool b) u := hres
  cases hres
  refine ⟨rfl, ?_⟩
  have := cx.bel
  exact ⟨this.os, this.tape, this.output, this.size, fun k hk => this.block k hk (fun ⟨_, _, h, _⟩ => absurd h (by simp [noRho]))⟩
end
end Go.Vm
