-- What the library's function answers, as the machine asks it. Lean checks it.
import Derived.Test.YtmacdopdogodoaaVmE
import Derived.Test.YtmacdopdogodoaaShelf
set_option linter.all false
namespace Go.Proofs.Ytmacdopdogodoaa.vm
open Go Go.RowKit Go.Vm
section
variable {S : Stab} {ρ : Rho} {w w' : World}
theorem post_of {r : List (PV N)} {u : Value} (cx : Cx w (Xof ρ) S ρ w) (hn : ∀ b, ([] : Heap N).length ≤ b → ρ b = none) (hb : Below w.heap.size w w') (hr : ResR E S w' ρ r u) : CallPost E w S ρ (nbOf ([] : Heap N)) (r, []) (.returned u) w' := by
  have hn : ∀ b, ρ b = none := fun b => hn b (Nat.zero_le _)
  refine ⟨u, S, ρ, rfl, ⟨⟨hb.os, hb.tape, hb.output, hb.size, fun k hk _ => hb.block k hk⟩, fun b o h => Nat.lt_of_lt_of_le (cx.st b o h) hb.size, ?_, ?_, ?_⟩, fun b o h => ⟨h, hb.cell (cx.st b o h)⟩, fun b o h h' => absurd h h', hr, ?_, fun b hb => rfl, fun b _ => hn b⟩
  · intro b i q h; rw [hn] at h; exact absurd h (by simp)
  · intro b i q h; rw [hn] at h; exact absurd h (by simp)
  · intro b c i j q h; rw [hn] at h; exact absurd h (by simp)
  · intro b blk h; exact absurd h (by simp)
theorem inv_int {k : IntKind} {n : Int} {v : Value} (h : VR E S w ρ (.int k n) v) : v = .int k n := by
  cases h with | int => rfl
theorem inv_1 {p : PV N} {args : Array Value} (h : VRs E S w ρ [p] args.toList) : ∃ v, args = #[v] ∧ VR E S w ρ p v := by
  obtain ⟨l⟩ := args
  cases h with | cons _ v _ _ h hs => cases hs; exact ⟨v, rfl, h⟩
theorem extOK : ExtOK T := by
  intro f g hf pargs hp r hg S ρ w args cx hglob hargs hblk hfr
  have hf : extT f = some g := hf
  unfold extT at hf
  split at hf
  · -- bits.Len
    obtain rfl := Option.some.inj hf
    unfold xLen at hg
    split at hg
    · rename_i x
      by_cases hc : 0 ≤ x ∧ x ≤ 18446744073709551615
      · rw [if_pos hc] at hg
        obtain rfl := Option.some.inj hg
        obtain ⟨v, rfl, h1⟩ := inv_1 hargs
        obtain rfl := inv_int h1
        refine (Try.bits_Len x w hc.1 hc.2).mono ?_
        rintro e w' ⟨rfl, rfl⟩
        exact post_of cx hfr (Below.refl _ _) (.int _ _)
      · rw [if_neg hc] at hg; exact absurd hg (by simp)
    · exact absurd hg (by simp)
  · exact absurd hf (by simp)
theorem inpOK : InpOK T := fun f q h => absurd h (by show inpT f ≠ some q; simp [inpT])
end
end Go.Proofs.Ytmacdopdogodoaa.vm
