import Derived.Test.YtojlhbckfkpjhaaDoorRows
import Derived.Test.YtojlhbckfkpjhaaDoorX
import Derived.Test.YtojlhbckfkpjhaaDoorBr
import Derived.ProofKit
import Derived.OpenShut
import Derived.ShutString
import Derived.ChangeOld
import Derived.Below
import Derived.SizedLaws
import Derived.HandedShaped
import Derived.LaidMore
import Derived.MakeChecks
import Derived.Stop.LaidErr
import Derived.Lay
set_option linter.all false
namespace Go.Proofs.YtojlhbckfkpjhaaDoor
open Go Go.RowKit Go.Vm
theorem own : ownKnob Tryd.prog.godebug = none := by kernel_rfl
theorem laidOut : laidOutB Tryd.prog = true := by kernel_rfl
theorem mixed : Tryd.prog.follows .mixedOrders = true := by kernel_rfl
theorem gES : Tryd.prog.globalNamed "strconv.ErrSyntax" = some 2 := by kernel_rfl
theorem gER : Tryd.prog.globalNamed "strconv.ErrRange" = some 3 := by kernel_rfl
theorem gEST : (Tryd.prog.globals[2]?).map (·.type) = some 58 := by kernel_rfl
theorem gERT : (Tryd.prog.globals[3]?).map (·.type) = some 58 := by kernel_rfl
theorem g0T : (Tryd.prog.globals[0]?).map (·.type) = some 132 := by kernel_rfl
theorem cells151 : Tryd.prog.cellsOf 151 = 1 := by kernel_rfl
theorem cells9 : Tryd.prog.cellsOf 9 = 1 := by kernel_rfl
theorem star : "*" ++ "errors.errorString" = "*errors.errorString" := by decide
theorem row149 (u : TypeId) (h : Tryd.prog.typeName? 3 u = some "*errors.errorString") : u = 149 :=
  typeName_ptr_named (nm := "errors.errorString") (by rw [star]; kernel_rfl) (by kernel_rfl) (by decide) u (by rw [star]; exact h)
abbrev laidL : List (String × DataW Unit) := [("math/bits.deBruijn32tab", Rows.laid_math_bits_deBruijn32tab), ("math/bits.deBruijn64tab", Rows.laid_math_bits_deBruijn64tab), ("internal/strconv.uint64pow10", Rows.laid_internal_strconv_uint64pow10), ("unicode/utf8.acceptRanges", Rows.laid_unicode_utf8_acceptRanges), ("strconv.ErrRange", Rows.laid_strconv_ErrRange), ("strconv.ErrSyntax", Rows.laid_strconv_ErrSyntax), ("unicode/utf8.first", Rows.laid_unicode_utf8_first)]
theorem pow_is : (Rows.laid_internal_strconv_uint64pow10 : DataW Unit) = Lib.tabData .u64 Lib.pow10Tab := by kernel_rfl
theorem var_obj {W : World} {n : String} {g : Nat} {cs : Array Value} (hg : Tryd.prog.globalNamed n = some g) (h : W.var? Tryd.prog n = some cs) : ∃ t z, W.heap[g]? = some (.cells cs t z) := by
  unfold World.var? at h
  rw [hg, Option.bind_some] at h
  split at h
  · rename_i c t z hc
    injection h with h; subst h
    exact ⟨t, z, hc⟩
  · exact absurd h (by simp)
theorem cell_obj {W : World} {g : Nat} {p : Value → Prop} {v : Value} (h : W.cell? ⟨g, 0, none⟩ = some v) (hp : p v) : ∃ o, W.heap[g]? = some o ∧ cellIs p o := by
  unfold World.cell? at h
  split at h
  · rename_i c t z hc
    exact ⟨_, hc, c, t, z, v, rfl, by simpa using h, hp⟩
  · exact absurd h (by simp)
/-- What the rows list, and the world's shape, give the machine. -/
theorem glob_of_laid {W : World} (h : laidMetH Tryd.prog laidL W) (hs : W.ShapedOpen Tryd.prog) : Glob glT W (fun _ => False) := by
  rw [MakeChecks.laidMetH_plain _ _ _ (by kernel_rfl)] at h
  obtain ⟨a1, s1, h1, -, -, -⟩ := laid_sentinel h.tail.tail.tail.tail gER gERT Tryd.underlying58 row149 Tryd.underlying149 Tryd.underlying151 rfl rfl Tryd.underlying9 cells151 cells9
  obtain ⟨a2, s2, h2, -, -, -⟩ := laid_sentinel h.tail.tail.tail.tail.tail gES gEST Tryd.underlying58 row149 Tryd.underlying149 Tryd.underlying151 rfl rfl Tryd.underlying9 cells151 cells9
  have ht := h.tail.tail
  rw [pow_is] at ht
  have h0 : Lib.TabIs Tryd.prog W "internal/strconv.uint64pow10" .u64 Lib.pow10Tab := Lib.tabIs_of_head g0 g0T Tryd.underlying132 (by kernel_rfl) (by kernel_rfl) (by kernel_rfl) ht
  obtain ⟨m, hm⟩ : ∃ m, W.cell? ⟨1, 0, none⟩ = some (.int .i64 m) := Tryd.laysM145.s1_3 W hs
  intro q hq
  rcases List.mem_cons.mp hq with rfl | hq
  · obtain ⟨t, z, ho⟩ := var_obj g0 h0
    exact ⟨_, ho, ⟨t, z, rfl⟩, fun h => h⟩
  · rcases List.mem_cons.mp hq with rfl | hq
    · obtain ⟨o, ho, hc⟩ := cell_obj hm (p := fun v => ∃ m, v = .int .i64 m) ⟨m, rfl⟩
      exact ⟨o, ho, hc, fun h => h⟩
    · rcases List.mem_cons.mp hq with rfl | hq
      · obtain ⟨t, z, ho⟩ := var_obj gES h2
        exact ⟨_, ho, ⟨_, t, z, _, rfl, rfl, .inr ⟨_, _, rfl⟩⟩, fun h => h⟩
      · rcases List.mem_cons.mp hq with rfl | hq
        · obtain ⟨t, z, ho⟩ := var_obj gER h1
          exact ⟨_, ho, ⟨_, t, z, _, rfl, rfl, .inr ⟨_, _, rfl⟩⟩, fun h => h⟩
        · exact absurd hq (by simp)
/-- A world that holds what the rows list. -/
theorem laid_met (os : Os) (args : Array Value) : laidMetH Tryd.prog laidL ((World.laidAll Tryd.prog os laidL).forCall (fun _ _ => 0) ⟨#[], args, []⟩).memory := by
  rw [MakeChecks.laidMetH_plain _ _ _ (by kernel_rfl)]
  exact laidMet_laidAll _ (by kernel_rfl) (by kernel_rfl)
/-- A law whose row lists variables, in a world that has its shape. -/
theorem returns_both {H : Type} {enc : TypeId × Value → H} {a : Assume} {C : Checked} {os : Os} {f : FuncId} {fn : Func} {s : ChangeSpec} {conds : List PathCond} {apart fresh handsOn again : Bool} {X : World → Array Value → Prop}
    (hX : ∀ (w w' : World) (args : Array Value), w.heap = w'.heap → X w args → X w' args)
    (own : ownKnob C.prog.godebug = none) (started : os.Started) (noInit : C.prog.inits.idxOf? f = none) (hfn : C.prog.funcs[f]? = some fn)
    (witness : ∃ (w : World) (tape : Tape) (i : Input), w.os = os ∧ (w.forCall tape i).Shaped C.prog ∧ i.vars = [] ∧ Input.okWide C.prog (w.forCall tape i) .any w.heap.size f i ∧
      ((s.pre enc C.prog fn conds apart (w.forCall tape i).memory i.args ∧ X (w.forCall tape i).memory i.args) ∧ sizedMet enc C.prog fn (OpenSpec.ofChange s) apart (w.forCall tape i).memory i.args) ∧ a.holds C.prog (lone (Frame.enter C.prog f i.args .normal) [] (w.forCall tape i)))
    (contract : ∀ (W : World) (base : Nat) (args : Array Value) (ds gs : List (DataW H)) (before : List MemPlace),
      (∀ (j : Nat) t v, fn.params[j]? = some t → args[j]? = some v → Value.okWide C.prog W .any base t v) →
      DataW.Whole enc C.prog fn.params.toList s.vars apart W args.toList ds gs before →
      (DataW.weightsEach C.prog (fn.params.toList ++ s.plain.varTypes C.prog) (ds ++ gs)).all (· ≤ reachBytes) = true → X W args → W.ShapedOpen C.prog →
      Calls C.prog f args W fun e W' => ∃ v, e = .returned v ∧ s.post enc C.prog fn apart fresh handsOn again W args v W') :
    ReturnsInHanded a C os f .any (fun w args => (s.pre enc C.prog fn conds apart w args ∧ X w args) ∧ sizedMet enc C.prog fn (OpenSpec.ofChange s) apart w args) (s.post enc C.prog fn apart fresh handsOn again) := by
  refine returnsInHanded_of_calls own started noInit witness ?_
  intro w tape i _ hsh _ hok hpre _
  obtain ⟨_, _, _, fn', hfn', _, _, _, _, hval⟩ := hok
  obtain rfl : fn' = fn := Option.some.inj (hfn'.symm.trans hfn)
  obtain ⟨⟨⟨ds, gs, before, hw, _⟩, hx⟩, hz⟩ := hpre
  refine (contract (w.forCall tape i) w.heap.size i.args ds gs before hval (DataW.Whole.of_heap (w' := w.forCall tape i) (by rfl) hw) (hz.weights hw) (hX _ _ _ (by rfl) hx) hsh).mono fun e W' ⟨v, he, hp⟩ => ?_
  subst he
  exact ChangeSpec.post_blind hp
end Go.Proofs.YtojlhbckfkpjhaaDoor
