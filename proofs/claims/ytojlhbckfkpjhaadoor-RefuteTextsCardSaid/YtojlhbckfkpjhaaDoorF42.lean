-- Written for this claim by programs of this session (wip/print2 in its repo: a changed printer, a shortener, a packer). Lean checks it.
import Derived.Test.YtojlhbckfkpjhaaDoorP0
set_option linter.all false
namespace Go.Proofs.YtojlhbckfkpjhaaDoor.PAll
open Go.RowKit Go.Proofs.YtojlhbckfkpjhaaDoorW.PrintWords Go.Proofs.YtojlhbckfkpjhaaDoorW.PrintLast Go.Proofs.YtojlhbckfkpjhaaDoorW.PrintMore
attribute [local go_sem] max2_int min2_int max_two min_two max_three min_three max_four min_four   -- for this text's walks alone
set_option linter.unusedVariables false
set_option linter.unusedSimpArgs false

/-! ### slices_Repeat_int_int: function 42 -/
-- slices.Repeat[[]int,int] of a row of one element, by hand
theorem Rep.bits_mask (x : Int) (h0 : 0 ≤ x) (h1 : x ≤ 1000) : Go.bits .and .u64 x 4294967295 = x := by
  obtain ⟨n, rfl⟩ := Int.eq_ofNat_of_zero_le h0
  have hn : n ≤ 1000 := by omega
  have : ∀ n : Fin 1001, Go.bits .and .u64 ((n.val : Nat) : Int) 4294967295 = ((n.val : Nat) : Int) := by decide +kernel
  exact this ⟨n, by omega⟩
set_option maxHeartbeats 2000000 in
set_option maxRecDepth 100000 in
theorem Rep.mulA (n : Int) (h0 : 0 ≤ n) (h1 : n ≤ 1000) (w : World) :
    Calls Tryd.prog 77 #[.int .u64 1, .int .u64 n] w fun e w' => e = .returned (.tuple #[.int .u64 0, .int .u64 n]) ∧ Drawn0 w w' := by
  have e1 := Rep.bits_mask 1 (by decide) (by decide)
  have e2 := Rep.bits_mask n h0 h1
  have e3 := Rep.bits_mask 0 (by decide) (by decide)
  have w0 : IntKind.u64.wrap 0 = 0 := by decide
  have d1 : n / 4294967296 = 0 := by omega
  have w1 : IntKind.u64.wrap n = n := by rw [IntKind.wrap_u64]; omega
  go_enter Tryd.func77, Tryd.ntmps77
  go_wp2
  go_ret2
  exact ⟨by simp [*], by repeat (first | exact Drawn0.refl _ | apply Drawn0.step)⟩
set_option maxHeartbeats 2000000 in
set_option maxRecDepth 100000 in
theorem Rep.mul (n : Int) (h0 : 0 ≤ n) (h1 : n ≤ 1000) (w : World) :
    Calls Tryd.prog 60 #[.int .u64 1, .int .u64 n] w fun e w' => e = .returned (.tuple #[.int .u64 0, .int .u64 n]) ∧ Drawn0 w w' := by
  go_enter Tryd.func60, Tryd.ntmps60
  go_wp2_with (first | ((with_reducible refine gate_callee (f := 77) rfl ?_); refine gL_ 25 Tryd.func77 #[.int .u64 1, .int .u64 n] ?_; (with_reducible refine (Rep.mulA n h0 h1 _).mono ?_); rintro e w' ⟨rfl, ⟨nd, rfl⟩⟩; refine ⟨_, rfl, ?_⟩))
  go_ret2
  exact ⟨by first | rfl | (simp; done) | (simp [*]; done), by repeat (first | exact Drawn0.refl _ | apply Drawn0.step)⟩

theorem Rep.make {P : Program} {ops : Array Oper} {rest : List Oper} {o : Oper} {a : Act} {Q : Exit → Act → World → Prop} {W : World} (hgd : o.guard = none) {N : Tmp} (_hd : o.dst = some N) (t e : TypeId) (x y : Operand) (ho : o.op = .makeSlice t x y) (n : Nat) (hx : a.eval x = .int .i64 n) (hy : a.eval y = .int .i64 n)
    (ht : P.underlying t = some (.slice e)) (hinfo : (P.info? e).map (fun i => (i.zero, i.size, i.bytes)) = some (some (.int .i64 0), 1, 8)) (hl : n ≤ 1000)
    (h : wpList P ops Q rest (a.put o.dst (.slice (some ⟨W.heap.size, 0, none⟩) n n)) (W.alloc (.cells (List.replicate n (Value.int .i64 0)).toArray e))) : wpList P ops Q (o :: rest) a W := by
  obtain ⟨i0, hi, hzz⟩ := Option.map_eq_some_iff.1 hinfo
  simp only [Prod.mk.injEq] at hzz
  obtain ⟨hz0, hz1, hz2⟩ := hzz
  have hr := run_make (P := P) W t e i0 _ ht hi hz0 .i64 .i64 (n : Int) (n : Int) (by omega) (by omega) (by rw [hz2]; omega) (by omega)
  have hc : madeCells (Value.int .i64 0).cells (n * i0.size) = (List.replicate n (Value.int .i64 0)).toArray := by
    rw [hz1, Nat.mul_one]
    apply Array.ext
    · simp [size_madeCells]
    · intro j h1 h2
      have : ∀ j, (Value.int .i64 0).cells[j % (Value.int .i64 0).cells.size]! = Value.int .i64 0 := by
        intro j
        have : (Value.int .i64 0).cells = #[Value.int .i64 0] := rfl
        rw [this]
        simp [Nat.mod_one]
      simp [madeCells, this]
  simp only [Int.toNat_natCast, hc] at hr
  refine Kd.event_run hgd ?_ h
  simp [execOp, ho, hx, hy, hr]
theorem Rep.splice0 (x : Int) (n m : Nat) (h : m ≤ n) : splice (List.replicate n (Value.int .i64 0)) 0 (List.replicate m (Value.int .i64 x)) = List.replicate m (Value.int .i64 x) ++ List.replicate (n - m) (Value.int .i64 0) := by
  simp [splice]
theorem Rep.splice1 (x : Int) (n k m : Nat) (h : k + m ≤ n) : splice (List.replicate k (Value.int .i64 x) ++ List.replicate (n - k) (Value.int .i64 0)) k (List.replicate m (Value.int .i64 x)) = List.replicate (k + m) (Value.int .i64 x) ++ List.replicate (n - (k + m)) (Value.int .i64 0) := by
  simp only [splice, List.length_replicate]
  rw [List.take_left' (by simp), List.drop_append]
  simp only [List.drop_replicate, List.length_replicate]
  rw [show k - (k + m) = 0 by omega, show n - k - (k + m - k) = n - (k + m) by omega]
  simp only [List.replicate_zero, List.nil_append]
  rw [← List.append_assoc, List.replicate_append_replicate]
theorem Rep.cell {w : World} {g : Nat} {cur : List Value} {t : TypeId} (hg : w.heap[g]? = some (.cells cur.toArray t (0, 0))) (j : Nat) (v : Value) (h : cur[j]? = some v) : w.cell? ⟨g, j, none⟩ = some v := by
  simp [World.cell?, hg, h]
theorem Rep.get (x : Int) (k m : Nat) (j : Nat) (h : j < k) : (List.replicate k (Value.int .i64 x) ++ List.replicate m (Value.int .i64 0))[j]? = some (Value.int .i64 x) := by
  rw [List.getElem?_append_left (by simpa using h), List.getElem?_replicate, if_pos h]
theorem Rep.src (x : Int) (k m j : Nat) (v : Value) (h : (List.replicate m (Value.int .i64 x))[j]? = some v) (hm : m ≤ k) (Y : Nat) : (List.replicate k (Value.int .i64 x) ++ List.replicate Y (Value.int .i64 0))[j]? = some v := by
  rw [List.getElem?_replicate] at h
  by_cases hj : j < m
  · rw [if_pos hj] at h
    rw [Rep.get x k Y j (by omega)]
    exact h
  · rw [if_neg hj] at h
    cases h
theorem Rep.row {w : World} {g B n : Nat} {x : Int} (hg : w.heap[g]? = some (.cells (List.replicate n (Value.int .i64 x)).toArray 3 (0, 0))) (hB : B ≤ g) (hn : n ≤ 1000) : Kd.R (Kd.int .i64) 3 w B (fun _ => True) (.slice (some ⟨g, 0, none⟩) n n) (List.replicate n x) := by
  have e1 : (Kd.int .i64).sz = 1 := rfl
  refine ⟨fun _ _ => trivial, List.replicate n (Value.int .i64 x), ⟨by rw [e1]; simp, .inr ⟨g, n, _, by simp, hB, hg, by simp, ?_, by rw [e1]; simp, ?_⟩⟩, ⟨by rw [e1]; simp, fun j p hj => ?_⟩⟩
  · unfold maxLen; omega
  · rw [e1]; simp
  · rw [List.getElem?_replicate] at hj
    by_cases hjn : j < n
    · rw [if_pos hjn] at hj
      obtain rfl : x = p := by simpa using hj
      have e : (List.take (Kd.int .i64).sz (List.drop (j * (Kd.int .i64).sz) (List.replicate n (Value.int .i64 x)))) = [Value.int .i64 x] := by
        rw [e1, Nat.mul_one, List.drop_replicate, List.take_replicate, Nat.min_eq_left (by omega)]
        rfl
      rw [e]
      rfl
    · rw [if_neg hjn] at hj
      cases hj
def slices_Repeat_int_int.f (l0 : List Int) (a1 : Int) : Option (List Int) := if l0.length = 1 ∧ 0 ≤ a1 ∧ a1 ≤ 1000 then some (List.replicate a1.toNat (l0.headD 0)) else none
set_option maxHeartbeats 4000000 in
set_option maxRecDepth 100000 in
theorem slices_Repeat_int_int.calls (A0 : Option Addr) (c0 : Nat) (l0 : List Int) (a1 : Int) (r : List Int) (w : World) (hr0 : Kd.C (Kd.int .i64) w A0 l0.length l0) (hc0 : l0.length ≤ c0) (h : slices_Repeat_int_int.f l0 a1 = some r) :
    Calls Tryd.prog 42 #[.slice A0 l0.length c0, .int .i64 a1] w fun e w' => ∃ v0_, e = .returned (v0_) ∧ Kd.R (Kd.int .i64) 3 w' w.heap.size (fun _ => True) v0_ r ∧ Below w.heap.size w w' := by
  have H : (if l0.length = 1 ∧ 0 ≤ a1 ∧ a1 ≤ 1000 then some (List.replicate a1.toNat (l0.headD 0)) else none) = some r := h
  clear h
  by_cases hg : l0.length = 1 ∧ 0 ≤ a1 ∧ a1 ≤ 1000
  case neg => rw [if_neg hg] at H; exact absurd H (by simp)
  rw [if_pos hg] at H
  obtain ⟨hl, h0, h1⟩ := hg
  obtain ⟨x, rfl⟩ := List.length_eq_one_iff.1 hl
  obtain ⟨n, rfl⟩ := Int.eq_ofNat_of_zero_le h0
  obtain rfl : List.replicate n x = r := by simpa using H
  clear H
  obtain ⟨ad, rfl, hcs⟩ := hr0.2.2 (by simp)
  obtain ⟨c, _, rfl, hcell⟩ := hcs 0 x rfl
  have hx : w.cell? (ad.add 0) = some (.int .i64 x) := by simpa using hcell 0 _ rfl
  clear hcell hcs hr0 hl
  have w1 : IntKind.u64.wrap (n : Int) = n := by rw [IntKind.wrap_u64]; omega
  have w2 : IntKind.i64.wrap (n : Int) = n := by rw [IntKind.wrap_i64]; omega
  have p1 : ((n : Int) < 0) = False := eq_false (by omega)
  have p2 : ((9223372036854775807 : Int) < n) = False := eq_false (by omega)
  replace hx := Aside0.mk hx
  have hn : n ≤ 1000 := by omega
  replace hn := Aside0.mk hn
  clear h0 h1
  obtain ⟨K0, hK0⟩ : ∃ K0, K0 = List.replicate (min 1 n) (Value.int .i64 x) := ⟨_, rfl⟩
  obtain ⟨Z0, hZ0⟩ : ∃ Z0, Z0 = List.replicate n (Value.int .i64 0) := ⟨_, rfl⟩
  have hkl : K0.length = min 1 n := by rw [hK0]; simp
  have hzl : Z0.length = n := by rw [hZ0]; simp
  replace hK0 := Aside0.mk hK0
  replace hZ0 := Aside0.mk hZ0
  replace hkl := Aside0.mk hkl
  replace hzl := Aside0.mk hzl
  have copied : ∀ nd j v, K0[j]? = some v → ((w.drewN nd).alloc (.cells Z0.toArray 3)).cell? (ad.add j) = some v := by
    intro nd j v hj
    rw [hK0.out] at hj
    obtain ⟨hj1, hj2⟩ := List.getElem?_eq_some_iff.1 hj
    have hj0 : j = 0 := by simp at hj1; omega
    subst hj0
    simp only [List.getElem_replicate] at hj2
    subst hj2
    have := hx.out
    exact Lib.cell?_alloc_some _ (by simpa using this)
  have ones : ∀ v ∈ K0, v.oneCell' = true := by
    intro v hv
    rw [hK0.out] at hv
    obtain ⟨_, rfl⟩ := List.mem_replicate.1 hv
    rfl
  replace ones := Aside0.mk ones
  replace copied := Aside0.mk copied
  go_enter Tryd.func42, Tryd.ntmps42
  go_wp2_with (first | ((with_reducible refine gate_callee (f := 60) rfl ?_); refine gL_ 18 Tryd.func60 #[.int .u64 1, .int .u64 n] ?_; (with_reducible refine (Rep.mul n (by omega) (by have := hn.out; omega) _).mono ?_); rintro e w' ⟨rfl, ⟨nd, rfl⟩⟩; refine ⟨_, rfl, ?_⟩) | ((with_reducible refine gate_dst (N := 30) rfl ?_); refine Rep.make rfl (N := 30) rfl _ 3 _ _ rfl n rfl rfl Tryd.underlying35 info3 hn.out ?_; rw [← hZ0.out]) | ((with_reducible refine gate_builtin (b := .copy) (xs := #[.tmp 31, .tmp 32]) rfl ?_); refine wpList_copy_splice rfl (.tmp 31) (.tmp 32) 35 35 rfl 3 Tryd.underlying35 (by rfl) (some ⟨w.heap.size, 0, none⟩) (some ad) n n 1 c0 rfl rfl w.heap.size 0 Z0 3 ?cg K0 ?cn ?cp ?cf ?c1 w.heap.size w ?cb (Nat.le_refl _) ?_; (case cg => simp [World.alloc]); (case cn => exact hkl.out); (case cp => exact fun _ => ⟨rfl, ad, rfl, copied.out nd⟩); (case cf => have h1 := hkl.out; have h2 := hzl.out; omega); (case c1 => exact ones.out); (case cb => apply below_alloc; apply pw_below_drewN; exact Below.refl _ _); intro w3 hg3 hb3; replace hg3 := Aside0.mk hg3; replace hb3 := Aside0.mk hb3))

  go_loopg [8] n (fun kq v8 w' => ∃ (k : Nat), v8 = .int .i64 k ∧ Aside0 (k ≤ n ∧ n ≤ k + kq ∧ (n = 0 ∨ 1 ≤ k)) ∧ Aside0 (w'.heap[w.heap.size]? = some (.cells (List.replicate k (Value.int .i64 x) ++ List.replicate (n - k) (Value.int .i64 0)).toArray 3 (0, 0))) ∧ Aside0 (Below w.heap.size w w'))
  case atStart => exact ⟨K0.length, rfl, ⟨by have := hkl.out; omega⟩, ⟨by have h := hg3.out; rw [hZ0.out, hK0.out, Rep.splice0 x n _ (by omega)] at h; rw [hkl.out]; exact h⟩, hb3⟩
  case round =>
    obtain ⟨k, rfl, HI, HG, HB⟩ := hrel
    clear hg3 hb3 w1 w2 p1 p2
    by_cases hlt : (k : Int) < (n : Int)
    · obtain ⟨q, rfl⟩ : ∃ q, gk = q + 1 := ⟨gk - 1, by have := HI.out; omega⟩
      have hk1 : ((k : Int) ≤ (n : Int)) = True := eq_true (by omega)
      have hk2 : (0 ≤ (k : Int)) = True := eq_true (by omega)
      obtain ⟨m, hm⟩ : ∃ m, m = min k (n - k) := ⟨_, rfl⟩
      obtain ⟨cs, hcs⟩ : ∃ cs, cs = List.replicate m (Value.int .i64 x) := ⟨_, rfl⟩
      obtain ⟨cur, hcur⟩ : ∃ cur, cur = List.replicate k (Value.int .i64 x) ++ List.replicate (n - k) (Value.int .i64 0) := ⟨_, rfl⟩
      rw [← hcur] at HG
      have hlk : k < n := by omega
      have wk : IntKind.i64.wrap ((k : Int) + (m : Int)) = ((k + m : Nat) : Int) := by rw [IntKind.wrap_i64]; have := hn.out; omega
      have srcs : ∀ W : World, W.heap[w.heap.size]? = some (.cells cur.toArray 3 (0, 0)) → ∀ j v, cs[j]? = some v → W.cell? (Addr.add ⟨w.heap.size, 0, none⟩ j) = some v := by
        intro W hW j v hj
        rw [Addr.add_lit]
        refine Rep.cell hW _ _ ?_
        rw [hcur, Nat.zero_add]
        rw [hcs] at hj
        exact Rep.src x k m j v hj (by omega) _
      have ones2 : ∀ v ∈ cs, v.oneCell' = true := by
        intro v hv
        rw [hcs] at hv
        obtain ⟨_, rfl⟩ := List.mem_replicate.1 hv
        rfl
      have hcl : cs.length = m := by rw [hcs]; simp
      have hul : cur.length = n := by rw [hcur]; simp; omega
      replace hm := Aside0.mk hm
      replace hcs := Aside0.mk hcs
      replace hcur := Aside0.mk hcur
      replace hlk := Aside0.mk hlk
      replace srcs := Aside0.mk srcs
      replace ones2 := Aside0.mk ones2
      replace hcl := Aside0.mk hcl
      replace hul := Aside0.mk hul
      go_upto_region 9 with (fail)
      go_region_law (refine step_copy_splice rfl (.tmp 41) (.tmp 44) 35 35 rfl 3 Tryd.underlying35 (by rfl) (some ⟨w.heap.size, k, none⟩) (some ⟨w.heap.size, 0, none⟩) (n - k) (n - k) k n ?ca ?cd w.heap.size k cur 3 ?cg cs ?cn ?cp ?cf ?c1 w.heap.size w ?cb (Nat.le_refl _) ?_; (case ca => simp [Act.eval, Act.put]; intro h; have h9 := hlk.out; omega); (case cd => simp [Act.eval, Act.put]); (case cg => exact HG.out); (case cn => rw [hcl.out]; exact hm.out); (case cp => exact fun _ => ⟨rfl, _, rfl, srcs.out _ (by exact HG.out)⟩); (case cf => have h1 := hcl.out; have h2 := hul.out; have h3 := hm.out; omega); (case c1 => exact ones2.out); (case cb => repeat (first | exact HB.out | apply pw_below_drewN | apply below_drew1)); intro w3 hg3 hb3; rw [hcl.out])
      go_wp2
      go_roundg q
      case measure => exact Nat.lt_succ_self _
      case rel =>
        have hkm : ((k : Int) + (m : Int)) = ((k + m : Nat) : Int) := by omega
        refine ⟨k + m, ?_, ⟨?_⟩, ⟨?_⟩, ⟨hb3⟩⟩
        · first | exact congrArg (Value.int .i64) hkm | exact congrArg (Value.int .i64) wk
        · have h1 := hm.out; have h2 := HI.out; have h3 := hlk.out; omega
        · have h := hg3
          have h1 := hm.out
          rw [hcur.out, hcs.out, Rep.splice1 x n k m (by omega)] at h
          exact h
    · go_wp2
      go_ret
      obtain rfl : n = k := by have := HI.out; omega
      have h := HG.out
      rw [Nat.sub_self, List.replicate_zero, List.append_nil] at h
      exact ⟨_, rfl, Rep.row h (Nat.le_refl _) hn.out, HB.out⟩
end Go.Proofs.YtojlhbckfkpjhaaDoor.PAll
