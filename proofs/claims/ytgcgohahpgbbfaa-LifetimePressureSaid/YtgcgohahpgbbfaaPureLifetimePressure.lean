/- The law LifetimePressure holds: the pressure does not fall if a life is added, is at most the number of registers, and is the number of lives that share a cycle; no condition. -/
import Derived.Test.YtgcgohahpgbbfaaQLifetimePressure
namespace Go.Proofs.Ytgcgohahpgbbfaa.Pure
open Go.RowKit Go.Proofs.Ytgcgohahpgbbfaa.PLifetimePressure Go.Proofs.YtgcgohahpgbbfaaW.PrintWords Go.Proofs.YtgcgohahpgbbfaaW.PrintLast
theorem w64 {x : Int} (h : -9223372036854775808 ≤ x) (h' : x ≤ 9223372036854775807) : wrap64 x = x := by
  unfold wrap64
  omega
theorem mulb {m n : Int} (a : 0 ≤ m) (b : m ≤ 119) (c : 0 ≤ n) (d : n ≤ 20) : 0 ≤ m * n ∧ m * n ≤ 2380 :=
  ⟨Int.mul_nonneg a c, Int.le_trans (Int.mul_le_mul b d c (by omega)) (by omega)⟩

/-! the definitions -/
def lens (l : S28) (n : Int) : Int := if n ≤ 0 then 1 else if l.f2 ≤ l.f1 then 1 else (l.f2 - l.f1) / n + 1
def okL (l : S28) : Prop := 0 ≤ l.f1 ∧ l.f1 ≤ l.f2 ∧ l.f2 ≤ 118
def spanOf (l : S28) (n : Int) (j : Nat) : S32 := ⟨l.f1 + (j : Int) * n, (if n > 0 then min l.f2 (l.f1 + (j : Int) * n + n - 1) else l.f2) - (l.f1 + (j : Int) * n) + 1⟩
def spansOf (l : S28) (n : Int) : List S32 := (List.range (lens l n).toNat).map (spanOf l n)
def spans (L : List S28) (n : Int) : List S32 := L.flatMap (fun l => spansOf l n)

theorem lens_pos (l : S28) (n : Int) (hl : okL l) : 1 ≤ lens l n ∧ lens l n ≤ 119 := by
  obtain ⟨h0, h1, h2⟩ := hl
  unfold lens
  split
  · omega
  · split
    · omega
    · have a : 0 ≤ (l.f2 - l.f1) / n := Int.ediv_nonneg (by omega) (by omega)
      have b : (l.f2 - l.f1) / n ≤ l.f2 - l.f1 := Int.ediv_le_self _ (by omega)
      omega
theorem lens_zero (l : S28) (n : Int) (hn : n ≤ 0) : lens l n = 1 := by unfold lens; rw [if_pos hn]
theorem lens_lt (l : S28) (n : Int) (hl : okL l) (hn : 0 < n) : l.f2 < l.f1 + lens l n * n := by
  obtain ⟨h0, h1, h2⟩ := hl
  unfold lens
  rw [if_neg (by omega)]
  split
  · omega
  · have := Int.lt_ediv_add_one_mul_self (l.f2 - l.f1) hn
    omega
theorem lens_le (l : S28) (n : Int) (hl : okL l) (hn : 0 < n) (m : Int) (hm : m < lens l n) : l.f1 + m * n ≤ l.f2 := by
  obtain ⟨h0, h1, h2⟩ := hl
  unfold lens at hm
  rw [if_neg (by omega)] at hm
  split at hm
  · have : m * n ≤ 0 * n := Int.mul_le_mul_of_nonneg_right (by omega) (by omega)
    omega
  · have h3 : m * n ≤ (l.f2 - l.f1) / n * n := Int.mul_le_mul_of_nonneg_right (by omega) (by omega)
    have := Int.ediv_mul_le (l.f2 - l.f1) (show n ≠ 0 by omega)
    omega
theorem prog_len (l : S28) (hl : okL l) (n : Int) (h0 : 0 ≤ n) (h1 : n ≤ 20) : lifetime_Length.f l.f0 l.f1 l.f2 n = some (lens l n) := by
  obtain ⟨a, b, c⟩ := hl
  unfold lifetime_Length.f lens
  by_cases hn : n ≤ 0
  · rw [if_pos hn, if_pos hn]
  · rw [if_neg hn, if_neg hn]
    by_cases hf : l.f2 ≤ l.f1
    · rw [if_pos hf, if_pos hf]
    · have e := Int.ediv_nonneg (show 0 ≤ l.f2 - l.f1 by omega) h0
      have e2 : (l.f2 - l.f1) / n ≤ l.f2 - l.f1 := Int.ediv_le_self _ (by omega)
      rw [if_neg hf, if_neg hf, if_neg (by omega), w64 (x := l.f2 - l.f1) (by omega) (by omega), Int.tdiv_eq_ediv_of_nonneg (by omega), w64 (x := (l.f2 - l.f1) / n) (by omega) (by omega), w64 (by omega) (by omega)]

theorem at_mem {xs : List S28} {i : Int} (h0 : 0 ≤ i) (h1 : i < xs.length) : rd_T28 xs i ∈ xs := by
  unfold rd_T28
  rw [List.getD_eq_getElem?_getD, List.getElem?_eq_getElem (show i.toNat < xs.length by omega)]
  exact List.getElem_mem _
theorem drop_at {xs : List S28} {i : Int} (h0 : 0 ≤ i) (h1 : i < xs.length) : xs.drop i.toNat = rd_T28 xs i :: xs.drop (i + 1).toNat := by
  unfold rd_T28
  rw [List.getD_eq_getElem?_getD, List.getElem?_eq_getElem (show i.toNat < xs.length by omega), show (i + 1).toNat = i.toNat + 1 by omega]
  exact List.drop_eq_getElem_cons _
theorem span_eq (l : S28) (hl : okL l) (n : Int) (h0 : 0 ≤ n) (h1 : n ≤ 20) (j : Nat) (hj : j < lens l n) :
    (n > 0 → (⟨wrap64 (l.f1 + (wrap64 (j * n))), wrap64 ((wrap64 ((mn l.f2 (wrap64 ((wrap64 ((wrap64 (l.f1 + (wrap64 (j * n)))) + n)) - 1))) - (wrap64 (l.f1 + (wrap64 (j * n)))))) + 1)⟩ : S32) = spanOf l n j) ∧
    (¬ n > 0 → (⟨wrap64 (l.f1 + (wrap64 (j * n))), wrap64 ((wrap64 (l.f2 - (wrap64 (l.f1 + (wrap64 (j * n)))))) + 1)⟩ : S32) = spanOf l n j) := by
  have hp := lens_pos l n hl
  obtain ⟨a, b, c⟩ := hl
  obtain ⟨p0, p1⟩ := mulb (m := (j : Int)) (n := n) (by omega) (by omega) h0 h1
  unfold spanOf
  generalize (j : Int) * n = p at p0 p1 ⊢
  constructor
  · intro hn
    rw [w64 (x := p) (by omega) (by omega), w64 (x := l.f1 + p) (by omega) (by omega), if_pos hn, w64 (x := l.f1 + p + n) (by omega) (by omega), w64 (x := l.f1 + p + n - 1) (by omega) (by omega)]
    have e : mn l.f2 (l.f1 + p + n - 1) = min l.f2 (l.f1 + p + n - 1) := by unfold mn; omega
    rw [e, w64 (x := min l.f2 (l.f1 + p + n - 1) - (l.f1 + p)) (by omega) (by omega), w64 (by omega) (by omega)]
  · intro hn
    rw [w64 (x := p) (by omega) (by omega), w64 (x := l.f1 + p) (by omega) (by omega), if_neg hn, w64 (x := l.f2 - (l.f1 + p)) (by omega) (by omega), w64 (by omega) (by omega)]
theorem cast_next (j : Nat) (h : j ≤ 1000000) : wrap64 ((j : Int) + 1) = ((j + 1 : Nat) : Int) := by
  rw [w64 (by omega) (by omega)]
  omega

theorem prog_inner (L : List S28) (N : Int) (i : Int) (hi : 0 ≤ i ∧ i ≤ 1000000) (l : S28) (hl : okL l) (n : Int) (h0 : 0 ≤ n) (h1 : n ≤ 20) (r : List S32) (d : Nat) : ∀ (j : Nat) (out : List S32), (j : Int) + d = lens l n → out.length + d ≤ 1000000 →
    Ev (fun k => lifetime_Spans.l0 k n (out ++ (List.range' j d).map (spanOf l n)) L N (i + 1)) r → Ev (fun k => lifetime_Spans.l1 k n out L N i (lens l n) j l.f0 l.f1 l.f2) r := by
  induction d with
  | zero =>
    intro j out hj ho h
    refine Ev.step (fun k => ?_) h
    simp only [lifetime_Spans.l1, List.range', List.map_nil, List.append_nil]
    rw [if_neg (by omega), w64 (x := i + 1) (by omega) (by omega)]
  | succ d ih =>
    intro j out hj ho h
    have hp := lens_pos l n hl
    have e := span_eq l hl n h0 h1 j (by omega)
    refine Ev.step (fun k => ?_) (ih (j + 1) (out ++ [spanOf l n j]) (by omega) (by simp; omega) (by simpa [List.range'] using h))
    simp only [lifetime_Spans.l1]
    rw [if_pos (by omega)]
    by_cases hn : n > 0
    · rw [if_pos hn, if_pos (by omega), e.1 hn, cast_next j (by omega)]
    · rw [if_neg hn, if_pos (by omega), e.2 hn, cast_next j (by omega)]

theorem spans_len (L : List S28) (hL : ∀ l ∈ L, okL l) (n : Int) : (spans L n).length ≤ L.length * 119 := by
  induction L with
  | nil => simp [spans]
  | cons l L ih =>
    have h1 := lens_pos l n (hL l (by simp))
    have h2 := ih (fun x hx => hL x (by simp [hx]))
    have e : (spans (l :: L) n).length = (lens l n).toNat + (spans L n).length := by simp [spans, spansOf]
    rw [e, List.length_cons]
    omega

theorem prog_outer (L : List S28) (hL : ∀ l ∈ L, okL l) (hN : L.length ≤ 1000) (n : Int) (h0 : 0 ≤ n) (h1 : n ≤ 20) (d : Nat) : ∀ (i : Int) (out : List S32), 0 ≤ i → i + d = L.length → out.length + d * 119 ≤ 1000000 →
    Ev (fun k => lifetime_Spans.l0 k n out L (L.length : Int) i) (out ++ spans (L.drop i.toNat) n) := by
  induction d with
  | zero =>
    intro i out hi hd ho
    have e : L.drop i.toNat = [] := List.drop_eq_nil_of_le (by omega)
    rw [e]
    refine Ev.step (f := fun _ => some out) (fun k => ?_) (by simpa [spans] using Ev.now out)
    simp only [lifetime_Spans.l0]
    rw [if_neg (by omega)]
  | succ d ih =>
    intro i out hi hd ho
    have hl := hL _ (at_mem (xs := L) (i := i) hi (by omega))
    have hp := lens_pos (rd_T28 L i) n hl
    have e : out ++ spans (L.drop i.toNat) n = (out ++ spansOf (rd_T28 L i) n) ++ spans (L.drop (i + 1).toNat) n := by
      rw [drop_at (xs := L) (i := i) hi (by omega)]
      simp [spans]
    rw [e]
    have hs : (spansOf (rd_T28 L i) n).length = (lens (rd_T28 L i) n).toNat := by simp [spansOf]
    have h := ih (i + 1) (out ++ spansOf (rd_T28 L i) n) (by omega) (by omega) (by rw [List.length_append, hs]; omega)
    have h2 := prog_inner L (L.length : Int) i ⟨hi, by omega⟩ (rd_T28 L i) hl n h0 h1 _ (lens (rd_T28 L i) n).toNat 0 out (by omega) (by omega) (by rw [← List.range_eq_range']; exact h)
    refine Ev.step (fun k => ?_) h2
    simp only [lifetime_Spans.l0]
    rw [if_pos (by omega), if_pos hi, if_pos (by omega), prog_len _ hl n h0 h1]
    rfl
theorem prog_spans (L : List S28) (hL : ∀ l ∈ L, okL l) (hN : L.length ≤ 1000) (n : Int) (h0 : 0 ≤ n) (h1 : n ≤ 20) : Ev (fun k => lifetime_Spans.f k L n) (spans L n) := by
  have h := prog_outer L hL hN n h0 h1 L.length 0 [] (by omega) (by omega) (by simp; omega)
  refine Ev.congr (f := fun k => lifetime_Spans.l0 k n [] L (L.length : Int) 0) (fun _ => rfl) ?_
  simpa using h

/-! the pressure -/
def dd (n z : Int) : Int := if n > 0 then z % n else z
def hit (n s : Int) (y : S32) : Bool := decide (0 ≤ dd n (s - y.f0) ∧ dd n (s - y.f0) < y.f1)
def cnt (n : Int) (S : List S32) (s : Int) : Int := (S.countP (hit n s) : Int)
def most (n : Int) (S T : List S32) (m : Int) : Int := T.foldl (fun m x => max m (cnt n S x.f0)) m
def okS (y : S32) : Prop := 0 ≤ y.f0 ∧ y.f0 ≤ 10000 ∧ 1 ≤ y.f1 ∧ y.f1 ≤ 10000

theorem tm (a n : Int) (hn : 0 < n) : Int.tmod (Int.tmod a n + n) n = a % n := by
  have h1 : 0 ≤ Int.tmod a n + n := by
    rcases Int.le_total 0 a with h | h
    · have := Int.tmod_nonneg n h
      omega
    · have := Int.lt_tmod_of_pos a hn
      omega
  rw [Int.tmod_eq_emod_of_nonneg h1, Int.add_emod_right, Int.tmod_def]
  rw [Int.sub_emod, Int.mul_emod_right]
  simp
theorem tm_bounds (a n : Int) (hn : 0 < n) (h20 : n ≤ 20) : -20 ≤ Int.tmod a n ∧ Int.tmod a n ≤ 20 := by
  have h1 := Int.lt_tmod_of_pos a hn
  have h2 := Int.tmod_lt_of_pos a hn
  omega
theorem foldl_le {α : Type} (f : α → Int) (B : Int) : ∀ (l : List α) (m : Int), m ≤ B → (∀ x ∈ l, f x ≤ B) → l.foldl (fun m x => max m (f x)) m ≤ B
  | [], m, hm, _ => hm
  | x :: l, m, hm, hl => by
    have := hl x (by simp)
    exact foldl_le f B l _ (by show max m (f x) ≤ B; omega) (fun y hy => hl y (by simp [hy]))
theorem le_foldl0 {α : Type} (f : α → Int) : ∀ (l : List α) (m : Int), m ≤ l.foldl (fun m x => max m (f x)) m
  | [], m => Int.le_refl _
  | x :: l, m => by
    have := le_foldl0 f l (max m (f x))
    simp only [List.foldl_cons]
    omega
theorem le_foldl {α : Type} (f : α → Int) : ∀ (l : List α) (m : Int) (x : α), x ∈ l → f x ≤ l.foldl (fun m x => max m (f x)) m
  | y :: l, m, x, hx => by
    simp only [List.foldl_cons]
    rcases List.mem_cons.1 hx with rfl | hx
    · have := le_foldl0 f l (max m (f x))
      omega
    · exact le_foldl f l _ x hx
/-- Among the spans that are hit, one begins last. -/
theorem last_begin (n s : Int) : ∀ (S : List S32), (∃ y ∈ S, hit n s y = true) → ∃ y ∈ S, hit n s y = true ∧ ∀ z ∈ S, hit n s z = true → dd n (s - y.f0) ≤ dd n (s - z.f0)
  | [], ⟨y, hy, _⟩ => by cases hy
  | x :: S, _h => by
    by_cases hS : ∃ y ∈ S, hit n s y = true
    · obtain ⟨y, hy, h1, h2⟩ := last_begin n s S hS
      by_cases hx : hit n s x = true
      · by_cases hc : dd n (s - y.f0) ≤ dd n (s - x.f0)
        · refine ⟨y, by simp [hy], h1, fun z hz hh => ?_⟩
          rcases List.mem_cons.1 hz with rfl | hz
          · exact hc
          · exact h2 z hz hh
        · refine ⟨x, by simp, hx, fun z hz hh => ?_⟩
          rcases List.mem_cons.1 hz with rfl | hz
          · omega
          · have := h2 z hz hh
            omega
      · refine ⟨y, by simp [hy], h1, fun z hz hh => ?_⟩
        rcases List.mem_cons.1 hz with rfl | hz
        · exact absurd hh hx
        · exact h2 z hz hh
    · obtain ⟨y, hy, h1⟩ := _h
      rcases List.mem_cons.1 hy with rfl | hy
      · refine ⟨y, by simp, h1, fun z hz hh => ?_⟩
        rcases List.mem_cons.1 hz with rfl | hz
        · omega
        · exact absurd ⟨z, hz, hh⟩ hS
      · exact absurd ⟨y, hy, h1⟩ hS
theorem dd_sub (n s a b : Int) (_ha : 0 ≤ dd n (s - a)) (h : dd n (s - a) ≤ dd n (s - b)) : dd n (a - b) = dd n (s - b) - dd n (s - a) := by
  unfold dd at *
  by_cases hn : n > 0
  · simp only [if_pos hn] at *
    have h2 := Int.emod_lt_of_pos (s - b) hn
    have h3 : a - b = (s - b) - (s - a) := by omega
    rw [h3, Int.sub_emod]
    exact Int.emod_eq_of_lt (by omega) (by omega)
  · simp only [if_neg hn] at *
    omega
theorem cnt_le_most (n : Int) (S : List S32) (s : Int) (m : Int) (hm : 0 ≤ m) : cnt n S s ≤ most n S S m := by
  by_cases h : ∃ y ∈ S, hit n s y = true
  · obtain ⟨y, hy, h1, h2⟩ := last_begin n s S h
    have h3 : cnt n S s ≤ cnt n S y.f0 := by
      unfold cnt
      have : S.countP (hit n s) ≤ S.countP (hit n y.f0) := List.countP_mono_left (fun z hz hh => by
        have h4 := h2 z hz hh
        simp only [hit, decide_eq_true_eq] at h1 hh ⊢
        rw [dd_sub n s y.f0 z.f0 h1.1 h4]
        omega)
      omega
    have h5 : cnt n S y.f0 ≤ most n S S m := by
      unfold most
      exact le_foldl (fun x : S32 => cnt n S x.f0) S m y hy
    exact Int.le_trans h3 h5
  · have h0 : S.countP (hit n s) = 0 := List.countP_eq_zero.2 (fun y hy hh => h ⟨y, hy, hh⟩)
    have := le_foldl0 (fun x : S32 => cnt n S x.f0) S m
    have h5 : cnt n S s = 0 := by
      unfold cnt
      rw [h0]
      rfl
    rw [h5]
    exact Int.le_trans hm this

theorem at_mem32 {xs : List S32} {i : Int} (h0 : 0 ≤ i) (h1 : i < xs.length) : rd_T32 xs i ∈ xs := by
  unfold rd_T32
  rw [List.getD_eq_getElem?_getD, List.getElem?_eq_getElem (show i.toNat < xs.length by omega)]
  exact List.getElem_mem _
theorem drop_at32 {xs : List S32} {i : Int} (h0 : 0 ≤ i) (h1 : i < xs.length) : xs.drop i.toNat = rd_T32 xs i :: xs.drop (i + 1).toNat := by
  unfold rd_T32
  rw [List.getD_eq_getElem?_getD, List.getElem?_eq_getElem (show i.toNat < xs.length by omega), show (i + 1).toNat = i.toNat + 1 by omega]
  exact List.drop_eq_getElem_cons _

theorem prog_count (T : List S32) (hT : ∀ y ∈ T, okS y) (hl : T.length ≤ 1000000) (n : Int) (h0 : 0 ≤ n) (h1 : n ≤ 20) (A : List S32) (m N1 p : Int) (B : List S32) (x : S32) (hx : okS x) (r : Int) (d : Nat) : ∀ (i c : Int), 0 ≤ i → i + d = T.length → 0 ≤ c → c + d ≤ 1000000 →
    Ev (fun k => lifetime_Pressure.l0 k n A (mx m (c + cnt n (T.drop i.toNat) x.f0)) B N1 (wrap64 (p + 1))) r →
    Ev (fun k => lifetime_Pressure.l1 k n A m c B N1 p T (T.length : Int) i x.f0 x.f1) r := by
  induction d with
  | zero =>
    intro i c hi hd hc hcd h
    have e : T.drop i.toNat = [] := List.drop_eq_nil_of_le (by omega)
    rw [e] at h
    refine Ev.step (fun k => ?_) h
    simp only [lifetime_Pressure.l1]
    rw [if_neg (by omega), show c + cnt n [] x.f0 = c by simp [cnt]]
  | succ d ih =>
    intro i c hi hd hc hcd h
    have hy := hT _ (at_mem32 (xs := T) (i := i) hi (by omega))
    rw [drop_at32 (xs := T) (i := i) hi (by omega)] at h
    have ec : cnt n (rd_T32 T i :: T.drop (i + 1).toNat) x.f0 = cnt n (T.drop (i + 1).toNat) x.f0 + (if hit n x.f0 (rd_T32 T i) = true then 1 else 0) := by
      unfold cnt
      rw [List.countP_cons]
      split <;> simp
    rw [ec] at h
    generalize hyy : rd_T32 T i = y at hy h
    obtain ⟨y0, y1, y2, y3⟩ := hy
    obtain ⟨x0, x1, x2, x3⟩ := hx
    by_cases hh : hit n x.f0 y = true
    · rw [if_pos hh] at h
      have h' := ih (i + 1) (c + 1) (by omega) (by omega) (by omega) (by omega) (by rw [show c + 1 + cnt n (T.drop (i + 1).toNat) x.f0 = c + (cnt n (T.drop (i + 1).toNat) x.f0 + 1) by omega]; exact h)
      simp only [hit, decide_eq_true_eq] at hh
      refine Ev.step (fun k => ?_) h'
      simp only [lifetime_Pressure.l1, hyy]
      rw [if_pos (by omega), if_pos hi, if_pos (by omega), w64 (x := x.f0 - y.f0) (by omega) (by omega)]
      by_cases hn : n > 0
      · have hb := tm_bounds (x.f0 - y.f0) n hn h1
        simp only [dd, if_pos hn] at hh
        rw [if_pos hn, if_neg (by omega), w64 (x := Int.tmod (x.f0 - y.f0) n + n) (by omega) (by omega), tm _ _ hn, if_pos hh.1, if_pos hh.2, w64 (x := c + 1) (by omega) (by omega), w64 (x := i + 1) (by omega) (by omega)]
      · simp only [dd, if_neg hn] at hh
        rw [if_neg hn, if_pos hh.1, if_pos hh.2, w64 (x := c + 1) (by omega) (by omega), w64 (x := i + 1) (by omega) (by omega)]
    · rw [if_neg hh, Int.add_zero] at h
      have h' := ih (i + 1) c (by omega) (by omega) (by omega) (by omega) h
      simp only [hit, decide_eq_true_eq] at hh
      refine Ev.step (fun k => ?_) h'
      simp only [lifetime_Pressure.l1, hyy]
      rw [if_pos (by omega), if_pos hi, if_pos (by omega), w64 (x := x.f0 - y.f0) (by omega) (by omega)]
      by_cases hn : n > 0
      · have hb := tm_bounds (x.f0 - y.f0) n hn h1
        have hnn := Int.emod_nonneg (x.f0 - y.f0) (show n ≠ 0 by omega)
        simp only [dd, if_pos hn] at hh
        rw [if_pos hn, if_neg (by omega), w64 (x := Int.tmod (x.f0 - y.f0) n + n) (by omega) (by omega), tm _ _ hn, if_pos (by omega), if_neg (by omega), w64 (x := i + 1) (by omega) (by omega)]
      · simp only [dd, if_neg hn] at hh
        rw [if_neg hn]
        by_cases hz : x.f0 - y.f0 ≥ 0
        · rw [if_pos hz, if_neg (by omega), w64 (x := i + 1) (by omega) (by omega)]
        · rw [if_neg hz, w64 (x := i + 1) (by omega) (by omega)]

theorem cnt_bounds (n : Int) (S : List S32) (s : Int) : 0 ≤ cnt n S s ∧ cnt n S s ≤ S.length := by
  unfold cnt
  have := List.countP_le_length (p := hit n s) (l := S)
  omega
theorem prog_most (S T : List S32) (hS : ∀ y ∈ S, okS y) (hT : ∀ y ∈ T, okS y) (hl : S.length ≤ 1000000) (ht : T.length ≤ 1000000) (n : Int) (h0 : 0 ≤ n) (h1 : n ≤ 20) (d : Nat) : ∀ (i m : Int), 0 ≤ i → i + d = T.length →
    Ev (fun k => lifetime_Pressure.l0 k n S m T (T.length : Int) i) (most n S (T.drop i.toNat) m) := by
  induction d with
  | zero =>
    intro i m hi hd
    have e : T.drop i.toNat = [] := List.drop_eq_nil_of_le (by omega)
    rw [e]
    refine Ev.step (f := fun _ => some m) (fun k => ?_) (Ev.now _)
    simp only [lifetime_Pressure.l0]
    rw [if_neg (by omega)]
  | succ d ih =>
    intro i m hi hd
    have hx := hT _ (at_mem32 (xs := T) (i := i) hi (by omega))
    have e : most n S (T.drop i.toNat) m = most n S (T.drop (i + 1).toNat) (mx m (0 + cnt n (S.drop (0 : Int).toNat) (rd_T32 T i).f0)) := by
      rw [drop_at32 (xs := T) (i := i) hi (by omega)]
      simp only [most, List.foldl_cons, Int.zero_add, Int.toNat_zero, List.drop_zero]
      congr 1
      unfold mx
      omega
    have hw : wrap64 (i + 1) = i + 1 := w64 (by omega) (by omega)
    have h := ih (i + 1) (mx m (0 + cnt n (S.drop (0 : Int).toNat) (rd_T32 T i).f0)) (by omega) (by omega)
    rw [e]
    refine Ev.step (fun k => ?_) (prog_count S hS hl n h0 h1 S m (T.length : Int) i T (rd_T32 T i) hx _ S.length 0 0 (by omega) (by omega) (by omega) (by omega) (by rw [hw]; exact h))
    simp only [lifetime_Pressure.l0]
    rw [if_pos (by omega), if_pos hi, if_pos (by omega)]

theorem spans_ok (L : List S28) (hL : ∀ l ∈ L, okL l) (n : Int) (h0 : 0 ≤ n) (h1 : n ≤ 20) : ∀ y ∈ spans L n, okS y ∧ (n > 0 → y.f1 ≤ n) := by
  intro y hy
  simp only [spans, List.mem_flatMap, spansOf, List.mem_map, List.mem_range] at hy
  obtain ⟨l, hl, j, hj, rfl⟩ := hy
  have hk := hL l hl
  have hp := lens_pos l n hk
  obtain ⟨p0, p1⟩ := mulb (m := (j : Int)) (n := n) (by omega) (by omega) h0 h1
  have hle : n > 0 → l.f1 + (j : Int) * n ≤ l.f2 := fun hn => lens_le l n hk hn j (by omega)
  obtain ⟨a, b, c⟩ := hk
  have hz : ¬ n > 0 → (j : Int) * n = 0 := fun hn => by rw [show n = 0 by omega]; simp
  unfold okS spanOf
  generalize (j : Int) * n = p at *
  by_cases hn : n > 0
  · have := hle hn
    simp only [if_pos hn]
    omega
  · have := hz hn
    simp only [if_neg hn]
    omega
theorem prog_pressure (L : List S28) (hL : ∀ l ∈ L, okL l) (hN : L.length ≤ 1000) (n : Int) (h0 : 0 ≤ n) (h1 : n ≤ 20) : Ev (fun k => lifetime_Pressure.f k L n) (most n (spans L n) (spans L n) 0) := by
  have hs := spans_len L hL n
  have hk : ∀ y ∈ spans L n, okS y := fun y hy => (spans_ok L hL n h0 h1 y hy).1
  refine Ev.bind (prog_spans L hL hN n h0 h1) ?_
  have h := prog_most (spans L n) (spans L n) hk hk (by omega) (by omega) n h0 h1 (spans L n).length 0 0 (by omega) (by omega)
  simpa using h

/-! the lives of the pairs -/
def lifeOf (x : S83) (i : Nat) : S28 := ⟨i, x.f0 % 60, x.f0 % 60 + x.f1 % 60⟩
def lives (l : List S83) : List S28 := l.mapIdx (fun i x => lifeOf x i)
theorem lives_ok (l : List S83) : ∀ x ∈ lives l, okL x := by
  intro x hx
  simp only [lives, List.mem_mapIdx] at hx
  obtain ⟨i, hi, rfl⟩ := hx
  simp only [lifeOf, okL]
  omega
theorem lives_length (l : List S83) : (lives l).length = l.length := by simp [lives]
theorem lives_loop (l : List S83) (hl : l.length ≤ 1000) (hw : ∀ y ∈ l, 0 ≤ y.f0 ∧ y.f0 ≤ 255 ∧ 0 ≤ y.f1 ∧ y.f1 ≤ 255) (d : Nat) : ∀ (i : Nat), i + d = l.length →
    Ev (fun k => jacquardlaw37_lives.l0 k l ((lives l).take i) (l.length : Int) (i : Int)) (lives l) := by
  induction d with
  | zero =>
    intro i hi
    refine Ev.step (f := fun _ => some (lives l)) (fun k => ?_) (Ev.now _)
    simp only [jacquardlaw37_lives.l0]
    rw [if_neg (by omega), List.take_of_length_le (by rw [lives_length]; omega)]
  | succ d ih =>
    intro i hi
    have hm : rd_T83 l (i : Int) = l[i]'(by omega) := by
      unfold rd_T83
      rw [List.getD_eq_getElem?_getD, Int.toNat_natCast, List.getElem?_eq_getElem (show i < l.length by omega)]
      rfl
    have hy := hw _ (List.getElem_mem (l := l) (n := i) (by omega))
    have e : (lives l).take (i + 1) = (lives l).take i ++ [lifeOf (l[i]'(by omega)) i] := by
      rw [List.take_succ_eq_append_getElem (by rw [lives_length]; omega)]
      simp [lives]
    refine Ev.step (fun k => ?_) (ih (i + 1) (by omega))
    simp only [jacquardlaw37_lives.l0]
    rw [if_pos (by omega), if_pos (by omega), if_pos (by omega), if_pos (by rw [List.length_take]; omega), hm, e, Int.tmod_eq_emod_of_nonneg (by omega), Int.tmod_eq_emod_of_nonneg (by omega)]
    rw [w64 (x := (l[i]'(by omega)).f0 % 60) (by omega) (by omega), w64 (x := (l[i]'(by omega)).f1 % 60) (by omega) (by omega), w64 (x := (l[i]'(by omega)).f0 % 60 + (l[i]'(by omega)).f1 % 60) (by omega) (by omega), cast_next i (by omega)]
    rfl
theorem ev_lives (l : List S83) (hl : l.length ≤ 1000) (hw : ∀ y ∈ l, 0 ≤ y.f0 ∧ y.f0 ≤ 255 ∧ 0 ≤ y.f1 ∧ y.f1 ≤ 255) : Ev (fun k => jacquardlaw37_lives.f k l) (lives l) := lives_loop l hl hw l.length 0 (by omega)
theorem u8b {x : Int} (h : (Lit.int .u8 x).wf = true) : 0 ≤ x ∧ x ≤ 255 := by
  simp [Lit.wf, IntKind.min, IntKind.max, IntKind.signed, IntKind.bits] at h
  omega
theorem awake_ok : jacquardlaw37_awake.f = some true := by decide +kernel
def P (L : List S28) (n : Int) : Int := most n (spans L n) (spans L n) 0
theorem spans_app (A B : List S28) (n : Int) : spans (A ++ B) n = spans A n ++ spans B n := by simp [spans]
theorem cnt_app (n : Int) (S T : List S32) (s : Int) : cnt n (S ++ T) s = cnt n S s + cnt n T s := by
  unfold cnt
  rw [List.countP_append]
  omega
theorem P_step (A : List S28) (l : S28) (n : Int) (hl : okL l) : P A n ≤ P (A ++ [l]) n ∧ P (A ++ [l]) n ≤ P A n + lens l n := by
  have hp := lens_pos l n hl
  have e : spans (A ++ [l]) n = spans A n ++ spansOf l n := by rw [spans_app]; simp [spans]
  have hT : ((spansOf l n).length : Int) = lens l n := by
    simp only [spansOf, List.length_map, List.length_range]
    omega
  unfold P
  rw [e]
  generalize spans A n = S
  generalize spansOf l n = T at hT
  constructor
  · refine foldl_le (fun x : S32 => cnt n S x.f0) _ S 0 ?_ (fun x hx => ?_)
    · unfold most
      exact le_foldl0 (fun x : S32 => cnt n (S ++ T) x.f0) (S ++ T) 0
    · have h1 := cnt_app n S T x.f0
      have h2 := (cnt_bounds n T x.f0).1
      have h3 : cnt n (S ++ T) x.f0 ≤ most n (S ++ T) (S ++ T) 0 := by
        unfold most
        exact le_foldl (fun x : S32 => cnt n (S ++ T) x.f0) (S ++ T) 0 x (by simp [hx])
      show cnt n S x.f0 ≤ _
      omega
  · have h0 : 0 ≤ most n S S 0 := by
      unfold most
      exact le_foldl0 (fun x : S32 => cnt n S x.f0) S 0
    refine foldl_le (fun x : S32 => cnt n (S ++ T) x.f0) _ (S ++ T) 0 (by omega) (fun x _ => ?_)
    have h1 := cnt_app n S T x.f0
    have h2 := (cnt_bounds n T x.f0).2
    have h3 := cnt_le_most n S x.f0 0 (Int.le_refl _)
    show cnt n (S ++ T) x.f0 ≤ _
    omega
theorem P_bounds (L : List S28) (hL : ∀ l ∈ L, okL l) (n : Int) : 0 ≤ P L n ∧ P L n ≤ L.length * 119 := by
  have hs := spans_len L hL n
  unfold P most
  refine ⟨le_foldl0 (fun x : S32 => cnt n (spans L n) x.f0) (spans L n) 0, foldl_le (fun x : S32 => cnt n (spans L n) x.f0) _ (spans L n) 0 (by omega) (fun x _ => ?_)⟩
  have := (cnt_bounds n (spans L n) x.f0).2
  show cnt n (spans L n) x.f0 ≤ _
  omega
theorem take_next {L : List S28} {i : Int} (h0 : 0 ≤ i) (h1 : i < L.length) : L.take (i + 1).toNat = L.take i.toNat ++ [rd_T28 L i] := by
  rw [show (i + 1).toNat = i.toNat + 1 by omega, List.take_succ_eq_append_getElem (by omega)]
  unfold rd_T28
  rw [List.getD_eq_getElem?_getD, List.getElem?_eq_getElem (show i.toNat < L.length by omega)]
  rfl
/-! all lives in one cycle -/
def five (X : List S28) : Prop := ∀ x ∈ X, x.f1 = 5 ∧ x.f2 = 5
theorem five_ok {X : List S28} (h : five X) : ∀ x ∈ X, okL x := fun x hx => by
  obtain ⟨a, b⟩ := h x hx
  unfold okL
  omega
theorem five_spans (n : Int) (h0 : 0 ≤ n) : ∀ X : List S28, five X → spans X n = List.replicate X.length (⟨5, 1⟩ : S32)
  | [], _ => rfl
  | x :: X, h => by
    obtain ⟨a, b⟩ := h x (by simp)
    have ih := five_spans n h0 X (fun y hy => h y (by simp [hy]))
    have hl : lens x n = 1 := by
      unfold lens
      split
      · rfl
      · rw [if_pos (by omega)]
    have e : spansOf x n = [(⟨5, 1⟩ : S32)] := by
      unfold spansOf
      rw [hl]
      show [spanOf x n 0] = _
      unfold spanOf
      rw [a, b]
      congr 1
      congr 1
      · simp
      · split <;> omega
    rw [List.length_cons, List.replicate_succ, ← ih]
    show spansOf x n ++ spans X n = _
    rw [e]
    rfl
theorem five_most (n : Int) (m : Nat) : most n (List.replicate m (⟨5, 1⟩ : S32)) (List.replicate m (⟨5, 1⟩ : S32)) 0 = m := by
  have hc : cnt n (List.replicate m (⟨5, 1⟩ : S32)) 5 = m := by
    unfold cnt
    rw [List.countP_replicate]
    have : hit n 5 (⟨5, 1⟩ : S32) = true := by
      unfold hit dd
      simp
    rw [if_pos this]
  apply Int.le_antisymm
  · refine foldl_le (fun x : S32 => cnt n (List.replicate m (⟨5, 1⟩ : S32)) x.f0) _ _ 0 (by omega) (fun x _ => ?_)
    have := (cnt_bounds n (List.replicate m (⟨5, 1⟩ : S32)) x.f0).2
    rw [List.length_replicate] at this
    exact this
  · have := cnt_le_most n (List.replicate m (⟨5, 1⟩ : S32)) 5 0 (Int.le_refl _)
    rw [hc] at this
    exact this
theorem law_last (l : List S83) (hl : l.length ≤ 30) (hw : ∀ y ∈ l, 0 ≤ y.f0 ∧ y.f0 ≤ 255 ∧ 0 ≤ y.f1 ∧ y.f1 ≤ 255) (n : Int) (h0 : 0 ≤ n) (h1 : n ≤ 20) (s : Int) (hs : P (lives l) n ≤ s) (d : Nat) : ∀ (i : Int) (X : List S28), 0 ≤ i → i + d = X.length → X.length ≤ 30 → (∀ (j : Nat) (x : S28), (j : Int) < i → X[j]? = some x → x.f1 = 5 ∧ x.f2 = 5) →
    Ev (fun k => jacquardlaw37_LifetimePressure.l1 k l X n s (X.length : Int) i) true := by
  induction d with
  | zero =>
    intro i X hi hd hX hf
    have h5 : five X := fun x hx => by
      obtain ⟨j, hj⟩ := List.getElem?_of_mem hx
      have := (List.getElem?_eq_some_iff.1 hj).1
      exact hf j x (by omega) hj
    have hv := ev_lives l (by omega) hw
    have hp := prog_pressure (lives l) (lives_ok l) (by rw [lives_length]; omega) n h0 h1
    have hq := prog_pressure X (five_ok h5) (by omega) n h0 h1
    rw [five_spans n h0 X h5, five_most] at hq
    refine Ev.step (fun k => by simp only [jacquardlaw37_LifetimePressure.l1]; rw [if_neg (by omega)]) (Ev.bind hv (Ev.bind hp ?_))
    unfold P at hs
    simp only [if_pos hs]
    refine Ev.bind hq ?_
    rw [beq_self_eq_true]
    exact Ev.now _
  | succ d ih =>
    intro i X hi hd hX hf
    have h := ih (i + 1) (X.set i.toNat (⟨(rd_T28 X i).f0, 5, 5⟩ : S28)) (by omega) (by rw [List.length_set]; omega) (by rw [List.length_set]; omega) (fun j x hj hx => by
      rw [List.getElem?_set] at hx
      split at hx
      · split at hx
        · injection hx with hx
          subst hx
          exact ⟨rfl, rfl⟩
        · cases hx
      · exact hf j x (by omega) hx)
    rw [List.length_set] at h
    refine Ev.step (fun k => ?_) h
    have er : rd_T28 (X.set i.toNat (⟨(rd_T28 X i).f0, 5, (rd_T28 X i).f2⟩ : S28)) i = (⟨(rd_T28 X i).f0, 5, (rd_T28 X i).f2⟩ : S28) := by
      generalize (⟨(rd_T28 X i).f0, 5, (rd_T28 X i).f2⟩ : S28) = v
      unfold rd_T28
      rw [List.getD_eq_getElem?_getD, List.getElem?_set_self (by omega)]
      rfl
    simp only [jacquardlaw37_LifetimePressure.l1]
    rw [if_pos (by omega), if_pos hi, if_pos (by omega)]
    simp only [Option.bind_some, er, List.set_set]
    rw [w64 (x := i + 1) (by omega) (by omega)]
theorem law_loop (l : List S83) (hl : l.length ≤ 30) (hw : ∀ y ∈ l, 0 ≤ y.f0 ∧ y.f0 ≤ 255 ∧ 0 ≤ y.f1 ∧ y.f1 ≤ 255) (n : Int) (h0 : 0 ≤ n) (h1 : n ≤ 20) (d : Nat) : ∀ (i s : Int), 0 ≤ i → i + d = (lives l).length → P ((lives l).take i.toNat) n ≤ s → s ≤ i * 119 →
    Ev (fun k => jacquardlaw37_LifetimePressure.l0 k l (lives l) n s ((lives l).length : Int) i) true := by
  have hll := lives_length l
  induction d with
  | zero =>
    intro i s hi hd hs hs2
    have e : (lives l).take i.toNat = lives l := List.take_of_length_le (by omega)
    rw [e] at hs
    refine Ev.step (fun k => by simp only [jacquardlaw37_LifetimePressure.l0]; rw [if_neg (by omega)]) (law_last l hl hw n h0 h1 s hs (lives l).length 0 (lives l) (by omega) (by omega) (by omega) (fun j x hj _ => by omega))
  | succ d ih =>
    intro i s hi hd hs hs2
    have hk := lives_ok l
    have hx := hk _ (at_mem (xs := lives l) (i := i) hi (by omega))
    have hp := lens_pos (rd_T28 (lives l) i) n hx
    have hst := P_step ((lives l).take i.toNat) (rd_T28 (lives l) i) n hx
    rw [← take_next hi (by omega)] at hst
    have hb := P_bounds ((lives l).take i.toNat) (fun x hx => hk x (List.mem_of_mem_take hx)) n
    have hlt : (((lives l).take i.toNat).length : Int) ≤ 30 := by
      have := List.length_take_le i.toNat (lives l)
      rw [List.length_take]
      omega
    have hA := prog_pressure ((lives l).take i.toNat) (fun x hx => hk x (List.mem_of_mem_take hx)) (by omega) n h0 h1
    have hB := prog_pressure ((lives l).take (i + 1).toNat) (fun x hx => hk x (List.mem_of_mem_take hx)) (by rw [List.length_take]; omega) n h0 h1
    have hwi : wrap64 (i + 1) = i + 1 := w64 (by omega) (by omega)
    refine Ev.step (fun k => by simp only [jacquardlaw37_LifetimePressure.l0]; rw [if_pos (by omega), if_pos hi, if_pos (by omega), hwi]) (Ev.bind hA ?_)
    simp only [if_pos (show 0 ≤ i + 1 by omega), if_pos (show i + 1 ≤ ((lives l).length : Int) by omega)]
    refine Ev.bind hB ?_
    have hpa : most n (spans ((lives l).take i.toNat) n) (spans ((lives l).take i.toNat) n) 0 = P ((lives l).take i.toNat) n := rfl
    have hpb : most n (spans ((lives l).take (i + 1).toNat) n) (spans ((lives l).take (i + 1).toNat) n) 0 = P ((lives l).take (i + 1).toNat) n := rfl
    simp only [hpa, hpb]
    have h := ih (i + 1) (s + lens (rd_T28 (lives l) i) n) (by omega) (by omega) (by omega) (by omega)
    refine Ev.congr (fun k => ?_) h
    rw [if_neg (by omega), if_pos (by omega), prog_len _ hx n h0 h1]
    simp only [Option.bind_some]
    rw [w64 (x := P ((lives l).take i.toNat) n + lens (rd_T28 (lives l) i) n) (by omega) (by omega), if_neg (by omega), w64 (x := s + lens (rd_T28 (lives l) i) n) (by omega) (by omega)]
theorem LifetimePressure : jacquardlaw37_LifetimePressure.Pure := by
  intro l a hl ha
  have hw : ∀ y ∈ l, 0 ≤ y.f0 ∧ y.f0 ≤ 255 ∧ 0 ≤ y.f1 ∧ y.f1 ≤ 255 := fun y hy => by
    obtain ⟨w0, w1⟩ := hl.2.2 y hy
    have := u8b w0
    have := u8b w1
    omega
  have hb := u8b ha
  refine Ev.rounds (g := fun k => jacquardlaw37_LifetimePressure.f k l a) ?_
  refine Ev.congr (f := fun k => (some true).bind fun t => if t = true then jacquardlaw37_LifetimePressure.j0 k l a (decide ((l.length : Int) > 30)) else jacquardlaw37_LifetimePressure.j0 k l a true) (fun k => by unfold jacquardlaw37_LifetimePressure.f; rw [awake_ok]) (Ev.bind (Ev.now _) ?_)
  simp only [if_true]
  by_cases h30 : (l.length : Int) > 30
  · rw [decide_eq_true h30]
    refine Ev.step (f := fun _ => (some true).bind fun t => some t) (fun k => ?_) (Ev.now true)
    simp only [jacquardlaw37_LifetimePressure.j0, if_true]
    rw [awake_ok]
  · rw [decide_eq_false h30]
    have hm : wrap64 (Int.tmod a 21) = a % 21 := by rw [Int.tmod_eq_emod_of_nonneg hb.1, w64 (by omega) (by omega)]
    have h := law_loop l (by omega) hw (a % 21) (by omega) (by omega) (lives l).length 0 0 (by omega) (by omega) (by show P [] _ ≤ 0; exact Int.le_refl _) (by omega)
    refine Ev.step (f := fun k => (jacquardlaw37_lives.f k l).bind fun t => jacquardlaw37_LifetimePressure.l0 k l t (a % 21) 0 (t.length : Int) 0) (fun k => ?_) (Ev.bind (ev_lives l (by omega) hw) h)
    simp only [jacquardlaw37_LifetimePressure.j0]
    rw [if_neg Bool.false_ne_true, hm]
end Go.Proofs.Ytgcgohahpgbbfaa.Pure
