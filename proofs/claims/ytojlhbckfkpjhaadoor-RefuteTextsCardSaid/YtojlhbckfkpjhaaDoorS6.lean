import Derived.Test.YtojlhbckfkpjhaaDoorS5
set_option linter.all false
namespace Go.Proofs.YtojlhbckfkpjhaaDoor
open Go Go.RowKit Go.Vm
/-! ### refute.Parse -/
def errA : Ans N := ([.agg [.int .i64 0, .vsl none (.named 37) []], .int .i64 4], [])
def okA (ii : Int) (t : List S37) : Ans N := ([.agg [.int .i64 ii, .vsl none (.named 37) t], .int .i64 0], [])
def pl : List (List UInt8) → List S37 → Option (List S37)
  | [], acc => some acc
  | s :: r, acc => match lineF s with
    | some n => pl r (acc ++ [n])
    | none => none
def finF (s : List UInt8) (ii : Int) (t : List S37) : Ans N := if (fmt ii t).2 ≠ 0 then errA else if (fmt ii t).1 ≠ s then errA else okA ii t
def restF (s : List UInt8) (ii : Int) (r : List (List UInt8)) (acc : List S37) : Ans N := match pl r acc with
  | some t => finF s ii t
  | none => errA
def headF (s : List UInt8) (h : List UInt8) (r : List (List UInt8)) : Ans N := match rdF h with
  | some (w, l) => if w = wInt ∧ l.length = 1 then restF s (l.getD 0 0) r [] else errA
  | none => errA
def parF (s : List UInt8) : Ans N := match spl 10 (trimN s) with
  | [] => errA
  | h :: r => headF s h r
theorem spl_ne (c : UInt8) : ∀ s : List UInt8, spl c s ≠ []
  | [] => by simp [spl]
  | b :: l => by
    unfold spl
    split
    · simp
    · cases spl c l <;> simp [consHead]
theorem drop_cons {l : List (List UInt8)} {i : Nat} (h : i < l.length) : l.drop i = l.getD i [] :: l.drop (i + 1) := by
  rw [List.drop_eq_getElem_cons h, List.getD_eq_getElem?_getD, List.getElem?_eq_getElem h]; rfl
theorem memS {l : List (List UInt8)} {i : Nat} (h : i < l.length) : l.getD i [] ∈ l := by
  rw [List.getD_eq_getElem?_getD, List.getElem?_eq_getElem h]; exact List.getElem_mem h
theorem fin_ok (k : Nat) {s : List UInt8} {ii : Int} {t : List S37} (h0 : inR ii) (ht : ∀ n ∈ t, Good n) (hn : t.length ≤ 70000) :
    ((evF T (k + 80001) 7 [.agg [.int .i64 ii, .vsl none (.named 37) t]] []).bind fun r => res7 r fun y14 y15 => if y15 ≠ (0 : Int) then some errA else if y14 ≠ s then some errA else some (okA ii t)) = some (finF s ii t) := by
  rw [e7 k h0 (fun n hn => (ht n hn).1) hn, Option.bind_some, res7_eq]
  unfold finF
  split
  · rfl
  · split <;> rfl
theorem l9_ok (k : Nat) {s : List UInt8} {ls : List (List UInt8)} (hls : ls.length ≤ 70000) (hl : ∀ x ∈ ls, x.length ≤ 69999) (b0 : Int) (r1 : List S37) {ii : Int} (h0 : inR ii) : ∀ (m i : Nat) (acc : List S37), 1 ≤ i → i ≤ ls.length → ls.length - i < m → (∀ n ∈ acc, Good n) → acc.length ≤ i →
    l9_0 (k + 80001) m s ls (ls.length : Int) (i : Int) b0 r1 ii acc = some (restF s ii (ls.drop i) acc)
  | 0, _, _, _, _, h, _, _ => absurd h (by omega)
  | m + 1, i, acc, h1, hi, hm, hg, ha => by
    rw [l9_0_eq]
    by_cases c : i < ls.length
    · have hL := hl _ (memS c)
      rw [if_pos (by omega), if_pos (by omega), if_pos (by omega), if_neg (by omega), Int.toNat_natCast i, show k + 80001 = (k + 79998) + 3 from rfl, e24 _ (by omega) (by omega), Option.bind_some, drop_cons c]
      unfold restF pl
      cases hn : lineF (ls.getD i []) with
      | none =>
        unfold nodeV
        rw [Option.getD_none]
        refine (congrArg (fun z => z) (res24_eq _ _ _ _ _ _ _ _ _)).trans ?_
        rw [if_pos (by rfl)]
        rfl
      | some n =>
        have hG := line_good hL hn
        unfold nodeV
        rw [Option.getD_some]
        refine (res24_eq _ _ _ _ _ _ _ _ _).trans ?_
        rw [if_neg (by simp), chk_ok (by show (_ + 1) * 88 ≤ _; omega), w64 (x := (i : Int) + 1) (by omega) (by omega)]
        have := l9_ok k (s := s) hls hl b0 r1 h0 m (i + 1) (acc ++ [n]) (by omega) (by omega) (by omega) (fun x hx => by
          rcases List.mem_append.mp hx with hx | hx
          · exact hg x hx
          · rw [List.mem_singleton.mp hx]; exact hG) (by rw [List.length_append]; show _ + 1 ≤ _; omega)
        unfold restF at this
        exact this
    · rw [if_neg (by omega), List.drop_eq_nil_of_le (by omega)]
      exact fin_ok k h0 hg (by omega)
theorem e9 (k : Nat) {s : List UInt8} (hs : s.length ≤ 65536) : evF T (k + 80003) 9 [.str s] [] = some (parF s) := by
  have h1 := trimN_le s
  obtain ⟨h2, h3⟩ := spl_len 10 (trimN s)
  rw [f9_eq, if_neg (by omega), show k + 80002 = (k + 79999) + 3 from rfl, e22 _ (by omega), Option.bind_some, res22_eq, show k + 79999 + 3 = (k + 80001) + 1 from rfl, e21 _ (by omega), Option.bind_some, res21_eq]
  unfold parF
  cases hsp : spl 10 (trimN s) with
  | nil => exact absurd hsp (spl_ne _ _)
  | cons h r =>
    rw [hsp] at h2 h3
    have hh := h3 h List.mem_cons_self
    rw [l9_0_eq, if_pos (by simp only [List.length_cons]; omega), if_pos (Int.le_refl _), if_pos (by simp only [List.length_cons]; omega), if_pos rfl]
    rw [show k + 80001 + 1 = (k + 80000) + 2 from rfl, show (h :: r).getD (0 : Int).toNat [] = h from rfl, e23 _ (by omega) (by omega), Option.bind_some]
    show _ = some (headF s h r)
    unfold headF
    cases hr : rdF h with
    | none =>
      refine (res23_eq _ [] _ _).trans ?_
      rw [if_pos (by rfl)]; rfl
    | some p =>
      obtain ⟨w, l⟩ := p
      obtain ⟨g1, g2⟩ := rdF_ok hr
      refine (res23_eq _ _ _ _).trans ?_
      rw [if_neg (by simp)]
      by_cases cw : w = wInt
      · rw [if_neg (by show ¬ w ≠ wInt; exact fun h => h cw)]
        by_cases cl : l.length = 1
        · rw [if_neg (by show ¬ (l.length : Int) ≠ 1; omega), if_pos (Int.le_refl _), if_pos (by show 0 < (l.length : Int); omega)]
          show l9_0 (k + 80000 + 2) (k + 80001) s (h :: r) ((h :: r).length : Int) (wrap64 (0 + 1)) 0 [] (l.getD 0 0) [] = some (if w = wInt ∧ l.length = 1 then restF s (l.getD 0 0) r [] else errA)
          rw [if_pos ⟨cw, cl⟩]
          have hA : (h :: r).length ≤ 70000 := by omega
          have hB : ∀ x ∈ h :: r, x.length ≤ 69999 := fun x hx => by have := h3 x hx; omega
          have hC : inR (l.getD 0 0) := g1 _ (mem_getD (by show 0 < l.length; omega))
          have hD : 1 ≤ (h :: r).length := by rw [List.length_cons]; omega
          have hE : (h :: r).length - 1 < k + 80001 := by omega
          have := l9_ok (k + 1) (s := s) hA hB 0 [] hC (k + 80001) 1 [] (Nat.le_refl 1) hD hE (fun n hn => absurd hn (by simp)) (Nat.zero_le _)
          rw [show k + 1 + 80001 = k + 80000 + 2 from by omega] at this
          rw [show wrap64 (0 + 1) = ((1 : Nat) : Int) from by rw [w64 (by decide) (by decide)]; rfl]
          exact this
        · rw [if_pos (by show (l.length : Int) ≠ 1; omega)]
          show some errA = some (if w = wInt ∧ l.length = 1 then restF s (l.getD 0 0) r [] else errA)
          rw [if_neg (fun h => cl h.2)]
      · rw [if_pos (by show w ≠ wInt; exact cw)]
        show some errA = some (if w = wInt ∧ l.length = 1 then restF s (l.getD 0 0) r [] else errA)
        rw [if_neg (fun h => cw h.1)]
theorem pl_good : ∀ (r : List (List UInt8)) (acc t : List S37), (∀ x ∈ r, x.length ≤ 69999) → (∀ n ∈ acc, Good n) → pl r acc = some t → (∀ n ∈ t, Good n) ∧ t.length = acc.length + r.length
  | [], acc, t, _, ha, h => by
    injection h with h; subst h; exact ⟨ha, rfl⟩
  | s :: r, acc, t, hr, ha, h => by
    unfold pl at h
    split at h
    · rename_i n hn
      have hG := line_good (hr s List.mem_cons_self) hn
      obtain ⟨h1, h2⟩ := pl_good r _ t (fun x hx => hr x (List.mem_cons_of_mem _ hx)) (fun x hx => by
        rcases List.mem_append.mp hx with hx | hx
        · exact ha x hx
        · rw [List.mem_singleton.mp hx]; exact hG) h
      refine ⟨h1, ?_⟩
      rw [h2]; simp only [List.length_append, List.length_cons, List.length_nil]; omega
    · exact absurd h (by simp)
/-- A text is refused, or is that of what it is parsed as. -/
theorem parF_cases {s : List UInt8} (hs : s.length ≤ 65536) : parF s = errA ∨ ∃ ii t, parF s = okA ii t ∧ inR ii ∧ (∀ n ∈ t, Good n) ∧ t.length ≤ 70000 ∧ fmt ii t = (s, 0) := by
  have h1 := trimN_le s
  obtain ⟨h2, h3⟩ := spl_len 10 (trimN s)
  unfold parF
  cases hsp : spl 10 (trimN s) with
  | nil => exact .inl rfl
  | cons h r =>
    rw [hsp] at h2 h3
    show headF s h r = errA ∨ ∃ ii t, headF s h r = okA ii t ∧ _
    have hh := h3 h List.mem_cons_self
    unfold headF
    cases hr : rdF h with
    | none => exact .inl rfl
    | some p =>
      obtain ⟨w, l⟩ := p
      obtain ⟨g1, g2⟩ := rdF_ok hr
      show (if w = wInt ∧ l.length = 1 then restF s (l.getD 0 0) r [] else errA) = errA ∨ ∃ ii t, (if w = wInt ∧ l.length = 1 then restF s (l.getD 0 0) r [] else errA) = okA ii t ∧ _
      by_cases c : w = wInt ∧ l.length = 1
      · rw [if_pos c]
        unfold restF
        cases hp : pl r [] with
        | none => exact .inl rfl
        | some t =>
          obtain ⟨q1, q2⟩ := pl_good r [] t (fun x hx => by have := h3 x (List.mem_cons_of_mem _ hx); omega) (fun n hn => absurd hn (by simp)) hp
          show finF s (l.getD 0 0) t = errA ∨ ∃ ii t', finF s (l.getD 0 0) t = okA ii t' ∧ _
          unfold finF
          by_cases c1 : (fmt (l.getD 0 0) t).2 ≠ 0
          · rw [if_pos c1]; exact .inl rfl
          · rw [if_neg c1]
            by_cases c2 : (fmt (l.getD 0 0) t).1 ≠ s
            · rw [if_pos c2]; exact .inl rfl
            · rw [if_neg c2]
              have c1 := Decidable.not_not.mp c1
              have c2 := Decidable.not_not.mp c2
              refine .inr ⟨l.getD 0 0, t, rfl, g1 _ (mem_getD (l := l) (i := 0) (by have := c.2; omega)), q1, ?_, Prod.ext c2 c1⟩
              have e1 : (h :: r).length = r.length + 1 := rfl
              have e2 : ([] : List S37).length = 0 := rfl
              omega
      · rw [if_neg c]; exact .inl rfl
/-! ### the law RefuteParses -/
theorem l25_same (k : Nat) {l : List Int} (hn : l.length ≤ 1000000) : ∀ (m i : Nat), i ≤ l.length → l.length - i < m → l25_0 k m l l (l.length : Int) (i : Int) = some ([.bool true], [])
  | 0, _, _, h => absurd h (by omega)
  | m + 1, i, hi, hm => by
    rw [l25_0_eq]
    by_cases c : i < l.length
    · rw [if_pos (by omega), if_pos (by omega), if_pos (by omega), if_pos (by omega), if_pos (by omega), if_neg (fun h => h rfl), w64 (x := (i : Int) + 1) (by omega) (by omega)]
      exact l25_same k hn m (i + 1) (by omega) (by omega)
    · rw [if_neg (by omega)]
theorem e25 (k : Nat) {l : List Int} (hn : l.length ≤ 70000) : evF T (k + 70002) 25 [.vsl none (.int .i64) l, .vsl none (.int .i64) l] [] = some ([.bool true], []) := by
  rw [f25_eq, if_neg (fun h => h rfl)]
  exact l25_same _ (by omega) (k + 70001) 0 (by omega) (by omega)
theorem e10 (k : Nat) {n : S37} (h2 : n.f2.length ≤ 70000) (h3 : n.f3.length ≤ 70000) : evF T (k + 70003) 10 [.agg [.int .i64 n.f0, .int .i64 n.f1, .vsl none (.int .i64) n.f2, .vsl none (.int .i64) n.f3, .int .i64 n.f4, .int .i64 n.f5, .int .i64 n.f6], .agg [.int .i64 n.f0, .int .i64 n.f1, .vsl none (.int .i64) n.f2, .vsl none (.int .i64) n.f3, .int .i64 n.f4, .int .i64 n.f5, .int .i64 n.f6]] [] = some ([.bool true], []) := by
  rw [f10_eq, if_pos rfl, if_pos rfl, if_pos rfl, if_pos rfl, if_pos rfl, e25 k h2, Option.bind_some, res25_eq, if_pos rfl, e25 k h3, Option.bind_some, res25_eq]
theorem e11 (k : Nat) (n : S37) : evF T (k + 1) 11 [.agg [.int .i64 n.f0, .int .i64 n.f1, .vsl none (.int .i64) n.f2, .vsl none (.int .i64) n.f3, .int .i64 n.f4, .int .i64 n.f5, .int .i64 n.f6]] [] = some ([.agg [.int .i64 (plainN n).f0, .int .i64 (plainN n).f1, .vsl none (.int .i64) (plainN n).f2, .vsl none (.int .i64) (plainN n).f3, .int .i64 (plainN n).f4, .int .i64 (plainN n).f5, .int .i64 (plainN n).f6]], []) := by
  rw [f11_eq]
  unfold plainN
  by_cases c1 : n.f0 = 1
  · rw [if_pos c1, if_pos c1]; rfl
  · rw [if_neg c1, if_neg c1]
    by_cases c2 : n.f0 = 2
    · rw [if_pos c2, if_pos c2]; rfl
    · rw [if_neg c2, if_neg c2]
      by_cases c3 : n.f0 = 3
      · rw [if_pos c3, if_pos c3]; rfl
      · rw [if_neg c3, if_neg c3]; rfl
theorem l4_ok (k : Nat) {s : List UInt8} {ii : Int} {t : List S37} (ht : ∀ n ∈ t, Good n) (hn : t.length ≤ 70000) : ∀ (m i : Nat), i ≤ t.length → t.length - i < m → l4_0 (k + 70003) m s s true (t.length : Int) (i : Int) ii t = some ([.bool true], [])
  | 0, _, _, h => absurd h (by omega)
  | m + 1, i, hi, hm => by
    rw [l4_0_eq]
    by_cases c : i < t.length
    · obtain ⟨⟨-, -, -, -, -, -, h7, h8⟩, -, hp⟩ := ht _ (mem37 c)
      rw [if_pos (by omega), if_pos rfl, if_pos (by omega), if_pos (by omega), if_pos (by omega), if_pos (by omega), Int.toNat_natCast i, show k + 70003 = (k + 70002) + 1 from rfl, e11, Option.bind_some, res11_eq, hp, show k + 70002 + 1 = k + 70003 from rfl, e10 k h7 h8, Option.bind_some, res10_eq, w64 (x := (i : Int) + 1) (by omega) (by omega)]
      exact l4_ok k ht hn m (i + 1) (by omega) (by omega)
    · rw [if_neg (by omega), if_pos rfl]
      exact congrArg (fun b => some ([PV.bool b], ([] : Heap N))) (decide_eq_true rfl)
theorem fmt_known {s : List UInt8} {ii : Int} {t : List S37} (h : fmt ii t = (s, 0)) : (∀ j, j < t.length → known (t.getD j z37)) ∧ text ii t = s ∧ s.length ≤ 65536 := by
  unfold fmt at h
  by_cases c1 : ∀ j, j < t.length → known (t.getD j z37)
  · rw [if_pos c1] at h
    by_cases c2 : (text ii t).length > 65536
    · rw [if_pos c2] at h; exact absurd (congrArg Prod.snd h) (by simp)
    · rw [if_neg c2] at h
      have := congrArg Prod.fst h
      exact ⟨c1, this, by rw [← show text ii t = s from this]; omega⟩
  · rw [if_neg c1] at h; exact absurd (congrArg Prod.snd h) (by simp)
/-- The law RefuteParses returns true for every text. -/
theorem parses_true (s : List UInt8) : evF T 200000 4 [.str s] [] = some ([.bool true], []) := by
  rw [show 200000 = 199999 + 1 from rfl, f4_eq, show 199999 = 199939 + 60 from rfl, awake, Option.bind_some, res5_eq, if_neg (by simp)]
  by_cases c : (s.length : Int) > 1000
  · rw [if_pos c, Option.bind_some, res5_eq]
  · rw [if_neg c, show 199939 + 60 = 119996 + 80003 from rfl, e9 _ (by omega), Option.bind_some]
    rcases parF_cases (s := s) (by omega) with h | ⟨ii, t, h, h0, hG, hn, hf⟩
    · rw [h]
      rfl
    · obtain ⟨f1, f2, f3⟩ := fmt_known hf
      rw [h]
      refine (res9_eq ii t 0 _).trans ?_
      rw [if_neg (fun h => h rfl), show 119996 + 80003 = 119998 + 80001 from rfl, e8 _ h0 (fun n hn => (hG n hn).1) hn, if_pos f1, Option.bind_some, res8_eq, f2]
      exact l4_ok 129996 hG hn _ 0 (by omega) (by omega)

end Go.Proofs.YtojlhbckfkpjhaaDoor
