import Derived.Test.YtpcieagmnllimaaDoorS2
set_option linter.all false
namespace Go.Proofs.YtpcieagmnllimaaDoor
open Go Go.RowKit Go.Vm
/-! #### decimal numbers, types, keywords -/
def dec2 (w : Nat) : List UInt8 := if w < 10 then [UInt8.ofNat (48 + w)] else [UInt8.ofNat (48 + w / 10), UInt8.ofNat (48 + w % 10)]
theorem decDigits_eq (w : Nat) (h : w < 100) : Lib.decDigits w = dec2 w := by
  unfold dec2
  rw [Lib.decDigits]
  by_cases h1 : w < 10
  · rw [dif_pos h1, if_pos h1]
  · rw [dif_neg h1, if_neg h1, Lib.decDigits, dif_pos (by omega)]
    rfl
theorem e36 (k w : Nat) (h : w < 100) : evF T (k + 1) 36 [.int .i64 w] [] = some ([.str (dec2 w)], []) := by
  have e : evF T (k + 1) 36 [.int .i64 w] [] = xItoa [.int .i64 w] [] := rfl
  rw [e]
  show (if (0 : Int) ≤ w ∧ (w : Int) < 100 then some ([PV.str (Lib.decDigits (w : Int).toNat)], []) else none : Option (Ans N)) = _
  rw [if_pos (by omega), Int.toNat_natCast, decDigits_eq w h]
theorem dig10 : ∀ d, d < 10 → (([(48 : UInt8), (49 : UInt8), (50 : UInt8), (51 : UInt8), (52 : UInt8), (53 : UInt8), (54 : UInt8), (55 : UInt8), (56 : UInt8), (57 : UInt8)].take (d + 1)).drop d) = [UInt8.ofNat (48 + d)] := by decide
theorem l38_small (k m w : Nat) (h : w < 10) (x : List UInt8) (hx : x.length < 100) : l38_0 k (m + 1) w x = some ([.str (UInt8.ofNat (48 + w) :: x)], []) := by
  rw [l38_0_eq, if_neg (by omega), wu64 (by omega) (by omega), if_pos (by omega), if_pos (by simp; omega), if_pos (by omega), if_pos (by omega), show ((w : Int) + 1).toNat = w + 1 by omega, Int.toNat_natCast, dig10 w h]
  unfold chk
  rw [if_pos (show strOK _ _ by unfold strOK; simp; omega)]
  rfl
theorem l38_ok (k m w : Nat) (h : w < 100) : l38_0 k (m + 2) w [] = some ([.str (dec2 w)], []) := by
  unfold dec2
  by_cases h1 : w < 10
  · rw [if_pos h1, l38_small k (m + 1) w h1 [] (by simp)]
  · have e1 : Int.tmod (w : Int) 10 = ((w % 10 : Nat) : Int) := rfl
    have e2 : Int.tdiv (w : Int) 10 = ((w / 10 : Nat) : Int) := rfl
    rw [if_neg h1, l38_0_eq, if_pos (by omega), if_neg (by decide), if_neg (by decide), e1, e2, wu64 (by omega) (by omega), if_pos (by omega), if_pos (by simp; omega), if_pos (by omega), if_pos (by omega), show (((w % 10 : Nat) : Int) + 1).toNat = w % 10 + 1 by omega, Int.toNat_natCast, dig10 _ (by omega)]
    unfold chk
    rw [if_pos (show strOK _ _ by unfold strOK; simp), if_neg (by decide), wu64 (by omega) (by omega), l38_small k m (w / 10) (by omega) _ (by simp)]
    rfl
theorem e38 (k w : Nat) (h : w < 100) (hk : 5 ≤ k) : evF T k 38 [.int .u64 w] [] = some ([.str (dec2 w)], []) := by
  obtain ⟨k, rfl⟩ : ∃ k', k = k' + 3 := ⟨k - 3, by omega⟩
  rw [f38_eq]; exact l38_ok _ k w h
def typW (t : List UInt8) : Nat := (((List.range 65).drop 1).find? (fun w => decide (dec2 w = t))).getD 0
theorem typW_dec (w : Nat) (h1 : 1 ≤ w) (h2 : w ≤ 64) : typW (dec2 w) = w := by
  have h : ∀ w : Fin 65, 1 ≤ w.val → typW (dec2 w.val) = w.val := by decide +kernel
  exact h ⟨w, by omega⟩ h1
theorem typW_spec (t : List UInt8) (h : typW t ≠ 0) : dec2 (typW t) = t ∧ 1 ≤ typW t ∧ typW t ≤ 64 := by
  unfold typW at h ⊢
  cases hf : ((List.range 65).drop 1).find? (fun w => decide (dec2 w = t)) with
  | none => rw [hf] at h; exact absurd rfl h
  | some w =>
    have h1 := List.find?_some hf
    have h2 := List.mem_of_find?_eq_some hf
    have h3 : ∀ w ∈ (List.range 65).drop 1, 1 ≤ w ∧ w ≤ 64 := by decide
    exact ⟨of_decide_eq_true h1, h3 w h2⟩
theorem atoi_dec (w : Nat) (h1 : 1 ≤ w) (h2 : w ≤ 64) : Lib.atoiAll (dec2 w) = .ok (w : Int) := by
  have h : ∀ w : Fin 65, 1 ≤ w.val → Lib.atoiAll (dec2 w.val) = .ok (w.val : Int) := by decide +kernel
  exact h ⟨w, by omega⟩ h1
theorem dec2_ne (w : Nat) : dec2 w ≠ [] := by unfold dec2; split <;> simp
/-- The type that a word denotes; width 0 for none. -/
def boolW : List UInt8 := [(98 : UInt8), (111 : UInt8), (111 : UInt8), (108 : UInt8)]
def typF (s : List UInt8) : Nat × Bool :=
  if s = boolW then (1, false) else
  match s with
  | [] => (0, false)
  | c :: t => if c.toNat = 117 ∨ c.toNat = 115 then (if typW t = 0 then (0, false) else (typW t, decide ((c.toNat : Int) = 115))) else (0, false)
theorem e35 (k : Nat) (s : List UInt8) : evF T (k + 1) 35 [.str s] [] = xAtoi [.str s] [] := rfl
def tyA (p : Nat × Bool) : Option (Ans N) := some ([.agg [.int .i64 (p.1 : Nat), .bool p.2], .bool (decide (0 < p.1))], [])
theorem eType (k : Nat) (s : List UInt8) (hs : s.length ≤ 281474976710656) : evF T (k + 2) 20 [.str s] [] = tyA (typF s) := by
  rw [f20_eq]
  unfold typF boolW
  by_cases hb : s = [(98 : UInt8), (111 : UInt8), (111 : UInt8), (108 : UInt8)]
  · rw [if_pos hb, if_pos hb]; rfl
  · rw [if_neg hb, if_neg hb]
    have no : (some ([PV.agg [.int .i64 0, .bool false], .bool false], []) : Option (Ans N)) = tyA (0, false) := rfl
    match s, hs with
    | [], _ => rw [if_pos (by simp)]; exact no
    | [c], _ =>
      rw [if_pos (by simp)]
      have e : typW [] = 0 := by decide
      dsimp only
      rw [if_pos e]
      split <;> exact no
    | c :: d :: t, hs =>
      have hl : (c :: d :: t).length = t.length + 2 := rfl
      have e0 : (c :: d :: t).getD (0 : Int).toNat 0 = c := rfl
      have e1 : ((c :: d :: t).take (((c :: d :: t).length : Nat) : Int).toNat).drop (1 : Int).toNat = d :: t := by
        rw [Int.toNat_natCast, List.take_of_length_le (Nat.le_refl _)]; rfl
      simp only [e0, e1]
      rw [if_neg (by omega), if_pos (by omega), if_pos (by omega)]
      have core : ∀ G : Int → Bool → Option (Ans N), (∀ y1 y2, G y1 y2 = if y2 = true then if y1 < (1 : Int) then some ([.agg [.int .i64 (0 : Int), .bool false], .bool false], []) else if y1 > (64 : Int) then some ([.agg [.int .i64 (0 : Int), .bool false], .bool false], []) else (evF T (k + 1) 36 [.int .i64 y1] []).bind fun r => res36 r fun y3 => if 0 ≤ ((c :: d :: t).length : Int) then if ((c :: d :: t).length : Int) ≤ ((c :: d :: t).length : Int) then if 0 ≤ (1 : Int) then if (1 : Int) ≤ ((c :: d :: t).length : Int) then if y3 ≠ d :: t then some ([.agg [.int .i64 (0 : Int), .bool false], .bool false], []) else if 0 ≤ (0 : Int) then if (0 : Int) < ((c :: d :: t).length : Int) then some ([.agg [.int .i64 y1, .bool (decide (((c.toNat : Nat) : Int) = (115 : Int)))], .bool true], []) else none else none else none else none else none else none else some ([.agg [.int .i64 (0 : Int), .bool false], .bool false], [])) →
          (c.toNat = 117 ∨ c.toNat = 115) → ((xAtoi [.str (d :: t)] []).bind fun r => res35 r G) = tyA (if typW (d :: t) = 0 then (0, false) else (typW (d :: t), decide ((c.toNat : Int) = 115))) := by
        intro G hG hc
        have ex : xAtoi [.str (d :: t)] [] = (match Lib.atoiAll (d :: t) with
          | .ok v => some ([.int .i64 v, .nilif], [])
          | .range => some ([.int .i64 (Lib.atoiSat (d :: t)), .iface 0 .bad], [])
          | _ => some ([.int .i64 0, .iface 0 .bad], [])) := by
          show (bif Nat.ble (d :: t).length 281474976710656 then _ else none) = _
          rw [show Nat.ble (d :: t).length 281474976710656 = true by rw [Nat.ble_eq]; simp at hs ⊢; omega]
          rfl
        rw [ex]
        by_cases hw : typW (d :: t) = 0
        · rw [if_pos hw]
          cases ha : Lib.atoiAll (d :: t) with
          | ok v =>
            dsimp only
            rw [Option.bind_some, res35_eq1, hG, if_pos rfl]
            by_cases h1 : v < 1
            · rw [if_pos h1]; exact no
            · rw [if_neg h1]
              by_cases h2 : v > 64
              · rw [if_pos h2]; exact no
              · rw [if_neg h2]
                obtain ⟨n, rfl⟩ : ∃ n : Nat, v = n := ⟨v.toNat, by omega⟩
                rw [e36 k n (by omega), Option.bind_some, res36_eq, if_pos (by omega), if_pos (by omega), if_pos (by omega), if_pos (by omega), if_pos (fun e => by rw [← e, typW_dec n (by omega) (by omega)] at hw; omega)]
                exact no
          | _ => dsimp only; rw [Option.bind_some, res35_eq0, hG, if_neg (by simp)]; exact no
        · obtain ⟨g1, g2, g3⟩ := typW_spec _ hw
          rw [if_neg hw]
          have ha := atoi_dec _ g2 g3
          rw [g1] at ha
          rw [ha]
          dsimp only
          rw [Option.bind_some, res35_eq1, hG, if_pos rfl, if_neg (by omega), if_neg (by omega), e36 k _ (by omega), Option.bind_some, res36_eq, if_pos (by omega), if_pos (by omega), if_pos (by omega), if_pos (by omega), if_neg (fun h => h g1), if_pos (by omega), if_pos (by omega)]
          have : decide (0 < typW (d :: t)) = true := decide_eq_true (by omega)
          unfold tyA
          dsimp only
          rw [this]
      by_cases h1 : ((c.toNat : Nat) : Int) ≠ 117
      · rw [if_pos h1, if_pos (by omega), if_pos (by omega)]
        by_cases h2 : ((c.toNat : Nat) : Int) ≠ 115
        · rw [if_pos h2]
          rw [if_neg (show ¬ (c.toNat = 117 ∨ c.toNat = 115) by omega)]; exact no
        · rw [if_neg h2, if_pos (by omega), if_pos (by omega), if_pos (by omega), if_pos (by omega), e35]
          rw [if_pos (show c.toNat = 117 ∨ c.toNat = 115 by omega)]
          exact core _ (fun _ _ => rfl) (by omega)
      · rw [if_neg h1, if_pos (by omega), if_pos (by omega), if_pos (by omega), if_pos (by omega), e35]
        rw [if_pos (show c.toNat = 117 ∨ c.toNat = 115 by omega)]
        exact core _ (fun _ _ => rfl) (by omega)

def tnF (w : Nat) (sg : Bool) : List UInt8 := (if sg = true then 115 else 117) :: dec2 w
theorem eName (k w : Nat) (sg : Bool) (h1 : 1 ≤ w) (h2 : w ≤ 64) : evF T (k + 2) 23 [.agg [.int .i64 w, .bool sg]] [] = some ([.str (tnF w sg)], []) := by
  rw [f23_eq, if_neg (by omega), if_neg (by omega), e36 k w (by omega)]
  have hl : (dec2 w).length ≤ 2 := by unfold dec2; split <;> simp
  unfold tnF
  cases sg <;> simp only [Option.bind_some, res36_eq, chk, Bool.false_eq_true, if_false, if_true] <;> rw [if_pos (show strOK _ _ by unfold strOK; simp; omega)] <;> rfl
theorem eName0 (k : Nat) (w : Int) (sg : Bool) (h : w < 1 ∨ 64 < w) : evF T (k + 1) 23 [.agg [.int .i64 w, .bool sg]] [] = some ([.str []], []) := by
  rw [f23_eq]
  by_cases h1 : w < 1
  · rw [if_pos h1]
  · rw [if_neg h1, if_pos (by omega)]
theorem eRName (k w : Nat) (sg : Bool) (h1 : 1 ≤ w) (h2 : w ≤ 64) (hk : 6 ≤ k) : evF T k 24 [.agg [.int .i64 w, .bool sg]] [] = some ([.str (tnF w sg)], []) := by
  obtain ⟨k, rfl⟩ : ∃ k', k = k' + 1 := ⟨k - 1, by omega⟩
  rw [f24_eq, if_neg (by omega), if_neg (by omega), wu64 (by omega) (by omega), e38 k w (by omega) (by omega)]
  have hl : (dec2 w).length ≤ 2 := by unfold dec2; split <;> simp
  unfold tnF
  cases sg <;> simp only [Option.bind_some, res38_eq, chk, Bool.false_eq_true, if_false, if_true] <;> rw [if_pos (show strOK _ _ by unfold strOK; simp; omega)] <;> rfl
theorem eRName0 (k : Nat) (w : Int) (sg : Bool) (h : w < 1 ∨ 64 < w) : evF T (k + 1) 24 [.agg [.int .i64 w, .bool sg]] [] = some ([.str []], []) := by
  rw [f24_eq]
  by_cases h1 : w < 1
  · rw [if_pos h1]
  · rw [if_neg h1, if_pos (by omega)]
/-- A word that is a type's name, and what it denotes. -/
theorem typF_name (w : Nat) (sg : Bool) (h1 : 1 ≤ w) (h2 : w ≤ 64) : typF (tnF w sg) = (w, sg) := by
  unfold typF tnF boolW
  have hw := typW_dec w h1 h2
  cases sg
  · rw [if_neg (by simp), if_neg (by simp)]
    dsimp only
    rw [if_pos (.inl rfl), hw, if_neg (by omega)]; rfl
  · rw [if_neg (by simp), if_pos rfl]
    dsimp only
    rw [if_pos (.inr rfl), hw, if_neg (by omega)]; rfl
theorem typF_spec (s : List UInt8) (hb : s ≠ boolW) (h : (typF s).1 ≠ 0) : s = tnF (typF s).1 (typF s).2 ∧ 1 ≤ (typF s).1 ∧ (typF s).1 ≤ 64 := by
  unfold typF at h ⊢
  rw [if_neg hb] at h ⊢
  match s with
  | [] => exact absurd rfl h
  | c :: t =>
    dsimp only at h ⊢
    by_cases hc : c.toNat = 117 ∨ c.toNat = 115
    · rw [if_pos hc] at h ⊢
      by_cases hw : typW t = 0
      · rw [if_pos hw] at h; exact absurd rfl h
      · rw [if_neg hw] at h ⊢
        obtain ⟨g1, g2, g3⟩ := typW_spec t hw
        refine ⟨?_, g2, g3⟩
        unfold tnF
        dsimp only
        rw [g1]
        rcases hc with hc | hc
        · rw [if_neg (by simp; omega)]
          congr 1
          exact UInt8.toNat_inj.mp hc
        · rw [if_pos (by simp; omega)]
          congr 1
          exact UInt8.toNat_inj.mp hc
    · rw [if_neg hc] at h; exact absurd rfl h
def tyB (p : Nat × Bool) : Option (Ans N) := some ([.agg [.int .i64 (p.1 : Nat), .bool p.2]], [])
theorem l21_ok (s : List UInt8) (hb : s ≠ boolW) (b0 : Int) (b1 : Bool) (k : Nat) (hk : 10 ≤ k) : ∀ (n w m : Nat), 65 - w ≤ n → 1 ≤ w → w ≤ 65 → n < m → ((typF s).1 = 0 ∨ w ≤ (typF s).1) → l21_0 k m s w b0 b1 = tyB (typF s) := by
  intro n
  induction n with
  | zero =>
    intro w m h1 h2 h3 h4 h5
    obtain ⟨m, rfl⟩ : ∃ m', m = m' + 1 := ⟨m - 1, by omega⟩
    obtain rfl : w = 65 := by omega
    rw [l21_0_eq, if_neg (by omega)]
    have h0 : (typF s).1 = 0 := by
      by_cases h : (typF s).1 = 0
      · exact h
      · have := (typF_spec s hb h).2.2; omega
    have h2 : typF s = (0, false) := by
      unfold typF at h0 ⊢
      rw [if_neg hb] at h0 ⊢
      match s with
      | [] => rfl
      | c :: t =>
        dsimp only at h0 ⊢
        by_cases hc : c.toNat = 117 ∨ c.toNat = 115
        · rw [if_pos hc] at h0 ⊢
          by_cases hw : typW t = 0
          · rw [if_pos hw]
          · rw [if_neg hw] at h0; exact absurd h0 hw
        · rw [if_neg hc]
    rw [h2]; rfl
  | succ n ih =>
    intro w m h1 h2 h3 h4 h5
    obtain ⟨m, rfl⟩ : ∃ m', m = m' + 1 := ⟨m - 1, by omega⟩
    rw [l21_0_eq]
    by_cases hw : w ≤ 64
    · obtain ⟨k, rfl⟩ : ∃ k', k = k' + 3 := ⟨k - 3, by omega⟩
      rw [if_pos (by omega), l21_1_eq, if_pos (by decide), show decide ((0 : Int) = 1) = false from rfl, eRName (k + 3) w false h2 hw (by omega), Option.bind_some, res24_eq]
      by_cases e0 : tnF w false = s
      · rw [if_pos e0, ← e0, typF_name w false h2 hw]; rfl
      · rw [if_neg e0, w64 (by decide) (by decide), l21_1_eq, if_pos (by decide), show decide ((0 : Int) + 1 = 1) = true from rfl, eRName (k + 3) w true h2 hw (by omega), Option.bind_some, res24_eq]
        by_cases e1 : tnF w true = s
        · rw [if_pos e1, ← e1, typF_name w true h2 hw]; rfl
        · rw [if_neg e1, w64 (by decide) (by decide), l21_1_eq, if_neg (by decide), w64 (by omega) (by omega)]
          have := ih (w + 1) m (by omega) (by omega) (by omega) (by omega) (by
            rcases h5 with h5 | h5
            · exact .inl h5
            · by_cases h0 : (typF s).1 = 0
              · exact .inl h0
              · obtain ⟨g1, g2, g3⟩ := typF_spec s hb h0
                have : w ≠ (typF s).1 := fun e => by
                  cases hs : (typF s).2 with
                  | false => rw [hs, ← e] at g1; exact e0 g1.symm
                  | true => rw [hs, ← e] at g1; exact e1 g1.symm
                exact .inr (by omega))
          rw [show ((w + 1 : Nat) : Int) = (w : Int) + 1 by omega] at this
          exact this
    · obtain rfl : w = 65 := by omega
      exact (by
        have := ih 65 (m + 1) (by omega) (by omega) (by omega) (by omega) h5
        rw [l21_0_eq] at this
        exact this)
theorem eRType (k : Nat) (s : List UInt8) (hk : 100 ≤ k) : evF T k 21 [.str s] [] = tyB (typF s) := by
  obtain ⟨k, rfl⟩ : ∃ k', k = k' + 1 := ⟨k - 1, by omega⟩
  rw [f21_eq]
  by_cases hb : s = boolW
  · rw [if_pos (show s = [(98 : UInt8), (111 : UInt8), (111 : UInt8), (108 : UInt8)] from hb), hb]; rfl
  · rw [if_neg (show ¬ s = [(98 : UInt8), (111 : UInt8), (111 : UInt8), (108 : UInt8)] from hb)]
    refine l21_ok s hb 0 false k (by omega) 64 1 k (by omega) (by omega) (by omega) (by omega) ?_
    by_cases h0 : (typF s).1 = 0
    · exact .inl h0
    · exact .inr (typF_spec s hb h0).2.1
def KWS : List (List UInt8) := [[(97 : UInt8), (115 : UInt8)], [(98 : UInt8), (108 : UInt8), (111 : UInt8), (99 : UInt8), (107 : UInt8), (115 : UInt8)], [(99 : UInt8), (111 : UInt8), (109 : UInt8), (112 : UInt8), (108 : UInt8), (101 : UInt8), (116 : UInt8), (101 : UInt8)], [(99 : UInt8), (121 : UInt8), (99 : UInt8), (108 : UInt8), (105 : UInt8), (99 : UInt8)], [(101 : UInt8), (108 : UInt8), (115 : UInt8), (101 : UInt8)], [(102 : UInt8), (97 : UInt8), (108 : UInt8), (115 : UInt8), (101 : UInt8)], [(102 : UInt8), (110 : UInt8)], [(102 : UInt8), (111 : UInt8), (114 : UInt8)], [(105 : UInt8), (102 : UInt8)], [(105 : UInt8), (110 : UInt8)], [(107 : UInt8), (101 : UInt8), (114 : UInt8), (110 : UInt8), (101 : UInt8), (108 : UInt8)], [(108 : UInt8), (101 : UInt8), (116 : UInt8)], [(111 : UInt8), (117 : UInt8), (116 : UInt8)], [(114 : UInt8), (101 : UInt8), (99 : UInt8), (118 : UInt8)], [(114 : UInt8), (101 : UInt8), (116 : UInt8), (117 : UInt8), (114 : UInt8), (110 : UInt8)], [(115 : UInt8), (101 : UInt8), (110 : UInt8), (100 : UInt8)], [(116 : UInt8), (114 : UInt8), (117 : UInt8), (101 : UInt8)], [(118 : UInt8), (97 : UInt8), (114 : UInt8)], [(119 : UInt8), (104 : UInt8), (105 : UInt8), (108 : UInt8), (101 : UInt8)]]
def KWF (s : List UInt8) : Bool := decide (0 < (typF s).1) || decide (s ∈ KWS)
theorem eKW (k : Nat) (s : List UInt8) (hs : s.length ≤ 281474976710656) (hk : 1020 ≤ k) : evF T k 22 [.str s] [] = some ([.bool (KWF s)], []) := by
  obtain ⟨k, rfl⟩ : ∃ k', k = k' + 3 := ⟨k - 3, by omega⟩
  rw [f22_eq, eType _ s hs]
  unfold KWF tyA
  rw [Option.bind_some, res20_eq]
  by_cases h : 0 < (typF s).1
  · rw [if_pos (decide_eq_true h), decide_eq_true h]; rfl
  · rw [if_neg (by simp; omega), decide_eq_false h]
    exact congrArg (fun z : Option (Ans N) => z.bind fun r => res37 r fun y => some ([PV.bool y], [])) (eHas s KWS (by decide) (k + 2) (by omega))
theorem eRKW (k : Nat) (s : List UInt8) (hk : 1020 ≤ k) : evF T k 19 [.str s] [] = some ([.bool (KWF s)], []) := by
  obtain ⟨k, rfl⟩ : ∃ k', k = k' + 2 := ⟨k - 2, by omega⟩
  have e34 : evF T (k + 1) 34 [] [] = some ([.vsl none .str KWS], []) := f34_eq k
  rw [f19_eq, e34, Option.bind_some, res34_eq, eOne s KWS (by decide) _ (by omega), Option.bind_some, res32_eq, eRType _ s (by omega)]
  unfold KWF tyB
  rw [Option.bind_some, res21_eq]
  by_cases h : s ∈ KWS
  · rw [if_pos (decide_eq_true h), decide_eq_true h, Bool.or_true]
  · rw [if_neg (by simpa using h), decide_eq_false h, Bool.or_false]
    exact sb (decide_eq_decide.mpr (by omega))

end Go.Proofs.YtpcieagmnllimaaDoor
