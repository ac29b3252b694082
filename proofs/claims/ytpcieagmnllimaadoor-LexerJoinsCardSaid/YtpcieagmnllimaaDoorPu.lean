import Derived.Test.YtpcieagmnllimaaDoorShelf
import Derived.Test.YtpcieagmnllimaaDoorD
import Derived.Lib.Strings
import Derived.Lib.Walk
import Derived.Lib.ConvBytes
import Derived.Lib.AtoiAllMem
import Derived.Lib.Hide
import Derived.Laws.Strings3
import Derived.Laws.Closers25
import Derived.Laws.Closers25b
import Derived.WalkKit
import Derived.BigCall
import Derived.BigGuard
set_option linter.all false
namespace Go.Proofs.YtpcieagmnllimaaDoor
open Go Go.RowKit Go.Proofs
/-- The answer of ParseUint at digits. -/
def puV (v : Nat) : Value := if v < 18446744073709551616 then .tuple #[.int .u64 v, .nilIface] else .tuple #[.int .u64 18446744073709551615, .iface 81 (.int .i64 1)]
theorem lower_bits : ∀ c : UInt8, (97 ≤ c.toNat ∧ c.toNat ≤ 102 → bits .or .u8 (c.toNat : Int) 32 = (c.toNat : Int)) ∧ (65 ≤ c.toNat ∧ c.toNat ≤ 70 → bits .or .u8 (c.toNat : Int) 32 = (c.toNat : Int) + 32) := by
  have h : ∀ n : Fin 256, (97 ≤ n.val ∧ n.val ≤ 102 → bits .or .u8 (n.val : Int) 32 = (n.val : Int)) ∧ (65 ≤ n.val ∧ n.val ≤ 70 → bits .or .u8 (n.val : Int) 32 = (n.val : Int) + 32) := by decide +kernel
  intro c
  exact h ⟨c.toNat, c.toNat_lt⟩
set_option maxHeartbeats 32000000 in
set_option maxRecDepth 100000 in
theorem pu16 (t : ByteArray) (hne : t.size ≠ 0) (hmax : t.size ≤ 9223372036854775806) (hd : ∀ c ∈ t.data.toList, dv c.toNat < 16) (w : World) :
    Calls Tryd.prog 74 #[.string t, .int .i64 16, .int .i64 64] w fun e w' => e = .returned (puV (valB 16 0 t.data.toList)) ∧ w' = Lib.bytesWorld w 5 t := by
  have hemp : t.toList.isEmpty = false := by
    rw [← decide_eq_emptyBytes]
    exact decide_eq_false (fun h => hne (by rw [h]; rfl))
  have hcv := Lib.run_convert_string_bytes (P := Tryd.prog) w 9 37 5 t (u := .string) Tryd.underlying9 Tryd.underlying37 Tryd.underlying5
  have hB : ∀ j, j < t.size → (Lib.bytesWorld w 5 t).cell? ⟨w.heap.size, j, none⟩ = some (.int .u8 (t.data.toList.getD j 0).toNat) := fun j hj => Lib.bytesWorld_cell w 5 t j hj
  obtain ⟨W1, hW1⟩ : ∃ W1, W1 = Lib.bytesWorld w 5 t := ⟨_, rfl⟩
  rw [← hW1] at hcv hB ⊢
  clear hW1
  obtain ⟨bs, hL⟩ : ∃ bs, bs = t.data.toList := ⟨_, rfl⟩
  have hLn : bs.length = t.size := by rw [hL, Lib.size_eq]
  rw [← hL] at hB hd ⊢
  clear hL
  have hmv : IntKind.u64.wrap (IntKind.u64.wrap 18446744073709551616 - 1) = 18446744073709551615 := by
    rw [IntKind.wrap_u64, IntKind.wrap_u64]
    decide
  go_enter Tryd.func74, Tryd.ntmps74
  go_wp2
  go_loop [12, 13, 101] (fun vu vn vi => ∃ (k acc : Nat) (a : Int), vu = .bool false ∧ vn = .int .u64 a ∧ vi = .int .i64 k ∧ k ≤ t.size ∧ Hid (a = (acc : Int) ∧ acc < 18446744073709551616 ∧ valB 16 0 bs = valB 16 acc (bs.drop k)))
    (fun _ _ vi => t.size - (intOf vi).toNat)
  case atStart => exact ⟨0, 0, 0, rfl, rfl, rfl, by omega, rfl, by omega, rfl⟩
  case round =>
    obtain ⟨k, acc, a, rfl, rfl, rfl, hk, hh⟩ := hrel
    obtain ⟨ha, hacc, hval⟩ := hh.out
    clear hh
    have a0 : 0 ≤ a := by omega
    have a1 : a < 18446744073709551616 := by omega
    by_cases hkn : k < t.size
    · have hc := hB k hkn
      have hdrop : bs.drop k = bs[k]'(by omega) :: bs.drop (k + 1) := List.drop_eq_getElem_cons (by omega)
      have hget : bs.getD k 0 = bs[k]'(by omega) := by simp [List.getD, List.getElem?_eq_getElem (show k < bs.length by omega)]
      have hdv := hd (bs[k]'(by omega)) (List.getElem_mem _)
      rw [hdrop] at hval
      rw [hget] at hc
      generalize bs[k]'(by omega) = c at hc hval hdv
      have hc256 : c.toNat < 256 := c.toNat_lt
      replace hval : valB 16 0 bs = valB 16 (acc * 16 + dv c.toNat) (bs.drop (k + 1)) := hval
      have hge := valB_ge 16 (by omega) (bs.drop (k + 1)) (acc * 16 + dv c.toNat)
      clear hB hdrop hget
      by_cases hdig : 48 ≤ c.toNat ∧ c.toNat ≤ 57
      · obtain ⟨hd0, hd1⟩ := hdig
        have hdvv : dv c.toNat = c.toNat - 48 := if_pos ⟨hd0, hd1⟩
        by_cases hcut : 1152921504606846976 ≤ acc
        · have hF : puV (valB 16 0 bs) = .tuple #[.int .u64 18446744073709551615, .iface 81 (.int .i64 1)] := by unfold puV; rw [if_neg (by omega)]
          replace hF := Lib.hid hF
          have icut : 1152921504606846976 ≤ a := by omega
          clear hcut hacc ha hval hge hdv hdvv
          go_wp2
          go_ret2
          exact ⟨congrArg Ending.returned hF.out.symm, rfl⟩
        · have HN : Hid (a * 16 + ((c.toNat : Int) - 48) = ((acc * 16 + dv c.toNat : Nat) : Int) ∧ acc * 16 + dv c.toNat < 18446744073709551616 ∧ valB 16 0 bs = valB 16 (acc * 16 + dv c.toNat) (bs.drop (k + 1))) := Lib.hid ⟨by omega, by omega, hval⟩
          have icut : a < 1152921504606846976 := by omega
          clear hcut hacc ha hval hge hdv hdvv
          go_wp2
          refine ⟨⟨k + 1, acc * 16 + dv c.toNat, a * 16 + ((c.toNat : Int) - 48), rfl, (by first | rfl | (congr 1; omega)), (by first | rfl | (congr 1; omega)), by omega, HN⟩, by simp [intOf]; omega⟩
      · by_cases hlo : 97 ≤ c.toNat ∧ c.toNat ≤ 102
        · have hdvv : dv c.toNat = c.toNat - 87 := by unfold dv; rw [if_neg hdig, if_pos hlo]
          have hlowc : ∀ W, Calls Tryd.prog 86 #[.int .u8 (c.toNat : Int)] W fun e w' => e = .returned (.int .u8 (c.toNat : Int)) ∧ w' = W := fun W => by
            have := Tryd.internal_strconv_lower (c.toNat : Int) W
            rwa [(lower_bits c).1 hlo] at this
          obtain ⟨hd0, hd1⟩ := hlo
          by_cases hcut : 1152921504606846976 ≤ acc
          · have hF : puV (valB 16 0 bs) = .tuple #[.int .u64 18446744073709551615, .iface 81 (.int .i64 1)] := by unfold puV; rw [if_neg (by omega)]
            replace hF := Lib.hid hF
            have icut : 1152921504606846976 ≤ a := by omega
            clear hcut hacc ha hval hge hdv hdvv
            go_wp2_with (go_at_call 86; refine (hlowc _).mono ?_; rintro e w' ⟨rfl, rfl⟩)
            go_ret2
            exact ⟨congrArg Ending.returned hF.out.symm, rfl⟩
          · have HN : Hid (a * 16 + ((c.toNat : Int) - 97 + 10) = ((acc * 16 + dv c.toNat : Nat) : Int) ∧ acc * 16 + dv c.toNat < 18446744073709551616 ∧ valB 16 0 bs = valB 16 (acc * 16 + dv c.toNat) (bs.drop (k + 1))) := Lib.hid ⟨by omega, by omega, hval⟩
            have icut : a < 1152921504606846976 := by omega
            clear hcut hacc ha hval hge hdv hdvv
            go_wp2_with (go_at_call 86; refine (hlowc _).mono ?_; rintro e w' ⟨rfl, rfl⟩)
            refine ⟨⟨k + 1, acc * 16 + dv c.toNat, a * 16 + ((c.toNat : Int) - 97 + 10), rfl, (by first | rfl | (congr 1; omega)), (by first | rfl | (congr 1; omega)), by omega, HN⟩, by simp [intOf]; omega⟩
        · have hup : 65 ≤ c.toNat ∧ c.toNat ≤ 70 := by
            unfold dv at hdv
            rw [if_neg hdig, if_neg hlo] at hdv
            by_cases h : 65 ≤ c.toNat ∧ c.toNat ≤ 70
            · exact h
            · rw [if_neg h] at hdv; omega
          have hdvv : dv c.toNat = c.toNat - 55 := by unfold dv; rw [if_neg hdig, if_neg hlo, if_pos hup]
          have hlowc : ∀ W, Calls Tryd.prog 86 #[.int .u8 (c.toNat : Int)] W fun e w' => e = .returned (.int .u8 ((c.toNat : Int) + 32)) ∧ w' = W := fun W => by
            have := Tryd.internal_strconv_lower (c.toNat : Int) W
            rwa [(lower_bits c).2 hup] at this
          obtain ⟨hd0, hd1⟩ := hup
          clear hlo
          by_cases hcut : 1152921504606846976 ≤ acc
          · have hF : puV (valB 16 0 bs) = .tuple #[.int .u64 18446744073709551615, .iface 81 (.int .i64 1)] := by unfold puV; rw [if_neg (by omega)]
            replace hF := Lib.hid hF
            have icut : 1152921504606846976 ≤ a := by omega
            clear hcut hacc ha hval hge hdv hdvv
            go_wp2_with (go_at_call 86; refine (hlowc _).mono ?_; rintro e w' ⟨rfl, rfl⟩)
            go_ret2
            exact ⟨congrArg Ending.returned hF.out.symm, rfl⟩
          · have HN : Hid (a * 16 + ((c.toNat : Int) + 32 - 97 + 10) = ((acc * 16 + dv c.toNat : Nat) : Int) ∧ acc * 16 + dv c.toNat < 18446744073709551616 ∧ valB 16 0 bs = valB 16 (acc * 16 + dv c.toNat) (bs.drop (k + 1))) := Lib.hid ⟨by omega, by omega, hval⟩
            have icut : a < 1152921504606846976 := by omega
            clear hcut hacc ha hval hge hdv hdvv
            go_wp2_with (go_at_call 86; refine (hlowc _).mono ?_; rintro e w' ⟨rfl, rfl⟩)
            refine ⟨⟨k + 1, acc * 16 + dv c.toNat, a * 16 + ((c.toNat : Int) + 32 - 97 + 10), rfl, (by first | rfl | (congr 1; omega)), (by first | rfl | (congr 1; omega)), by omega, HN⟩, by simp [intOf]; omega⟩
    · have hkk : k = t.size := by omega
      subst hkk
      have hE : valB 16 acc (bs.drop t.size) = acc := by rw [List.drop_eq_nil_of_le (by omega)]; rfl
      rw [hE] at hval
      have hF : puV (valB 16 0 bs) = .tuple #[.int .u64 a, .nilIface] := by unfold puV; rw [if_pos (by omega), hval, ha]
      replace hF := Lib.hid hF
      clear hacc ha hval hd hE
      go_wp2
      go_ret2
      exact ⟨congrArg Ending.returned hF.out.symm, rfl⟩
set_option maxHeartbeats 32000000 in
set_option maxRecDepth 100000 in
theorem pu2 (t : ByteArray) (hne : t.size ≠ 0) (hmax : t.size ≤ 9223372036854775806) (hd : ∀ c ∈ t.data.toList, dv c.toNat < 2) (w : World) :
    Calls Tryd.prog 74 #[.string t, .int .i64 2, .int .i64 64] w fun e w' => e = .returned (puV (valB 2 0 t.data.toList)) ∧ w' = Lib.bytesWorld w 5 t := by
  have hemp : t.toList.isEmpty = false := by
    rw [← decide_eq_emptyBytes]
    exact decide_eq_false (fun h => hne (by rw [h]; rfl))
  have hcv := Lib.run_convert_string_bytes (P := Tryd.prog) w 9 37 5 t (u := .string) Tryd.underlying9 Tryd.underlying37 Tryd.underlying5
  have hB : ∀ j, j < t.size → (Lib.bytesWorld w 5 t).cell? ⟨w.heap.size, j, none⟩ = some (.int .u8 (t.data.toList.getD j 0).toNat) := fun j hj => Lib.bytesWorld_cell w 5 t j hj
  obtain ⟨W1, hW1⟩ : ∃ W1, W1 = Lib.bytesWorld w 5 t := ⟨_, rfl⟩
  rw [← hW1] at hcv hB ⊢
  clear hW1
  obtain ⟨bs, hL⟩ : ∃ bs, bs = t.data.toList := ⟨_, rfl⟩
  have hLn : bs.length = t.size := by rw [hL, Lib.size_eq]
  rw [← hL] at hB hd ⊢
  clear hL
  have hmv : IntKind.u64.wrap (IntKind.u64.wrap 18446744073709551616 - 1) = 18446744073709551615 := by
    rw [IntKind.wrap_u64, IntKind.wrap_u64]
    decide
  go_enter Tryd.func74, Tryd.ntmps74
  go_wp2
  go_loop [12, 13, 101] (fun vu vn vi => ∃ (k acc : Nat) (a : Int), vu = .bool false ∧ vn = .int .u64 a ∧ vi = .int .i64 k ∧ k ≤ t.size ∧ Hid (a = (acc : Int) ∧ acc < 18446744073709551616 ∧ valB 2 0 bs = valB 2 acc (bs.drop k)))
    (fun _ _ vi => t.size - (intOf vi).toNat)
  case atStart => exact ⟨0, 0, 0, rfl, rfl, rfl, by omega, rfl, by omega, rfl⟩
  case round =>
    obtain ⟨k, acc, a, rfl, rfl, rfl, hk, hh⟩ := hrel
    obtain ⟨ha, hacc, hval⟩ := hh.out
    clear hh
    have a0 : 0 ≤ a := by omega
    have a1 : a < 18446744073709551616 := by omega
    by_cases hkn : k < t.size
    · have hc := hB k hkn
      have hdrop : bs.drop k = bs[k]'(by omega) :: bs.drop (k + 1) := List.drop_eq_getElem_cons (by omega)
      have hget : bs.getD k 0 = bs[k]'(by omega) := by simp [List.getD, List.getElem?_eq_getElem (show k < bs.length by omega)]
      have hdv := hd (bs[k]'(by omega)) (List.getElem_mem _)
      rw [hdrop] at hval
      rw [hget] at hc
      generalize bs[k]'(by omega) = c at hc hval hdv
      have hc256 : c.toNat < 256 := c.toNat_lt
      replace hval : valB 2 0 bs = valB 2 (acc * 2 + dv c.toNat) (bs.drop (k + 1)) := hval
      have hge := valB_ge 2 (by omega) (bs.drop (k + 1)) (acc * 2 + dv c.toNat)
      clear hB hdrop hget
      have hdig : 48 ≤ c.toNat ∧ c.toNat ≤ 49 := by
        unfold dv at hdv
        by_cases h : 48 ≤ c.toNat ∧ c.toNat ≤ 57
        · rw [if_pos h] at hdv; omega
        · rw [if_neg h] at hdv
          by_cases h2 : 97 ≤ c.toNat ∧ c.toNat ≤ 102
          · rw [if_pos h2] at hdv; omega
          · rw [if_neg h2] at hdv
            by_cases h3 : 65 ≤ c.toNat ∧ c.toNat ≤ 70
            · rw [if_pos h3] at hdv; omega
            · rw [if_neg h3] at hdv; omega
      obtain ⟨hd0, hd1⟩ := hdig
      have hdvv : dv c.toNat = c.toNat - 48 := if_pos ⟨hd0, by omega⟩
      by_cases hcut : 9223372036854775808 ≤ acc
      · have hF : puV (valB 2 0 bs) = .tuple #[.int .u64 18446744073709551615, .iface 81 (.int .i64 1)] := by unfold puV; rw [if_neg (by omega)]
        replace hF := Lib.hid hF
        have icut : 9223372036854775808 ≤ a := by omega
        clear hcut hacc ha hval hge hdv hdvv
        go_wp2
        go_ret2
        exact ⟨congrArg Ending.returned hF.out.symm, rfl⟩
      · have HN : Hid (a * 2 + ((c.toNat : Int) - 48) = ((acc * 2 + dv c.toNat : Nat) : Int) ∧ acc * 2 + dv c.toNat < 18446744073709551616 ∧ valB 2 0 bs = valB 2 (acc * 2 + dv c.toNat) (bs.drop (k + 1))) := Lib.hid ⟨by omega, by omega, hval⟩
        have icut : a < 9223372036854775808 := by omega
        clear hcut hacc ha hval hge hdv hdvv
        go_wp2
        refine ⟨⟨k + 1, acc * 2 + dv c.toNat, a * 2 + ((c.toNat : Int) - 48), rfl, (by first | rfl | (congr 1; omega)), (by first | rfl | (congr 1; omega)), by omega, HN⟩, by simp [intOf]; omega⟩
    · have hkk : k = t.size := by omega
      subst hkk
      have hE : valB 2 acc (bs.drop t.size) = acc := by rw [List.drop_eq_nil_of_le (by omega)]; rfl
      rw [hE] at hval
      have hF : puV (valB 2 0 bs) = .tuple #[.int .u64 a, .nilIface] := by unfold puV; rw [if_pos (by omega), hval, ha]
      replace hF := Lib.hid hF
      clear hacc ha hval hd hE
      go_wp2
      go_ret2
      exact ⟨congrArg Ending.returned hF.out.symm, rfl⟩
set_option maxHeartbeats 4000000 in
set_option maxRecDepth 100000 in
theorem pub_ok (b : Int) (s : ByteArray) (u : Nat) (w : World) (hI : Calls Tryd.prog 74 #[.string s, .int .i64 b, .int .i64 64] w fun e w' => e = .returned (.tuple #[.int .u64 u, .nilIface]) ∧ w' = Lib.bytesWorld w 5 s) :
    Calls Tryd.prog 63 #[.string s, .int .i64 b, .int .i64 64] w fun e w' => e = .returned (.tuple #[.int .u64 u, .nilIface]) ∧ w' = Lib.bytesWorld w 5 s := by
  obtain ⟨W1, hW1⟩ : ∃ W1, W1 = Lib.bytesWorld w 5 s := ⟨_, rfl⟩
  rw [← hW1] at hI ⊢
  go_enter Tryd.func63, Tryd.ntmps63
  go_wp2_with (go_at_call 74; refine hI.mono ?_; rintro e W2 ⟨rfl, hW⟩)
  go_wp2
  go_ret2
  exact ⟨rfl, hW1.symm⟩
set_option maxHeartbeats 4000000 in
set_option maxRecDepth 100000 in
theorem pub_range (b : Int) (s : ByteArray) (hlim : s.size ≤ 281474976710656) (ev : Value) (w : World) (hv : w.cell? ⟨2, 0, none⟩ = some ev) (hev : ev = .nilIface ∨ ∃ te pe, ev = .iface te pe)
    (hI : Calls Tryd.prog 74 #[.string s, .int .i64 b, .int .i64 64] w fun e w' => e = .returned (.tuple #[.int .u64 18446744073709551615, .iface 81 (.int .i64 1)]) ∧ w' = Lib.bytesWorld w 5 s) :
    Calls Tryd.prog 63 #[.string s, .int .i64 b, .int .i64 64] w fun e w' => ∃ v, e = .returned (.tuple #[.int .u64 18446744073709551615, .iface 84 v]) ∧ Below w.heap.size w w' := by
  have hG : 2 < w.heap.size := Lib.lt_of_cell hv
  have hb1 := Lib.bytesWorld_below w 5 s
  obtain ⟨W1, hW1⟩ : ∃ W1, W1 = Lib.bytesWorld w 5 s := ⟨_, rfl⟩
  rw [← hW1] at hI hb1
  have hv1 : W1.cell? ⟨2, 0, none⟩ = some ev := (hb1.cell (show (⟨2, 0, none⟩ : Addr).block < w.heap.size from hG)).trans hv
  clear hW1
  go_enter Tryd.func63, Tryd.ntmps63
  go_wp2_with (go_at_call 74; refine hI.mono ?_)
  rintro e W2 ⟨rfl, rfl⟩
  go_wp2_with (go_at_call 53; refine (Tryd.strconv_toError_range ⟨#[80, 97, 114, 115, 101, 85, 105, 110, 116]⟩ s b 64 ev _ hlim hv1 hev).mono ?_)
  rintro e W3 ⟨N, rfl, h1, h2, h3⟩
  go_wp2
  go_ret2
  exact ⟨_, rfl, hb1.trans (h3.mono hb1.size)⟩
/-- The kit's reading at base 10. -/
theorem pu10 : ∀ (l : List UInt8) (acc : Nat), acc < 18446744073709551616 → (∀ c ∈ l, dv c.toNat < 10) → Lib.parseUintM 18446744073709551615 acc l = if valB 10 acc l < 18446744073709551616 then .ok (valB 10 acc l) else .range
  | [], acc, ha, _ => by simp [Lib.parseUintM, valB, ha]
  | c :: l, acc, ha, hd => by
    have h0 := hd c (by simp)
    have hdig : 48 ≤ c.toNat ∧ c.toNat ≤ 57 := by
      unfold dv at h0
      by_cases h : 48 ≤ c.toNat ∧ c.toNat ≤ 57
      · exact h
      · rw [if_neg h] at h0
        by_cases h2 : 97 ≤ c.toNat ∧ c.toNat ≤ 102
        · rw [if_pos h2] at h0; omega
        · rw [if_neg h2] at h0
          by_cases h3 : 65 ≤ c.toNat ∧ c.toNat ≤ 70
          · rw [if_pos h3] at h0; omega
          · rw [if_neg h3] at h0; omega
    have hdv : dv c.toNat = c.toNat - 48 := if_pos hdig
    have hge := valB_ge 10 (by omega) l (acc * 10 + dv c.toNat)
    have hcons : valB 10 acc (c :: l) = valB 10 (acc * 10 + dv c.toNat) l := rfl
    rw [Lib.parseUintM, if_pos hdig, hcons]
    by_cases h1 : 1844674407370955162 ≤ acc
    · rw [if_pos h1, if_neg (by omega)]
    · rw [if_neg h1]
      by_cases h2 : 18446744073709551615 < acc * 10 + (c.toNat - 48)
      · rw [if_pos h2, if_neg (by omega)]
      · rw [if_neg h2, ← hdv]
        exact pu10 l _ (by omega) (fun c hc => hd c (by simp [hc]))
end Go.Proofs.YtpcieagmnllimaaDoor
