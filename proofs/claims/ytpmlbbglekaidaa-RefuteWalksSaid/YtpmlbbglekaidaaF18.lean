-- Written for this claim by programs of this session (wip/print2 in its repo: a changed printer, a shortener, a packer). Lean checks it.
import Derived.Test.YtpmlbbglekaidaaP0
namespace Go.Proofs.Ytpmlbbglekaidaa.PAll
open Go.RowKit Go.Proofs.YtpmlbbglekaidaaW.PrintWords Go.Proofs.YtpmlbbglekaidaaW.PrintLast Go.Proofs.YtpmlbbglekaidaaW.PrintMore
attribute [local go_sem] max2_int min2_int max_two min_two max_three min_three max_four min_four   -- for this text's walks alone
set_option linter.unusedVariables false
set_option linter.unusedSimpArgs false

/-! ### refute_connected: function 18 -/
mutual
def refute_connected.l0 : Nat → List (S54) → List Bool → Int → List (S54) → Int → Int → Option (Bool)
  | 0, _, _, _, _, _, _ => none
  | k + 1, x0, x3, x4, x12, x13, x14 => if x14 < x13 then (if 0 ≤ x14 then (if x14 < (x12.length : Int) then (refute_connected.l1 k x0 x3 x4 x14 x12 x13 x14 ((rd_T54 x12 x14).f2) (((rd_T54 x12 x14).f2).length : Int) 0) else (none)) else (none)) else (some (x4 == (wrap64 ((x0.length : Int) - 1))))
def refute_connected.l1 : Nat → List (S54) → List Bool → Int → Int → List (S54) → Int → Int → List Int → Int → Int → Option (Bool)
  | 0, _, _, _, _, _, _, _, _, _, _ => none
  | k + 1, x0, x3, x4, x5, x12, x13, x14, x20, x21, x22 => if x22 < x21 then (if 0 ≤ x22 then (if x22 < (x20.length : Int) then (if (rd x20 x22) ≤ x5 then (refute_connected.j2 k x0 x3 x4 x5 (rd x20 x22) x12 x13 x14 x20 x21 x22 true) else (if (rd x20 x22) ≥ (x0.length : Int) then (refute_connected.j2 k x0 x3 x4 x5 (rd x20 x22) x12 x13 x14 x20 x21 x22 true) else (if 0 ≤ (rd x20 x22) then (if (rd x20 x22) < (x3.length : Int) then (refute_connected.j2 k x0 x3 x4 x5 (rd x20 x22) x12 x13 x14 x20 x21 x22 (rdOf false x3 (rd x20 x22))) else (none)) else (none)))) else (none)) else (none)) else (refute_connected.l0 k x0 x3 x4 x12 x13 (wrap64 (x14 + 1)))
def refute_connected.j2 : Nat → List (S54) → List Bool → Int → Int → Int → List (S54) → Int → Int → List Int → Int → Int → Bool → Option (Bool)
  | 0, _, _, _, _, _, _, _, _, _, _, _, _ => none
  | k + 1, x0, x3, x4, x5, x8, x12, x13, x14, x20, x21, x22, x40 => if x40 = true then (some false) else (if 0 ≤ x8 then (if x8 < (x3.length : Int) then (refute_connected.l1 k x0 (x3.set (x8 : Int).toNat true) (wrap64 (x4 + 1)) x5 x12 x13 x14 x20 x21 (wrap64 (x22 + 1))) else (none)) else (none))
end
def refute_connected.f (k : Nat) (l0 : List (S54)) : Option (Bool) := if 0 ≤ (l0.length : Int) then (if ((l0.length : Int) : Int).toNat ≤ 281474976710656 then (refute_connected.l0 k l0 (List.replicate ((l0.length : Int) : Int).toNat false) 0 l0 (l0.length : Int) 0) else (none)) else (none)
theorem refute_connected.mono_l : ∀ k, (∀ y0 y1 y2 y3 y4 y5, LeO (refute_connected.l0 k y0 y1 y2 y3 y4 y5) (refute_connected.l0 (k + 1) y0 y1 y2 y3 y4 y5)) ∧ (∀ y0 y1 y2 y3 y4 y5 y6 y7 y8 y9, LeO (refute_connected.l1 k y0 y1 y2 y3 y4 y5 y6 y7 y8 y9) (refute_connected.l1 (k + 1) y0 y1 y2 y3 y4 y5 y6 y7 y8 y9)) ∧ (∀ y0 y1 y2 y3 y4 y5 y6 y7 y8 y9 y10 y11, LeO (refute_connected.j2 k y0 y1 y2 y3 y4 y5 y6 y7 y8 y9 y10 y11) (refute_connected.j2 (k + 1) y0 y1 y2 y3 y4 y5 y6 y7 y8 y9 y10 y11))
  | 0 => by refine ⟨?_, ?_, ?_⟩ <;> intros <;> intro r h <;> simp [refute_connected.l0, refute_connected.l1, refute_connected.j2] at h
  | k + 1 => by
    obtain ⟨ih0, ih1, ih2⟩ := refute_connected.mono_l k
    refine ⟨?_, ?_, ?_⟩ <;> intros <;> (first | unfold refute_connected.l0 | unfold refute_connected.l1 | unfold refute_connected.j2) <;> repeat' first | (with_reducible first | apply ih0 | apply ih1 | apply ih2 | exact LeO.refl _ | exact LeO.none _ | refine LeO.ite ?_ ?_ | refine LeO.bind ?_ (fun _ => ?_)) | apply ih0 | apply ih1 | apply ih2 | exact LeO.none _ | refine LeO.ite ?_ ?_ | refine LeO.bind ?_ (fun _ => ?_)
theorem refute_connected.mono : ∀ a0 k, LeO (refute_connected.f k a0) (refute_connected.f (k + 1) a0) := by
 intro a0 k
 obtain ⟨ih0, ih1, ih2⟩ := refute_connected.mono_l k
 unfold refute_connected.f
 repeat' first | (with_reducible first | apply ih0 | apply ih1 | apply ih2 | exact LeO.refl _ | exact LeO.none _ | refine LeO.ite ?_ ?_ | refine LeO.bind ?_ (fun _ => ?_)) | apply ih0 | apply ih1 | apply ih2 | exact LeO.none _ | refine LeO.ite ?_ ?_ | refine LeO.bind ?_ (fun _ => ?_)
set_option maxHeartbeats 8000000 in
set_option maxRecDepth 100000 in
theorem refute_connected.calls (k : Nat) (A0 : Option Addr) (c0 : Nat) (l0 : List (S54)) (r : Bool) (w : World) (hr0 : Kd.C k54 w A0 l0.length l0) (hc0 : l0.length ≤ c0) (h : refute_connected.f k l0 = some r) :
    Calls Try.prog 18 #[.slice A0 l0.length c0] w fun e w' => e = .returned (.bool r) ∧ Below w.heap.size w w' := by
 have hu54 := Try.underlying54
 have HR0 := Aside0.mk hr0
 have HC0 := Aside0.mk hc0
 clear hr0 hc0
 have HB := Aside0.mk (Below.refl w.heap.size w)
 have H : (if 0 ≤ (l0.length : Int) then (if ((l0.length : Int) : Int).toNat ≤ 281474976710656 then (refute_connected.l0 k l0 (List.replicate ((l0.length : Int) : Int).toNat false) 0 l0 (l0.length : Int) 0) else (none)) else (none)) = some r := h
 clear h
 by_cases c2 : 0 ≤ (l0.length : Int)
 · rw [if_pos c2] at H
   have c2b0 := eq_true c2
   have c2b1 : decide (0 ≤ (l0.length : Int)) = true := decide_eq_true c2
   clear c2
   by_cases c3 : ((l0.length : Int) : Int).toNat ≤ 281474976710656
   · rw [if_pos c3] at H
     have c3b0 := eq_true c3
     have c3b1 : decide (((l0.length : Int) : Int).toNat ≤ 281474976710656) = true := decide_eq_true c3
     clear c3
     obtain ⟨y133, hy133⟩ : ∃ y_ : List Bool, y_ = (List.replicate ((l0.length : Int) : Int).toNat false) := ⟨_, rfl⟩
     replace H : (refute_connected.l0 k l0 y133 0 l0 (l0.length : Int) 0) = some r := by first | (rw [hy133]; with_reducible exact H) | (have H2_ := (Option.bind_some _ _).symm.trans H; rw [hy133]; with_reducible exact H2_) | (have H2_ := (Option.bind_some _ _).symm.trans H; with_reducible exact H2_) | with_reducible exact H | (rw [hy133]; exact H) | exact H
     have Ny133 := Aside0.mk hy133
     clear hy133
     have H' := Aside0.mk H
     clear H
     go_enter Try.func18, Try.ntmps18
     go_wp2_with (first | ((with_reducible refine gate_dst (N := 11) rfl ?_); (try (refine gate_guard (by rfl) ?_; dsimp only)); refine Kd.R_make Kd.bool _ 4 rfl (N := 11) rfl 71 _ _ rfl (l0.length : Int) rfl rfl Try.underlying71 (.bool false) 1 info4 rfl (by decide) (by omega) false (ok := fun _ => True) (okp := fun _ => True) rfl (fun _ hk => hk) trivial (of_decide_eq_true (by first | (with_reducible assumption) | assumption)) (Nat.le_trans (Nat.mul_le_mul_right _ (of_decide_eq_true (by first | (with_reducible assumption) | assumption) : (l0.length : Int).toNat ≤ 281474976710656)) (by omega)) (Below.refl _ _) (Nat.le_refl _) ?_; intro v134 w4 ho5 hb hg_ hnew_; clear hg_ hnew_; (first | rw [← Ny133.out] at ho5 | (simp only [Int.reduceToNat] at ho5; rw [← Ny133.out] at ho5)); have n0_ := Aside0.mk (Kd.R_lower ho5 (below_size bl_)); have n1_ := Aside0.mk (below_step bl_ hb); clear HB; have HO135 := n0_; have HB := n1_; clear n0_ n1_; clear hb ho5))
     go_loopg [4, 14] k (fun kq v4 v14 w' => ∃ (x3_1 : List Bool) (x4_1 : Int) (x14_1 : Int), v4 = .int .i64 x4_1 ∧ v14 = .int .i64 x14_1 ∧ Aside0 (refute_connected.l0 kq l0 x3_1 x4_1 l0 (l0.length : Int) x14_1 = some r) ∧ Aside0 (kq ≤ k) ∧ Aside0 (Kd.R Kd.bool 4 w' w.heap.size (fun _ => True) v134 x3_1) ∧ Aside0 (Below w.heap.size w w'))
     case atStart => exact ⟨(y133), (0), (0), (by first | rfl | (simp; done) | (simp [*]; done)), (by first | rfl | (simp; done) | (simp [*]; done)), H', ⟨Nat.le_refl _⟩, ⟨R_ HO135⟩, ⟨bl_⟩⟩
     clear H'
     obtain ⟨x3_1, x4_1, x14_1, rfl, rfl, HA, HK1, HO_3, HB⟩ := hrel
     cases gk with
     | zero => exact absurd HA.out (by simp [refute_connected.l0])
     | succ k1 => ?_
     have H := HA.out
     clear HA
     simp only [refute_connected.l0] at H
     by_cases c6 : x14_1 < (l0.length : Int)
     · rw [if_pos c6] at H
       have c6b0 : decide (x14_1 < (l0.length : Int)) = true := decide_eq_true c6
       clear c6
       by_cases c7 : 0 ≤ x14_1
       · rw [if_pos c7] at H
         have c7b0 : decide (0 ≤ x14_1) = true := decide_eq_true c7
         clear c7
         by_cases c8 : x14_1 < (l0.length : Int)
         · rw [if_pos c8] at H
           have c8b0 : decide (x14_1 < (l0.length : Int)) = true := decide_eq_true c8
           clear c8
           have H' := Aside0.mk H
           clear H
           have p136 : 0 ≤ (x14_1 : Int) := of_decide_eq_true (by first | (with_reducible assumption) | assumption)
           have q136 : x14_1 < (l0.length : Int) := of_decide_eq_true (by first | (with_reducible assumption) | assumption)
           obtain ⟨ad136, A136_2, c136_2, A136_3, c136_3, e136, hx136_0, hx136_1, hx136_2, hx136_3, hx136_4, hx136_5, hx136_6, hl136_2, hi136_2, hl136_3, hi136_3⟩ := at_T54 HR0.out x14_1 p136 q136
           cases e136
           replace hx136_0 := hc_ HB hx136_0
           replace hx136_1 := hc_ HB hx136_1
           replace hx136_2 := hc_ HB hx136_2
           replace hx136_3 := hc_ HB hx136_3
           replace hx136_4 := hc_ HB hx136_4
           replace hx136_5 := hc_ HB hx136_5
           replace hx136_6 := hc_ HB hx136_6
           have HR136_2 := Aside0.mk hi136_2
           have HC136_2 := Aside0.mk hl136_2
           clear hi136_2 hl136_2
           have HR136_3 := Aside0.mk hi136_3
           have HC136_3 := Aside0.mk hl136_3
           clear hi136_3 hl136_3
           replace p136 := eq_true p136
           replace q136 := eq_true q136
           go_wp2_with (first | ((with_reducible refine gate_dst (N := 6) rfl ?_); (try (refine gate_guard (by rfl) ?_; dsimp only)); refine box_event ?hg (N := 6) ?hd (cs := #[.int .i64 0, .int .i64 0, .slice none 0 0, .slice none 0 0, .int .i64 0, .int .i64 0, .int .i64 0]) (t := 54) ?hr ?_; (case hd => rfl); (case hg => rfl); (case hr => first | (go_simp; done) | (go_simp; rfl)); intro gb137 hg w9 hbox hb; have n0_ := Aside0.mk (Kd.R_below (R_ HO_3) hb); have n1_ := Aside0.mk (below_step bl_ hb); have n2_ := Aside0.mk (hbox); have n3_ := Aside0.mk (gl_ (w := w) hg); have n4_ := Aside0.mk (gl_ (w := w) hg); clear HO_3; clear HB; have HO_3 := n0_; have HB := n1_; have BK137 := n2_; have GW137 := n3_; have GE137 := n4_; clear n0_ n1_ n2_ n3_ n4_; clear hb hbox hg; obtain ⟨hcz10_0, hcz10_1, hcz10_2, hcz10_3, hcz10_4, hcz10_5, hcz10_6⟩ := cells7 BK137; obtain ⟨hfz10_0, hfz10_1, hfz10_2, hfz10_3, hfz10_4, hfz10_5, hfz10_6⟩ := fz7 BK137))
           go_loopg [4, 22] k1 (fun kq v4 v22 w' => ∃ (x3_2 : List Bool) (x4_2 : Int) (x22_2 : Int), v4 = .int .i64 x4_2 ∧ v22 = .int .i64 x22_2 ∧ Aside0 (refute_connected.l1 kq l0 x3_2 x4_2 x14_1 l0 (l0.length : Int) x14_1 ((rd_T54 l0 x14_1).f2) (((rd_T54 l0 x14_1).f2).length : Int) x22_2 = some r) ∧ Aside0 (kq ≤ k1) ∧ Aside0 (Kd.R Kd.bool 4 w' w.heap.size (fun _ => True) v134 x3_2) ∧ Aside0 (w'.heap[gb137]? = some (.cells #[.int .i64 ((rd_T54 l0 x14_1).f0), .int .i64 ((rd_T54 l0 x14_1).f1), (.slice A136_2 ((rd_T54 l0 x14_1).f2).length c136_2), (.slice A136_3 ((rd_T54 l0 x14_1).f3).length c136_3), .int .i64 ((rd_T54 l0 x14_1).f4), .int .i64 ((rd_T54 l0 x14_1).f5), .int .i64 ((rd_T54 l0 x14_1).f6)] 54 (0, 0))) ∧ Aside0 (Below w.heap.size w w'))
           case atStart => exact ⟨(x3_1), (x4_1), (0), (by first | rfl | (simp; done) | (simp [*]; done)), (by first | rfl | (simp; done) | (simp [*]; done)), H', ⟨Nat.le_refl _⟩, ⟨by (with_reducible repeat (first | apply Kd.R_alloc | apply Kd.R_drewN | apply Kd.R_drew)); exact Kd.R_mono (Kd.R_far (p := ⟨gb137, 6, none⟩) (Kd.R_far (p := ⟨gb137, 5, none⟩) (Kd.R_far (p := ⟨gb137, 4, none⟩) (Kd.R_far (p := ⟨gb137, 3, none⟩) (Kd.R_far (p := ⟨gb137, 2, none⟩) (Kd.R_far (p := ⟨gb137, 1, none⟩) (Kd.R_far (p := ⟨gb137, 0, none⟩) (Kd.R_types HO_3.out BK137.out (by decide)) (fun _ hk => hk.2) (.int .i64 ((rd_T54 l0 x14_1).f0))) (fun _ hk => hk.2) (.int .i64 ((rd_T54 l0 x14_1).f1))) (fun _ hk => hk.2) (.slice A136_2 ((rd_T54 l0 x14_1).f2).length c136_2)) (fun _ hk => hk.2) (.slice A136_3 ((rd_T54 l0 x14_1).f3).length c136_3)) (fun _ hk => hk.2) (.int .i64 ((rd_T54 l0 x14_1).f4))) (fun _ hk => hk.2) (.int .i64 ((rd_T54 l0 x14_1).f5))) (fun _ hk => hk.2) (.int .i64 ((rd_T54 l0 x14_1).f6))) (fun _ hk => trivial)⟩, ⟨by (with_reducible repeat (first | refine blk_drewN ?_ _ | refine blk_drew ?_ | refine blk_alloc ?_ _)); refine blk_put (cs := #[.int .i64 ((rd_T54 l0 x14_1).f0), .int .i64 ((rd_T54 l0 x14_1).f1), .slice A136_2 ((rd_T54 l0 x14_1).f2).length c136_2, .slice A136_3 ((rd_T54 l0 x14_1).f3).length c136_3, .int .i64 ((rd_T54 l0 x14_1).f4), .int .i64 ((rd_T54 l0 x14_1).f5), .int .i64 0]) ?_ 6 _ rfl; (with_reducible repeat (first | refine blk_drewN ?_ _ | refine blk_drew ?_ | refine blk_alloc ?_ _)); refine blk_put (cs := #[.int .i64 ((rd_T54 l0 x14_1).f0), .int .i64 ((rd_T54 l0 x14_1).f1), .slice A136_2 ((rd_T54 l0 x14_1).f2).length c136_2, .slice A136_3 ((rd_T54 l0 x14_1).f3).length c136_3, .int .i64 ((rd_T54 l0 x14_1).f4), .int .i64 0, .int .i64 0]) ?_ 5 _ rfl; (with_reducible repeat (first | refine blk_drewN ?_ _ | refine blk_drew ?_ | refine blk_alloc ?_ _)); refine blk_put (cs := #[.int .i64 ((rd_T54 l0 x14_1).f0), .int .i64 ((rd_T54 l0 x14_1).f1), .slice A136_2 ((rd_T54 l0 x14_1).f2).length c136_2, .slice A136_3 ((rd_T54 l0 x14_1).f3).length c136_3, .int .i64 0, .int .i64 0, .int .i64 0]) ?_ 4 _ rfl; (with_reducible repeat (first | refine blk_drewN ?_ _ | refine blk_drew ?_ | refine blk_alloc ?_ _)); refine blk_put (cs := #[.int .i64 ((rd_T54 l0 x14_1).f0), .int .i64 ((rd_T54 l0 x14_1).f1), .slice A136_2 ((rd_T54 l0 x14_1).f2).length c136_2, .slice none 0 0, .int .i64 0, .int .i64 0, .int .i64 0]) ?_ 3 _ rfl; (with_reducible repeat (first | refine blk_drewN ?_ _ | refine blk_drew ?_ | refine blk_alloc ?_ _)); refine blk_put (cs := #[.int .i64 ((rd_T54 l0 x14_1).f0), .int .i64 ((rd_T54 l0 x14_1).f1), .slice none 0 0, .slice none 0 0, .int .i64 0, .int .i64 0, .int .i64 0]) ?_ 2 _ rfl; (with_reducible repeat (first | refine blk_drewN ?_ _ | refine blk_drew ?_ | refine blk_alloc ?_ _)); refine blk_put (cs := #[.int .i64 ((rd_T54 l0 x14_1).f0), .int .i64 0, .slice none 0 0, .slice none 0 0, .int .i64 0, .int .i64 0, .int .i64 0]) ?_ 1 _ rfl; (with_reducible repeat (first | refine blk_drewN ?_ _ | refine blk_drew ?_ | refine blk_alloc ?_ _)); refine blk_put (cs := #[.int .i64 0, .int .i64 0, .slice none 0 0, .slice none 0 0, .int .i64 0, .int .i64 0, .int .i64 0]) ?_ 0 _ rfl; (with_reducible repeat (first | refine blk_drewN ?_ _ | refine blk_drew ?_ | refine blk_alloc ?_ _)); exact BK137.out⟩, ⟨bl_⟩⟩
           clear H'
           obtain ⟨x3_2, x4_2, x22_2, rfl, rfl, HA, HK2, HO_3, BK137, HB⟩ := hrel
           cases gk with
           | zero => exact absurd HA.out (by simp [refute_connected.l1])
           | succ k2 => ?_
           have H := HA.out
           clear HA
           simp only [refute_connected.l1] at H
           by_cases c11 : x22_2 < (((rd_T54 l0 x14_1).f2).length : Int)
           · rw [if_pos c11] at H
             have c11b0 : decide (x22_2 < (((rd_T54 l0 x14_1).f2).length : Int)) = true := decide_eq_true c11
             clear c11
             by_cases c12 : 0 ≤ x22_2
             · rw [if_pos c12] at H
               have c12b0 : decide (0 ≤ x22_2) = true := decide_eq_true c12
               clear c12
               by_cases c13 : x22_2 < (((rd_T54 l0 x14_1).f2).length : Int)
               · rw [if_pos c13] at H
                 have c13b0 : decide (x22_2 < (((rd_T54 l0 x14_1).f2).length : Int)) = true := decide_eq_true c13
                 clear c13
                 have HC14 := Aside0.mk H
                 clear H
                 have p138 : 0 ≤ (x22_2 : Int) := of_decide_eq_true (by first | (with_reducible assumption) | assumption)
                 have q138 : x22_2 < (((rd_T54 l0 x14_1).f2).length : Int) := of_decide_eq_true (by first | (with_reducible assumption) | assumption)
                 obtain ⟨ad138, e138, hx138_0⟩ := Kd.at_int HR136_2.out x22_2 p138 q138
                 cases e138
                 replace hx138_0 := hc_ HB hx138_0
                 replace p138 := eq_true p138
                 replace q138 := eq_true q138
                 go_upto_region 9 with (fail)
                 go_cut [40] (fun v40 wc => ∃ (kq : Nat) (x40_13 : Bool), v40 = .bool x40_13 ∧ Aside0 (refute_connected.j2 kq l0 x3_2 x4_2 x14_1 (rd ((rd_T54 l0 x14_1).f2) x22_2) l0 (l0.length : Int) x14_1 ((rd_T54 l0 x14_1).f2) (((rd_T54 l0 x14_1).f2).length : Int) x22_2 x40_13 = some r) ∧ Aside0 (kq ≤ k2) ∧ Aside0 (Kd.R Kd.bool 4 wc w.heap.size (fun _ => True) v134 x3_2) ∧ Aside0 (wc.heap[gb137]? = some (.cells #[.int .i64 ((rd_T54 l0 x14_1).f0), .int .i64 ((rd_T54 l0 x14_1).f1), (.slice (some ad138) ((rd_T54 l0 x14_1).f2).length c136_2), (.slice A136_3 ((rd_T54 l0 x14_1).f3).length c136_3), .int .i64 ((rd_T54 l0 x14_1).f4), .int .i64 ((rd_T54 l0 x14_1).f5), .int .i64 ((rd_T54 l0 x14_1).f6)] 54 (0, 0))) ∧ Aside0 (Below w.heap.size w wc))
                 case first =>
                  have H := HC14.out
                  clear HC14
                  by_cases c15 : (rd ((rd_T54 l0 x14_1).f2) x22_2) ≤ x14_1
                  · rw [if_pos c15] at H
                    have c15b0 : decide ((rd ((rd_T54 l0 x14_1).f2) x22_2) ≤ x14_1) = true := decide_eq_true c15
                    clear c15
                    (first | rw [c15b0] | (simp only [i64_w, i32_w]; rw [c15b0]) | skip)
                    have H' := Aside0.mk H
                    clear H
                    go_wp2
                    go_meet
                    case rel => exact ⟨_, (true), (by first | rfl | (simp; done) | (simp [*]; done)), H', ⟨by have := HK1.out; have := HK2.out; first | omega | exact Nat.le_refl _⟩, ⟨R_ HO_3⟩, ⟨K_ BK137⟩, ⟨bl_⟩⟩
                  rw [if_neg c15] at H
                  have c15b0 : decide ((rd ((rd_T54 l0 x14_1).f2) x22_2) ≤ x14_1) = false := decide_eq_false c15
                  clear c15
                  (first | rw [c15b0] | (simp only [i64_w, i32_w]; rw [c15b0]) | skip)
                  by_cases c16 : (rd ((rd_T54 l0 x14_1).f2) x22_2) ≥ (l0.length : Int)
                  · rw [if_pos c16] at H
                    have c16b0 : decide ((l0.length : Int) ≤ (rd ((rd_T54 l0 x14_1).f2) x22_2)) = true := decide_eq_true c16
                    clear c16
                    have H' := Aside0.mk H
                    clear H
                    go_wp2
                    go_meet
                    case rel => exact ⟨_, (true), (by first | rfl | (simp; done) | (simp [*]; done)), H', ⟨by have := HK1.out; have := HK2.out; first | omega | exact Nat.le_refl _⟩, ⟨R_ HO_3⟩, ⟨K_ BK137⟩, ⟨bl_⟩⟩
                  rw [if_neg c16] at H
                  have c16b0 : decide ((l0.length : Int) ≤ (rd ((rd_T54 l0 x14_1).f2) x22_2)) = false := decide_eq_false c16
                  clear c16
                  by_cases c17 : 0 ≤ (rd ((rd_T54 l0 x14_1).f2) x22_2)
                  · rw [if_pos c17] at H
                    have c17b0 : decide (0 ≤ (rd ((rd_T54 l0 x14_1).f2) x22_2)) = true := decide_eq_true c17
                    clear c17
                    by_cases c18 : (rd ((rd_T54 l0 x14_1).f2) x22_2) < (x3_2.length : Int)
                    · rw [if_pos c18] at H
                      have c18b0 : decide ((rd ((rd_T54 l0 x14_1).f2) x22_2) < (x3_2.length : Int)) = true := decide_eq_true c18
                      clear c18
                      have H' := Aside0.mk H
                      clear H
                      obtain ⟨Ao19, co19, eo19⟩ := Kd.R_slice HO_3.out
                      subst eo19
                      have p139 : 0 ≤ ((rd ((rd_T54 l0 x14_1).f2) x22_2) : Int) := of_decide_eq_true (by first | (with_reducible assumption) | assumption)
                      have q139 : (rd ((rd_T54 l0 x14_1).f2) x22_2) < (x3_2.length : Int) := of_decide_eq_true (by first | (with_reducible assumption) | assumption)
                      obtain ⟨ad139, e139, hx139_0⟩ := Kd.at_bool (Kd.R_reads' HO_3.out).2.2 (rd ((rd_T54 l0 x14_1).f2) x22_2) p139 q139
                      cases e139
                      replace p139 := eq_true p139
                      replace q139 := eq_true q139
                      go_wp2
                      go_meet
                      case rel => exact ⟨_, (rdOf false x3_2 (rd ((rd_T54 l0 x14_1).f2) x22_2)), (by first | rfl | (simp; done) | (simp [*]; done)), H', ⟨by have := HK1.out; have := HK2.out; first | omega | exact Nat.le_refl _⟩, ⟨R_ HO_3⟩, ⟨K_ BK137⟩, ⟨bl_⟩⟩
                    rw [if_neg c18] at H
                    exact absurd H (by simp)
                  rw [if_neg c17] at H
                  exact absurd H (by simp)
                 clear HC14
                 obtain ⟨kq, x40_13, rfl, HA, HJ13, HO_3, BK137, HB⟩ := hcut
                 cases kq with
                 | zero => exact absurd HA.out (by simp [refute_connected.j2])
                 | succ kj13 => ?_
                 have H := HA.out
                 clear HA
                 simp only [refute_connected.j2] at H
                 by_cases c20 : x40_13 = true
                 · subst c20
                   have H1 : (some false) = some r := by rw [if_pos rfl] at H; exact H
                   clear H
                   have H := H1
                   clear H1
                   obtain rfl := Option.some.inj H
                   go_wp2
                   go_ret
                   exact ⟨by first | rfl | (simp [errW_none, errW_some] <;> rfl) | (simp [*, errW_none, errW_some] <;> rfl), by repeat (first | (with_reducible first | exact HB.out | apply below_alloc | apply pw_below_drewN | apply below_drew1 | refine below_set ?_ GE137.out) | exact HB.out)⟩
                 replace c20 := Bool.eq_false_iff.mpr c20
                 subst c20
                 have H1 : (if 0 ≤ (rd ((rd_T54 l0 x14_1).f2) x22_2) then (if (rd ((rd_T54 l0 x14_1).f2) x22_2) < (x3_2.length : Int) then (refute_connected.l1 kj13 l0 (x3_2.set ((rd ((rd_T54 l0 x14_1).f2) x22_2) : Int).toNat true) (wrap64 (x4_2 + 1)) x14_1 l0 (l0.length : Int) x14_1 ((rd_T54 l0 x14_1).f2) (((rd_T54 l0 x14_1).f2).length : Int) (wrap64 (x22_2 + 1))) else (none)) else (none)) = some r := by rw [if_neg (show ¬ (false = true) by decide)] at H; exact H
                 clear H
                 have H := H1
                 clear H1
                 by_cases c21 : 0 ≤ (rd ((rd_T54 l0 x14_1).f2) x22_2)
                 · rw [if_pos c21] at H
                   have c21b0 : decide (0 ≤ (rd ((rd_T54 l0 x14_1).f2) x22_2)) = true := decide_eq_true c21
                   clear c21
                   by_cases c22 : (rd ((rd_T54 l0 x14_1).f2) x22_2) < (x3_2.length : Int)
                   · rw [if_pos c22] at H
                     have c22b0 : decide ((rd ((rd_T54 l0 x14_1).f2) x22_2) < (x3_2.length : Int)) = true := decide_eq_true c22
                     clear c22
                     obtain ⟨y140, hy140⟩ : ∃ y_ : List Bool, y_ = (x3_2.set ((rd ((rd_T54 l0 x14_1).f2) x22_2) : Int).toNat true) := ⟨_, rfl⟩
                     replace H : (refute_connected.l1 kj13 l0 y140 (wrap64 (x4_2 + 1)) x14_1 l0 (l0.length : Int) x14_1 ((rd_T54 l0 x14_1).f2) (((rd_T54 l0 x14_1).f2).length : Int) (wrap64 (x22_2 + 1))) = some r := by first | (rw [hy140]; with_reducible exact H) | (have H2_ := (Option.bind_some _ _).symm.trans H; rw [hy140]; with_reducible exact H2_) | (have H2_ := (Option.bind_some _ _).symm.trans H; with_reducible exact H2_) | with_reducible exact H | (rw [hy140]; exact H) | exact H
                     have Ny140 := Aside0.mk hy140
                     clear hy140
                     have H' := Aside0.mk H
                     clear H
                     have p23 : 0 ≤ ((rd ((rd_T54 l0 x14_1).f2) x22_2) : Int) := of_decide_eq_true (by first | (with_reducible assumption) | assumption)
                     have q23 : ((rd ((rd_T54 l0 x14_1).f2) x22_2) : Int) < ((x3_2.length : Int) : Int) := of_decide_eq_true (by first | (with_reducible assumption) | assumption)
                     obtain ⟨go23, co23, eo23, gb23, gl23, cl23, HG23⟩ := Kd.R_form HO_3.out (by omega)
                     (first | cases eo23 | (injection eo23 with ea_ en_ ec_; (first | subst ea_ | (injection ea_ with ea_; subst ea_)); subst ec_; clear en_))
                     have GB23 := Aside0.mk gb23
                     have GG23 := Aside0.mk HG23
                     clear gb23 gl23 HG23
                     obtain ⟨hx23_0, hf23_0⟩ := Kd.R_celln false HO_3.out ((rd ((rd_T54 l0 x14_1).f2) x22_2) : Int) p23 q23
                     replace p23 := eq_true p23
                     replace q23 := eq_true q23
                     have HP24 := Kd.R_putg HO_3.out ((rd ((rd_T54 l0 x14_1).f2) x22_2) : Int) true
                     go_wp2_with (first | ((with_reducible refine gate_store (t := 4) (p := 43) rfl ?_); refine store_event (t := 4) (p := 43) (v := ?vo_w25) (w1 := (wc.setCell ⟨go23, ((rd ((rd_T54 l0 x14_1).f2) x22_2) : Int).toNat, none⟩ (.bool true))) ?hg ?ho ?hn ?hr ?_; (case ho => rfl); (case hg => rfl); (case hn => rfl); (case hr => first | (go_simp; done) | (go_simp; rfl)); intro w25 hw; have hg : wc.grownBy w25 (some go23) := (by rw [hw]; exact HP24.2); have hp_ : Kd.R Kd.bool 4 w25 w.heap.size (fun _ => True) (.slice (some ⟨go23, 0, none⟩) x3_2.length co23) y140 := (by rw [hw, Ny140.out]; exact HP24.1); clear HP24; have n0_ := Aside0.mk (hp_); have n1_ := Aside0.mk (blk_grown (K_ BK137) hg (Kd.R_ne HO_3.out BK137.out (by decide))); have n2_ := Aside0.mk ((by rw [hw]; exact below_set (HB.out) GB23.out : Below w.heap.size w w25)); clear HO_3; clear BK137; clear HB; have HO_3 := n0_; have BK137 := n1_; have HB := n2_; clear n0_ n1_ n2_; clear hg hw hp_))
                     go_roundg kj13
                     case measure => have := HK1.out; have := HK2.out; have := HJ13.out; omega
                     case rel => exact ⟨(y140), (wrap64 (x4_2 + 1)), (wrap64 (x22_2 + 1)), (by first | rfl | (simp; done) | (simp [*]; done)), (by first | rfl | (simp; done) | (simp [*]; done)), H', ⟨by have := HK1.out; have := HK2.out; have := HJ13.out; omega⟩, ⟨R_ HO_3⟩, ⟨K_ BK137⟩, ⟨bl_⟩⟩
                   rw [if_neg c22] at H
                   exact absurd H (by simp)
                 rw [if_neg c21] at H
                 exact absurd H (by simp)
               rw [if_neg c13] at H
               exact absurd H (by simp)
             rw [if_neg c12] at H
             exact absurd H (by simp)
           rw [if_neg c11] at H
           have c11b0 : decide (x22_2 < (((rd_T54 l0 x14_1).f2).length : Int)) = false := decide_eq_false c11
           clear c11
           have H' := Aside0.mk H
           clear H
           go_wp2
           go_roundg k2
           case measure => have := HK1.out; have := HK2.out; omega
           case rel => exact ⟨(x3_2), (x4_2), (wrap64 (x14_1 + 1)), (by first | rfl | (simp; done) | (simp [*]; done)), (by first | rfl | (simp; done) | (simp [*]; done)), H', ⟨by have := HK1.out; have := HK2.out; omega⟩, ⟨R_ HO_3⟩, ⟨bl_⟩⟩
         rw [if_neg c8] at H
         exact absurd H (by simp)
       rw [if_neg c7] at H
       exact absurd H (by simp)
     rw [if_neg c6] at H
     have c6b0 : decide (x14_1 < (l0.length : Int)) = false := decide_eq_false c6
     clear c6
     obtain rfl := Option.some.inj H
     go_wp2
     go_ret
     exact ⟨by first | rfl | (simp [errW_none, errW_some] <;> rfl) | (simp [*, errW_none, errW_some] <;> rfl), by repeat (first | (with_reducible first | exact HB.out | apply below_alloc | apply pw_below_drewN | apply below_drew1) | exact HB.out)⟩
   rw [if_neg c3] at H
   exact absurd H (by simp)
 rw [if_neg c2] at H
 exact absurd H (by simp)
end Go.Proofs.Ytpmlbbglekaidaa.PAll
