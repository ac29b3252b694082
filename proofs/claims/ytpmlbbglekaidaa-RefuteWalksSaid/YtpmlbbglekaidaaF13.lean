-- Written for this claim by programs of this session (wip/print2 in its repo: a changed printer, a shortener, a packer). Lean checks it.
import Derived.Test.YtpmlbbglekaidaaP0
import Derived.Test.YtpmlbbglekaidaaF12
import Derived.Test.YtpmlbbglekaidaaVm
namespace Go.Proofs.Ytpmlbbglekaidaa.PAll
open Go.RowKit Go.Vm Go.Proofs.YtpmlbbglekaidaaW.PrintWords Go.Proofs.YtpmlbbglekaidaaW.PrintLast Go.Proofs.YtpmlbbglekaidaaW.PrintMore
attribute [local go_sem] max2_int min2_int max_two min_two max_three min_three max_four min_four   -- for this text's walks alone
set_option linter.unusedVariables false
set_option linter.unusedSimpArgs false

/-! ### jacquardref28_Valid: function 13 -/
mutual
def jacquardref28_Valid.j0 : Nat → Bool → Int → Int → Bool → List (S48) → List (S50) → List (S52) → Option (Bool)
  | 0, _, _, _, _, _, _, _ => none
  | k + 1, x38, x253000, x253001, x253002, x253003, x253004, x253005 => if x38 = true then (some false) else (jacquardref28_Valid.l0 k (wrap64 ((wrap64 (x253000 + x253001)) + 2)) (x253003.length : Int) 0 x253000 x253001 x253002 x253003 x253004 x253005)
def jacquardref28_Valid.l0 : Nat → Int → Int → Int → Int → Int → Bool → List (S48) → List (S50) → List (S52) → Option (Bool)
  | 0, _, _, _, _, _, _, _, _, _ => none
  | k + 1, x3, x47, x48, x253000, x253001, x253002, x253003, x253004, x253005 => if x48 < x47 then (if 0 ≤ x48 then (if x48 < (x253003.length : Int) then (if ((rd_T48 x253003 x48).f0) < 0 then (jacquardref28_Valid.j2 k x3 x47 x48 true x253000 x253001 x253002 x253003 x253004 x253005) else (if ((rd_T48 x253003 x48).f0) ≥ (wrap64 (x3 - 1)) then (jacquardref28_Valid.j2 k x3 x47 x48 true x253000 x253001 x253002 x253003 x253004 x253005) else (if ((rd_T48 x253003 x48).f1) < 0 then (jacquardref28_Valid.j2 k x3 x47 x48 true x253000 x253001 x253002 x253003 x253004 x253005) else (if ((rd_T48 x253003 x48).f1) ≥ x3 then (jacquardref28_Valid.j2 k x3 x47 x48 true x253000 x253001 x253002 x253003 x253004 x253005) else (if ((rd_T48 x253003 x48).f2) < 0 then (jacquardref28_Valid.j2 k x3 x47 x48 true x253000 x253001 x253002 x253003 x253004 x253005) else (if ((rd_T48 x253003 x48).f2) > 4096 then (jacquardref28_Valid.j2 k x3 x47 x48 true x253000 x253001 x253002 x253003 x253004 x253005) else (if ((rd_T48 x253003 x48).f3) < 0 then (jacquardref28_Valid.j2 k x3 x47 x48 true x253000 x253001 x253002 x253003 x253004 x253005) else (if ((rd_T48 x253003 x48).f3) > 256 then (jacquardref28_Valid.j2 k x3 x47 x48 true x253000 x253001 x253002 x253003 x253004 x253005) else (if ((rd_T48 x253003 x48).f3) > 0 then (jacquardref28_Valid.j2 k x3 x47 x48 (!x253002) x253000 x253001 x253002 x253003 x253004 x253005) else (jacquardref28_Valid.j2 k x3 x47 x48 false x253000 x253001 x253002 x253003 x253004 x253005)))))))))) else (none)) else (none)) else (if (x253003.length : Int) < (wrap64 ((wrap64 (2 * x3)) - 3)) then (some false) else (jacquardref28_Valid.l1 k x3 (wrap64 (x3 - 1)) 0 x253000 x253001 x253002 x253003 x253004 x253005))
def jacquardref28_Valid.j2 : Nat → Int → Int → Int → Bool → Int → Int → Bool → List (S48) → List (S50) → List (S52) → Option (Bool)
  | 0, _, _, _, _, _, _, _, _, _, _ => none
  | k + 1, x3, x47, x48, x106, x253000, x253001, x253002, x253003, x253004, x253005 => if x106 = true then (some false) else (jacquardref28_Valid.l0 k x3 x47 (wrap64 (x48 + 1)) x253000 x253001 x253002 x253003 x253004 x253005)
def jacquardref28_Valid.l1 : Nat → Int → Int → Int → Int → Int → Bool → List (S48) → List (S50) → List (S52) → Option (Bool)
  | 0, _, _, _, _, _, _, _, _, _ => none
  | k + 1, x3, x116, x117, x253000, x253001, x253002, x253003, x253004, x253005 => if x117 < x116 then ((jacquardref28_Source.f x253000 x253001 x253002 x253003 x253004 x253005).bind fun t255 => (if x117 ≥ t255 then (jacquardref28_Valid.j4 k x3 x117 (wrap64 (x117 + 1)) x116 x117 x253000 x253001 x253002 x253003 x253004 x253005) else (jacquardref28_Valid.j4 k x3 x117 x117 x116 x117 x253000 x253001 x253002 x253003 x253004 x253005))) else (jacquardref28_Valid.l2 k x3 (x253004.length : Int) 0 x253000 x253001 x253002 x253003 x253004 x253005)
def jacquardref28_Valid.j4 : Nat → Int → Int → Int → Int → Int → Int → Int → Bool → List (S48) → List (S50) → List (S52) → Option (Bool)
  | 0, _, _, _, _, _, _, _, _, _, _, _ => none
  | k + 1, x3, x6, x7, x116, x117, x253000, x253001, x253002, x253003, x253004, x253005 => if 0 ≤ x6 then (if x6 < (x253003.length : Int) then ((jacquardref28_Source.f x253000 x253001 x253002 x253003 x253004 x253005).bind fun t257 => (if (!(((rd_T48 x253003 x6).f0) == t257) || (!(((rd_T48 x253003 x6).f1) == x7) || (!(((rd_T48 x253003 x6).f2) == 0) || (!(((rd_T48 x253003 x6).f3) == 0))))) = true then (some false) else (jacquardref28_Valid.l1 k x3 x116 (wrap64 (x117 + 1)) x253000 x253001 x253002 x253003 x253004 x253005))) else (none)) else (none)
def jacquardref28_Valid.l2 : Nat → Int → Int → Int → Int → Int → Bool → List (S48) → List (S50) → List (S52) → Option (Bool)
  | 0, _, _, _, _, _, _, _, _, _ => none
  | k + 1, x3, x140, x141, x253000, x253001, x253002, x253003, x253004, x253005 => if x141 < x140 then (if 0 ≤ x141 then (if x141 < (x253004.length : Int) then (if ((rd_T50 x253004 x141).f0) < 1 then (jacquardref28_Valid.j6 k x3 x140 x141 true x253000 x253001 x253002 x253003 x253004 x253005) else (if ((rd_T50 x253004 x141).f0) > 4 then (jacquardref28_Valid.j6 k x3 x140 x141 true x253000 x253001 x253002 x253003 x253004 x253005) else (if ((rd_T50 x253004 x141).f3) < 1 then (jacquardref28_Valid.j6 k x3 x140 x141 true x253000 x253001 x253002 x253003 x253004 x253005) else (jacquardref28_Valid.j6 k x3 x140 x141 (decide (((rd_T50 x253004 x141).f3) > 1024)) x253000 x253001 x253002 x253003 x253004 x253005)))) else (none)) else (none)) else (jacquardref28_Valid.l3 k x3 (wrap64 (x3 - 2)) 0 x253000 x253001 x253002 x253003 x253004 x253005)
def jacquardref28_Valid.j6 : Nat → Int → Int → Int → Bool → Int → Int → Bool → List (S48) → List (S50) → List (S52) → Option (Bool)
  | 0, _, _, _, _, _, _, _, _, _, _ => none
  | k + 1, x3, x140, x141, x177, x253000, x253001, x253002, x253003, x253004, x253005 => if x177 = true then (some false) else (jacquardref28_Valid.l2 k x3 x140 (wrap64 (x141 + 1)) x253000 x253001 x253002 x253003 x253004 x253005)
def jacquardref28_Valid.l3 : Nat → Int → Int → Int → Int → Int → Bool → List (S48) → List (S50) → List (S52) → Option (Bool)
  | 0, _, _, _, _, _, _, _, _, _ => none
  | k + 1, x3, x180, x181, x253000, x253001, x253002, x253003, x253004, x253005 => if x181 < x180 then (if 0 ≤ (wrap64 ((wrap64 (x3 - 1)) + x181)) then (if (wrap64 ((wrap64 (x3 - 1)) + x181)) < (x253003.length : Int) then (if ((rd_T48 x253003 (wrap64 ((wrap64 (x3 - 1)) + x181))).f0) = x181 then ((jacquardref28_End.f x253000 x253001 x253002 x253003 x253004 x253005).bind fun t264 => (if ((rd_T48 x253003 (wrap64 ((wrap64 (x3 - 1)) + x181))).f1) = t264 then (if ((rd_T48 x253003 (wrap64 ((wrap64 (x3 - 1)) + x181))).f3) = 0 then (if x181 < x253000 then (if 0 ≤ x181 then (if x181 < (x253005.length : Int) then (jacquardref28_Valid.j8 k x3 x180 x181 (decide (((rd_T48 x253003 (wrap64 ((wrap64 (x3 - 1)) + x181))).f2) < (mx 1 ((rd_T52 x253005 x181).f1)))) x253000 x253001 x253002 x253003 x253004 x253005) else (none)) else (none)) else (jacquardref28_Valid.j8 k x3 x180 x181 false x253000 x253001 x253002 x253003 x253004 x253005)) else (jacquardref28_Valid.j8 k x3 x180 x181 true x253000 x253001 x253002 x253003 x253004 x253005)) else (jacquardref28_Valid.j8 k x3 x180 x181 true x253000 x253001 x253002 x253003 x253004 x253005))) else (jacquardref28_Valid.j8 k x3 x180 x181 true x253000 x253001 x253002 x253003 x253004 x253005)) else (none)) else (none)) else (jacquardref28_Valid.l4 k (x253005.length : Int) 0 x253000 x253001 x253002 x253003 x253004 x253005)
def jacquardref28_Valid.j8 : Nat → Int → Int → Int → Bool → Int → Int → Bool → List (S48) → List (S50) → List (S52) → Option (Bool)
  | 0, _, _, _, _, _, _, _, _, _, _ => none
  | k + 1, x3, x180, x181, x225, x253000, x253001, x253002, x253003, x253004, x253005 => if x225 = true then (some false) else (jacquardref28_Valid.l3 k x3 x180 (wrap64 (x181 + 1)) x253000 x253001 x253002 x253003 x253004 x253005)
def jacquardref28_Valid.l4 : Nat → Int → Int → Int → Int → Bool → List (S48) → List (S50) → List (S52) → Option (Bool)
  | 0, _, _, _, _, _, _, _, _ => none
  | k + 1, x229, x230, x253000, x253001, x253002, x253003, x253004, x253005 => if x230 < x229 then (if 0 ≤ x230 then (if x230 < (x253005.length : Int) then (if ((rd_T52 x253005 x230).f0) < (-1) then (jacquardref28_Valid.j10 k x229 x230 true x253000 x253001 x253002 x253003 x253004 x253005) else (if ((rd_T52 x253005 x230).f0) ≥ (x253004.length : Int) then (jacquardref28_Valid.j10 k x229 x230 true x253000 x253001 x253002 x253003 x253004 x253005) else (if ((rd_T52 x253005 x230).f0) = (-1) then (if ((rd_T52 x253005 x230).f1) = 0 then (if ((rd_T52 x253005 x230).f0) ≥ 0 then (if ((rd_T52 x253005 x230).f1) < 1 then (jacquardref28_Valid.j10 k x229 x230 true x253000 x253001 x253002 x253003 x253004 x253005) else (jacquardref28_Valid.j10 k x229 x230 (decide (((rd_T52 x253005 x230).f1) > 256)) x253000 x253001 x253002 x253003 x253004 x253005)) else (jacquardref28_Valid.j10 k x229 x230 false x253000 x253001 x253002 x253003 x253004 x253005)) else (jacquardref28_Valid.j10 k x229 x230 true x253000 x253001 x253002 x253003 x253004 x253005)) else (if ((rd_T52 x253005 x230).f0) ≥ 0 then (if ((rd_T52 x253005 x230).f1) < 1 then (jacquardref28_Valid.j10 k x229 x230 true x253000 x253001 x253002 x253003 x253004 x253005) else (jacquardref28_Valid.j10 k x229 x230 (decide (((rd_T52 x253005 x230).f1) > 256)) x253000 x253001 x253002 x253003 x253004 x253005)) else (jacquardref28_Valid.j10 k x229 x230 false x253000 x253001 x253002 x253003 x253004 x253005))))) else (none)) else (none)) else (some true)
def jacquardref28_Valid.j10 : Nat → Int → Int → Bool → Int → Int → Bool → List (S48) → List (S50) → List (S52) → Option (Bool)
  | 0, _, _, _, _, _, _, _, _, _ => none
  | k + 1, x229, x230, x273, x253000, x253001, x253002, x253003, x253004, x253005 => if x273 = true then (some false) else (jacquardref28_Valid.l4 k x229 (wrap64 (x230 + 1)) x253000 x253001 x253002 x253003 x253004 x253005)
end
def jacquardref28_Valid.f (k : Nat) (a0_0 : Int) (a0_1 : Int) (a0_2 : Bool) (l0_3 : List (S48)) (l0_4 : List (S50)) (l0_5 : List (S52)) : Option (Bool) := if a0_0 < 0 then (jacquardref28_Valid.j0 k true a0_0 a0_1 a0_2 l0_3 l0_4 l0_5) else (if a0_0 > 4096 then (jacquardref28_Valid.j0 k true a0_0 a0_1 a0_2 l0_3 l0_4 l0_5) else (if a0_1 < 0 then (jacquardref28_Valid.j0 k true a0_0 a0_1 a0_2 l0_3 l0_4 l0_5) else (if a0_1 > 4094 then (jacquardref28_Valid.j0 k true a0_0 a0_1 a0_2 l0_3 l0_4 l0_5) else (jacquardref28_Valid.j0 k ((l0_5.length : Int) != a0_0) a0_0 a0_1 a0_2 l0_3 l0_4 l0_5))))
theorem jacquardref28_Valid.mono_l : ∀ k, (∀ y0 y1 y2 y3 y4 y5 y6, LeO (jacquardref28_Valid.j0 k y0 y1 y2 y3 y4 y5 y6) (jacquardref28_Valid.j0 (k + 1) y0 y1 y2 y3 y4 y5 y6)) ∧ (∀ y0 y1 y2 y3 y4 y5 y6 y7 y8, LeO (jacquardref28_Valid.l0 k y0 y1 y2 y3 y4 y5 y6 y7 y8) (jacquardref28_Valid.l0 (k + 1) y0 y1 y2 y3 y4 y5 y6 y7 y8)) ∧ (∀ y0 y1 y2 y3 y4 y5 y6 y7 y8 y9, LeO (jacquardref28_Valid.j2 k y0 y1 y2 y3 y4 y5 y6 y7 y8 y9) (jacquardref28_Valid.j2 (k + 1) y0 y1 y2 y3 y4 y5 y6 y7 y8 y9)) ∧ (∀ y0 y1 y2 y3 y4 y5 y6 y7 y8, LeO (jacquardref28_Valid.l1 k y0 y1 y2 y3 y4 y5 y6 y7 y8) (jacquardref28_Valid.l1 (k + 1) y0 y1 y2 y3 y4 y5 y6 y7 y8)) ∧ (∀ y0 y1 y2 y3 y4 y5 y6 y7 y8 y9 y10, LeO (jacquardref28_Valid.j4 k y0 y1 y2 y3 y4 y5 y6 y7 y8 y9 y10) (jacquardref28_Valid.j4 (k + 1) y0 y1 y2 y3 y4 y5 y6 y7 y8 y9 y10)) ∧ (∀ y0 y1 y2 y3 y4 y5 y6 y7 y8, LeO (jacquardref28_Valid.l2 k y0 y1 y2 y3 y4 y5 y6 y7 y8) (jacquardref28_Valid.l2 (k + 1) y0 y1 y2 y3 y4 y5 y6 y7 y8)) ∧ (∀ y0 y1 y2 y3 y4 y5 y6 y7 y8 y9, LeO (jacquardref28_Valid.j6 k y0 y1 y2 y3 y4 y5 y6 y7 y8 y9) (jacquardref28_Valid.j6 (k + 1) y0 y1 y2 y3 y4 y5 y6 y7 y8 y9)) ∧ (∀ y0 y1 y2 y3 y4 y5 y6 y7 y8, LeO (jacquardref28_Valid.l3 k y0 y1 y2 y3 y4 y5 y6 y7 y8) (jacquardref28_Valid.l3 (k + 1) y0 y1 y2 y3 y4 y5 y6 y7 y8)) ∧ (∀ y0 y1 y2 y3 y4 y5 y6 y7 y8 y9, LeO (jacquardref28_Valid.j8 k y0 y1 y2 y3 y4 y5 y6 y7 y8 y9) (jacquardref28_Valid.j8 (k + 1) y0 y1 y2 y3 y4 y5 y6 y7 y8 y9)) ∧ (∀ y0 y1 y2 y3 y4 y5 y6 y7, LeO (jacquardref28_Valid.l4 k y0 y1 y2 y3 y4 y5 y6 y7) (jacquardref28_Valid.l4 (k + 1) y0 y1 y2 y3 y4 y5 y6 y7)) ∧ (∀ y0 y1 y2 y3 y4 y5 y6 y7 y8, LeO (jacquardref28_Valid.j10 k y0 y1 y2 y3 y4 y5 y6 y7 y8) (jacquardref28_Valid.j10 (k + 1) y0 y1 y2 y3 y4 y5 y6 y7 y8))
  | 0 => by refine ⟨?_, ?_, ?_, ?_, ?_, ?_, ?_, ?_, ?_, ?_, ?_⟩ <;> intros <;> intro r h <;> simp [jacquardref28_Valid.j0, jacquardref28_Valid.l0, jacquardref28_Valid.j2, jacquardref28_Valid.l1, jacquardref28_Valid.j4, jacquardref28_Valid.l2, jacquardref28_Valid.j6, jacquardref28_Valid.l3, jacquardref28_Valid.j8, jacquardref28_Valid.l4, jacquardref28_Valid.j10] at h
  | k + 1 => by
    obtain ⟨ih0, ih1, ih2, ih3, ih4, ih5, ih6, ih7, ih8, ih9, ih10⟩ := jacquardref28_Valid.mono_l k
    refine ⟨?_, ?_, ?_, ?_, ?_, ?_, ?_, ?_, ?_, ?_, ?_⟩ <;> intros <;> (first | unfold jacquardref28_Valid.j0 | unfold jacquardref28_Valid.l0 | unfold jacquardref28_Valid.j2 | unfold jacquardref28_Valid.l1 | unfold jacquardref28_Valid.j4 | unfold jacquardref28_Valid.l2 | unfold jacquardref28_Valid.j6 | unfold jacquardref28_Valid.l3 | unfold jacquardref28_Valid.j8 | unfold jacquardref28_Valid.l4 | unfold jacquardref28_Valid.j10) <;> repeat' first | (with_reducible first | apply ih0 | apply ih1 | apply ih2 | apply ih3 | apply ih4 | apply ih5 | apply ih6 | apply ih7 | apply ih8 | apply ih9 | apply ih10 | exact LeO.refl _ | exact LeO.none _ | refine LeO.ite ?_ ?_ | refine LeO.bind ?_ (fun _ => ?_)) | apply ih0 | apply ih1 | apply ih2 | apply ih3 | apply ih4 | apply ih5 | apply ih6 | apply ih7 | apply ih8 | apply ih9 | apply ih10 | exact LeO.none _ | refine LeO.ite ?_ ?_ | refine LeO.bind ?_ (fun _ => ?_)
theorem jacquardref28_Valid.mono : ∀ a0 a1 a2 a3 a4 a5 k, LeO (jacquardref28_Valid.f k a0 a1 a2 a3 a4 a5) (jacquardref28_Valid.f (k + 1) a0 a1 a2 a3 a4 a5) := by
 intro a0 a1 a2 a3 a4 a5 k
 obtain ⟨ih0, ih1, ih2, ih3, ih4, ih5, ih6, ih7, ih8, ih9, ih10⟩ := jacquardref28_Valid.mono_l k
 unfold jacquardref28_Valid.f
 repeat' first | (with_reducible first | apply ih0 | apply ih1 | apply ih2 | apply ih3 | apply ih4 | apply ih5 | apply ih6 | apply ih7 | apply ih8 | apply ih9 | apply ih10 | exact LeO.refl _ | exact LeO.none _ | refine LeO.ite ?_ ?_ | refine LeO.bind ?_ (fun _ => ?_)) | apply ih0 | apply ih1 | apply ih2 | apply ih3 | apply ih4 | apply ih5 | apply ih6 | apply ih7 | apply ih8 | apply ih9 | apply ih10 | exact LeO.none _ | refine LeO.ite ?_ ?_ | refine LeO.bind ?_ (fun _ => ?_)
def vzv : TypeId → List PV := fun t => match t with
  | 48 => [.int .i64 0, .int .i64 0, .int .i64 0, .int .i64 0]
  | 52 => [.int .i64 0, .int .i64 0]
  | _ => []
def vann : FuncId → Nat → Option Ann := fun f r => match f, r with
  | 13, 5 => some ⟨[1, 3, 47, 48], 1⟩
  | 13, 14 => some ⟨[1, 3, 116, 117], 1⟩
  | 13, 23 => some ⟨[1, 3, 140, 141], 1⟩
  | 13, 29 => some ⟨[1, 3, 180, 181], 1⟩
  | 13, 36 => some ⟨[1, 229, 230], 1⟩
  | _, _ => none
def S48.enc (x : S48) : List PV := [.int .i64 x.f0, .int .i64 x.f1, .int .i64 x.f2, .int .i64 x.f3]
def e48 (l : List S48) : PV := .vsl none false 4 l.length (fun j => (l.getD j z48).enc)
def S50.enc (x : S50) : List PV := [.int .i64 x.f0, .int .i64 x.f1, .int .i64 x.f2, .int .i64 x.f3]
def e50 (l : List S50) : PV := .vsl none false 4 l.length (fun j => (l.getD j z50).enc)
def S52.enc (x : S52) : List PV := [.int .i64 x.f0, .int .i64 x.f1]
def e52 (l : List S52) : PV := .vsl none false 2 l.length (fun j => (l.getD j z52).enc)
theorem v28_eq (k : Nat) (a0_0 : Int) (a0_1 : Int) (a0_2 : Bool) (a0_3 : List S48) (a0_4 : List S50) (a0_5 : List S52) : evF Try.prog vzv vann (k + 1) 28 [.agg [.int .i64 a0_0, .int .i64 a0_1, .bool a0_2, e48 a0_3, e50 a0_4, e52 a0_5]] = some [.int .i64 (wrap64 (a0_0 + a0_1))] := by kernel_rfl
theorem v29_eq (k : Nat) (a0_0 : Int) (a0_1 : Int) (a0_2 : Bool) (a0_3 : List S48) (a0_4 : List S50) (a0_5 : List S52) : evF Try.prog vzv vann (k + 1) 29 [.agg [.int .i64 a0_0, .int .i64 a0_1, .bool a0_2, e48 a0_3, e50 a0_4, e52 a0_5]] = some [.int .i64 (wrap64 ((wrap64 (a0_0 + a0_1)) + 1))] := by kernel_rfl
noncomputable def v13.l0 (k m : Nat) (x3 : Int) (x47 : Int) (x48 : Int) (b0_0 : Int) (b0_1 : Int) (b0_2 : Bool) (b0_3 : List S48) (b0_4 : List S50) (b0_5 : List S52) : Option (List PV) := lp Try.prog vzv vann 13 [1, 1, 1, 0, 1, 0] k [] m ⟨[(1, .bptr 0 0), (3, .int .i64 x3), (47, .int .i64 x47), (48, .int .i64 x48)], [some (.box [.int .i64 b0_0, .int .i64 b0_1, .bool b0_2, e48 b0_3, e50 b0_4, e52 b0_5])]⟩
noncomputable def v13.l1 (k m : Nat) (x3 : Int) (x116 : Int) (x117 : Int) (b0_0 : Int) (b0_1 : Int) (b0_2 : Bool) (b0_3 : List S48) (b0_4 : List S50) (b0_5 : List S52) : Option (List PV) := lp Try.prog vzv vann 13 [1, 1, 1, 1, 1, 0, 1, 0] k [] m ⟨[(1, .bptr 0 0), (3, .int .i64 x3), (116, .int .i64 x116), (117, .int .i64 x117)], [some (.box [.int .i64 b0_0, .int .i64 b0_1, .bool b0_2, e48 b0_3, e50 b0_4, e52 b0_5])]⟩
noncomputable def v13.l2 (k m : Nat) (x3 : Int) (x140 : Int) (x141 : Int) (b0_0 : Int) (b0_1 : Int) (b0_2 : Bool) (b0_3 : List S48) (b0_4 : List S50) (b0_5 : List S52) : Option (List PV) := lp Try.prog vzv vann 13 [1, 1, 1, 1, 1, 1, 0, 1, 0] k [] m ⟨[(1, .bptr 0 0), (3, .int .i64 x3), (140, .int .i64 x140), (141, .int .i64 x141)], [some (.box [.int .i64 b0_0, .int .i64 b0_1, .bool b0_2, e48 b0_3, e50 b0_4, e52 b0_5])]⟩
noncomputable def v13.l3 (k m : Nat) (x3 : Int) (x180 : Int) (x181 : Int) (b0_0 : Int) (b0_1 : Int) (b0_2 : Bool) (b0_3 : List S48) (b0_4 : List S50) (b0_5 : List S52) : Option (List PV) := lp Try.prog vzv vann 13 [1, 1, 1, 1, 1, 1, 1, 0, 1, 0] k [] m ⟨[(1, .bptr 0 0), (3, .int .i64 x3), (180, .int .i64 x180), (181, .int .i64 x181)], [some (.box [.int .i64 b0_0, .int .i64 b0_1, .bool b0_2, e48 b0_3, e50 b0_4, e52 b0_5])]⟩
noncomputable def v13.l4 (k m : Nat) (x229 : Int) (x230 : Int) (b0_0 : Int) (b0_1 : Int) (b0_2 : Bool) (b0_3 : List S48) (b0_4 : List S50) (b0_5 : List S52) : Option (List PV) := lp Try.prog vzv vann 13 [1, 1, 1, 1, 1, 1, 1, 1, 0, 1, 0] k [] m ⟨[(1, .bptr 0 0), (229, .int .i64 x229), (230, .int .i64 x230)], [some (.box [.int .i64 b0_0, .int .i64 b0_1, .bool b0_2, e48 b0_3, e50 b0_4, e52 b0_5])]⟩
theorem v13.l4_eq (k m : Nat) (x229 : Int) (x230 : Int) (b0_0 : Int) (b0_1 : Int) (b0_2 : Bool) (b0_3 : List S48) (b0_4 : List S50) (b0_5 : List S52) : v13.l4 k (m + 1) x229 x230 b0_0 b0_1 b0_2 b0_3 b0_4 b0_5 = if x230 < x229 then if 0 ≤ x230 then if x230 < (b0_5.length : Int) then if (rd_T52 b0_5 x230).f0 < (-1) then some [.bool false] else if (rd_T52 b0_5 x230).f0 ≥ (b0_4.length : Int) then some [.bool false] else if (rd_T52 b0_5 x230).f0 = (-1) then if (rd_T52 b0_5 x230).f1 ≠ 0 then some [.bool false] else if (rd_T52 b0_5 x230).f0 ≥ 0 then if (rd_T52 b0_5 x230).f1 < 1 then some [.bool false] else if (rd_T52 b0_5 x230).f1 > 256 then some [.bool false] else v13.l4 k m x229 (wrap64 (x230 + 1)) b0_0 b0_1 b0_2 b0_3 b0_4 b0_5 else v13.l4 k m x229 (wrap64 (x230 + 1)) b0_0 b0_1 b0_2 b0_3 b0_4 b0_5 else if (rd_T52 b0_5 x230).f0 ≥ 0 then if (rd_T52 b0_5 x230).f1 < 1 then some [.bool false] else if (rd_T52 b0_5 x230).f1 > 256 then some [.bool false] else v13.l4 k m x229 (wrap64 (x230 + 1)) b0_0 b0_1 b0_2 b0_3 b0_4 b0_5 else v13.l4 k m x229 (wrap64 (x230 + 1)) b0_0 b0_1 b0_2 b0_3 b0_4 b0_5 else none else none else some [.bool true] := by kernel_rfl
theorem v13.l3_eq (k m : Nat) (x3 : Int) (x180 : Int) (x181 : Int) (b0_0 : Int) (b0_1 : Int) (b0_2 : Bool) (b0_3 : List S48) (b0_4 : List S50) (b0_5 : List S52) : v13.l3 k (m + 1) x3 x180 x181 b0_0 b0_1 b0_2 b0_3 b0_4 b0_5 = if x181 < x180 then if 0 ≤ (wrap64 ((wrap64 (x3 - 1)) + x181)) then if (wrap64 ((wrap64 (x3 - 1)) + x181)) < (b0_3.length : Int) then if (rd_T48 b0_3 (wrap64 ((wrap64 (x3 - 1)) + x181))).f0 ≠ x181 then some [.bool false] else (evF Try.prog vzv vann k 29 [.agg [.int .i64 b0_0, .int .i64 b0_1, .bool b0_2, e48 b0_3, e50 b0_4, e52 b0_5]]).bind (fun t4_0 => consR t4_0 (fun v4_0 t4_1 => asI .i64 v4_0 (fun r4_0 => nilR t4_1 (if (rd_T48 b0_3 (wrap64 ((wrap64 (x3 - 1)) + x181))).f1 ≠ r4_0 then some [.bool false] else if (rd_T48 b0_3 (wrap64 ((wrap64 (x3 - 1)) + x181))).f3 ≠ 0 then some [.bool false] else if x181 < b0_0 then if 0 ≤ x181 then if x181 < (b0_5.length : Int) then if (rd_T48 b0_3 (wrap64 ((wrap64 (x3 - 1)) + x181))).f2 < (mx 1 (rd_T52 b0_5 x181).f1) then some [.bool false] else v13.l3 k m x3 x180 (wrap64 (x181 + 1)) b0_0 b0_1 b0_2 b0_3 b0_4 b0_5 else none else none else v13.l3 k m x3 x180 (wrap64 (x181 + 1)) b0_0 b0_1 b0_2 b0_3 b0_4 b0_5)))) else none else none else v13.l4 k k (b0_5.length : Int) 0 b0_0 b0_1 b0_2 b0_3 b0_4 b0_5 := by kernel_rfl
theorem v13.l2_eq (k m : Nat) (x3 : Int) (x140 : Int) (x141 : Int) (b0_0 : Int) (b0_1 : Int) (b0_2 : Bool) (b0_3 : List S48) (b0_4 : List S50) (b0_5 : List S52) : v13.l2 k (m + 1) x3 x140 x141 b0_0 b0_1 b0_2 b0_3 b0_4 b0_5 = if x141 < x140 then if 0 ≤ x141 then if x141 < (b0_4.length : Int) then if (rd_T50 b0_4 x141).f0 < 1 then some [.bool false] else if 0 ≤ x141 then if x141 < (b0_4.length : Int) then if (rd_T50 b0_4 x141).f0 > 4 then some [.bool false] else if 0 ≤ x141 then if x141 < (b0_4.length : Int) then if (rd_T50 b0_4 x141).f3 < 1 then some [.bool false] else if 0 ≤ x141 then if x141 < (b0_4.length : Int) then if (rd_T50 b0_4 x141).f3 > 1024 then some [.bool false] else v13.l2 k m x3 x140 (wrap64 (x141 + 1)) b0_0 b0_1 b0_2 b0_3 b0_4 b0_5 else none else none else none else none else none else none else none else none else v13.l3 k k x3 (wrap64 (x3 - 2)) 0 b0_0 b0_1 b0_2 b0_3 b0_4 b0_5 := by kernel_rfl
theorem v13.l1_eq (k m : Nat) (x3 : Int) (x116 : Int) (x117 : Int) (b0_0 : Int) (b0_1 : Int) (b0_2 : Bool) (b0_3 : List S48) (b0_4 : List S50) (b0_5 : List S52) : v13.l1 k (m + 1) x3 x116 x117 b0_0 b0_1 b0_2 b0_3 b0_4 b0_5 = if x117 < x116 then (evF Try.prog vzv vann k 28 [.agg [.int .i64 b0_0, .int .i64 b0_1, .bool b0_2, e48 b0_3, e50 b0_4, e52 b0_5]]).bind (fun t1_0 => consR t1_0 (fun v1_0 t1_1 => asI .i64 v1_0 (fun r1_0 => nilR t1_1 (if x117 ≥ r1_0 then if 0 ≤ x117 then if x117 < (b0_3.length : Int) then (evF Try.prog vzv vann k 28 [.agg [.int .i64 b0_0, .int .i64 b0_1, .bool b0_2, e48 b0_3, e50 b0_4, e52 b0_5]]).bind (fun t2_0 => consR t2_0 (fun v2_0 t2_1 => asI .i64 v2_0 (fun r2_0 => nilR t2_1 (if ¬ ((rd_T48 b0_3 x117).f0 = r2_0 ∧ (rd_T48 b0_3 x117).f1 = (wrap64 (x117 + 1)) ∧ (rd_T48 b0_3 x117).f2 = 0 ∧ (rd_T48 b0_3 x117).f3 = 0 ∧ True) then some [.bool false] else v13.l1 k m x3 x116 (wrap64 (x117 + 1)) b0_0 b0_1 b0_2 b0_3 b0_4 b0_5)))) else none else none else if 0 ≤ x117 then if x117 < (b0_3.length : Int) then (evF Try.prog vzv vann k 28 [.agg [.int .i64 b0_0, .int .i64 b0_1, .bool b0_2, e48 b0_3, e50 b0_4, e52 b0_5]]).bind (fun t3_0 => consR t3_0 (fun v3_0 t3_1 => asI .i64 v3_0 (fun r3_0 => nilR t3_1 (if ¬ ((rd_T48 b0_3 x117).f0 = r3_0 ∧ (rd_T48 b0_3 x117).f1 = x117 ∧ (rd_T48 b0_3 x117).f2 = 0 ∧ (rd_T48 b0_3 x117).f3 = 0 ∧ True) then some [.bool false] else v13.l1 k m x3 x116 (wrap64 (x117 + 1)) b0_0 b0_1 b0_2 b0_3 b0_4 b0_5)))) else none else none)))) else v13.l2 k k x3 (b0_4.length : Int) 0 b0_0 b0_1 b0_2 b0_3 b0_4 b0_5 := by kernel_rfl
theorem v13.l0_eq (k m : Nat) (x3 : Int) (x47 : Int) (x48 : Int) (b0_0 : Int) (b0_1 : Int) (b0_2 : Bool) (b0_3 : List S48) (b0_4 : List S50) (b0_5 : List S52) : v13.l0 k (m + 1) x3 x47 x48 b0_0 b0_1 b0_2 b0_3 b0_4 b0_5 = if x48 < x47 then if 0 ≤ x48 then if x48 < (b0_3.length : Int) then if (rd_T48 b0_3 x48).f0 < 0 then some [.bool false] else if (rd_T48 b0_3 x48).f0 ≥ (wrap64 (x3 - 1)) then some [.bool false] else if (rd_T48 b0_3 x48).f1 < 0 then some [.bool false] else if (rd_T48 b0_3 x48).f1 ≥ x3 then some [.bool false] else if (rd_T48 b0_3 x48).f2 < 0 then some [.bool false] else if (rd_T48 b0_3 x48).f2 > 4096 then some [.bool false] else if (rd_T48 b0_3 x48).f3 < 0 then some [.bool false] else if (rd_T48 b0_3 x48).f3 > 256 then some [.bool false] else if (rd_T48 b0_3 x48).f3 > 0 then if (!b0_2) = true then some [.bool false] else v13.l0 k m x3 x47 (wrap64 (x48 + 1)) b0_0 b0_1 b0_2 b0_3 b0_4 b0_5 else v13.l0 k m x3 x47 (wrap64 (x48 + 1)) b0_0 b0_1 b0_2 b0_3 b0_4 b0_5 else none else none else if (b0_3.length : Int) < (wrap64 ((wrap64 (2 * x3)) - 3)) then some [.bool false] else v13.l1 k k x3 (wrap64 (x3 - 1)) 0 b0_0 b0_1 b0_2 b0_3 b0_4 b0_5 := by kernel_rfl
theorem v13_eq (k : Nat) (a0_0 : Int) (a0_1 : Int) (a0_2 : Bool) (a0_3 : List S48) (a0_4 : List S50) (a0_5 : List S52) : evF Try.prog vzv vann (k + 1) 13 [.agg [.int .i64 a0_0, .int .i64 a0_1, .bool a0_2, e48 a0_3, e50 a0_4, e52 a0_5]] = if a0_0 < 0 then some [.bool false] else if a0_0 > 4096 then some [.bool false] else if a0_1 < 0 then some [.bool false] else if a0_1 > 4094 then some [.bool false] else if (a0_5.length : Int) ≠ a0_0 then some [.bool false] else v13.l0 k k (wrap64 ((wrap64 (a0_0 + a0_1)) + 2)) (a0_3.length : Int) 0 a0_0 a0_1 a0_2 a0_3 a0_4 a0_5 := by kernel_rfl

theorem vrel4 : ∀ (k : Nat) (x229 x230 a b : Int) (c : Bool) (d : List S48) (e : List S50) (f : List S52) (r : Bool) (m K : Nat), k ≤ m → k ≤ K → jacquardref28_Valid.l4 k x229 x230 a b c d e f = some r → v13.l4 K m x229 x230 a b c d e f = some [.bool r] := by
  intro k
  induction k using Nat.strongRecOn with
  | _ k ih =>
    intro x229 x230 a b c d e f r m K hm hK h
    cases k with
    | zero => exact absurd h (by simp [jacquardref28_Valid.l4])
    | succ k =>
      cases m with
      | zero => omega
      | succ m =>
        rw [v13.l4_eq]
        have hj : ∀ q, jacquardref28_Valid.j10 k x229 x230 q a b c d e f = some r → (q = true ∧ r = false) ∨ (q = false ∧ v13.l4 K m x229 (wrap64 (x230 + 1)) a b c d e f = some [.bool r]) := by
          intro q hq
          cases k with
          | zero => exact absurd hq (by simp [jacquardref28_Valid.j10])
          | succ k =>
            simp only [jacquardref28_Valid.j10] at hq
            cases q with
            | true => rw [if_pos rfl] at hq; left; exact ⟨rfl, (Option.some.inj hq).symm⟩
            | false => rw [if_neg Bool.false_ne_true] at hq; exact .inr ⟨rfl, ih k (by omega) _ _ _ _ _ _ _ _ _ _ _ (by omega) (by omega) hq⟩
        clear ih

        simp only [jacquardref28_Valid.l4] at h
        repeat' split
        all_goals
          repeat (first | rw [if_pos (by omega)] at h | rw [if_neg (by omega)] at h)
          first
          | contradiction
          | (injection h with h; subst h; rfl)
          | (rcases hj _ h with ⟨h1, h2⟩ | ⟨h1, h2⟩ <;> first | exact h2 | (subst h2; rfl) | contradiction | (simp at h1; omega) | (simp_all; done))
theorem vrel3 : ∀ (k : Nat) (x3 x180 x181 a b : Int) (c : Bool) (d : List S48) (e : List S50) (f : List S52) (r : Bool) (m K : Nat), k ≤ m → k ≤ K → jacquardref28_Valid.l3 k x3 x180 x181 a b c d e f = some r → v13.l3 K m x3 x180 x181 a b c d e f = some [.bool r] := by
  intro k
  induction k using Nat.strongRecOn with
  | _ k ih =>
    intro x3 x180 x181 a b c d e f r m K hm hK h
    cases k with
    | zero => exact absurd h (by simp [jacquardref28_Valid.l3])
    | succ k =>
      cases m with
      | zero => omega
      | succ m =>
        rw [v13.l3_eq]
        have hn : jacquardref28_Valid.l4 k (f.length : Int) 0 a b c d e f = some r → v13.l4 K K (f.length : Int) 0 a b c d e f = some [.bool r] := vrel4 k (f.length : Int) 0 a b c d e f r K K (by omega) (by omega)
        have hj : ∀ q, jacquardref28_Valid.j8 k x3 x180 x181 q a b c d e f = some r → (q = true ∧ r = false) ∨ (q = false ∧ v13.l3 K m x3 x180 (wrap64 (x181 + 1)) a b c d e f = some [.bool r]) := by
          intro q hq
          cases k with
          | zero => exact absurd hq (by simp [jacquardref28_Valid.j8])
          | succ k =>
            simp only [jacquardref28_Valid.j8] at hq
            cases q with
            | true => rw [if_pos rfl] at hq; left; exact ⟨rfl, (Option.some.inj hq).symm⟩
            | false => rw [if_neg Bool.false_ne_true] at hq; exact .inr ⟨rfl, ih k (by omega) _ _ _ _ _ _ _ _ _ _ _ _ (by omega) (by omega) hq⟩
        have vcall : ∀ (F : List PV → Option (List PV)), (evF Try.prog vzv vann K 29 [.agg [.int .i64 a, .int .i64 b, .bool c, e48 d, e50 e, e52 f]]).bind F = F [.int .i64 (wrap64 (wrap64 (a + b) + 1))] := by
          intro F
          cases K with
          | zero => omega
          | succ K => rw [v29_eq]; rfl
        simp only [vcall, consR, asI, nilR, if_true]
        clear ih

        simp only [jacquardref28_Valid.l3, jacquardref28_End.f, Option.bind_some] at h
        repeat' split
        all_goals
          repeat (first | rw [if_pos (by omega)] at h | rw [if_neg (by omega)] at h)
          first
          | contradiction | exact hn h
          | (injection h with h; subst h; rfl)
          | (rcases hj _ h with ⟨h1, h2⟩ | ⟨h1, h2⟩ <;> first | exact h2 | (subst h2; rfl) | contradiction | (simp at h1; omega) | (simp_all; done))
theorem vrel2 : ∀ (k : Nat) (x3 x140 x141 a b : Int) (c : Bool) (d : List S48) (e : List S50) (f : List S52) (r : Bool) (m K : Nat), k ≤ m → k ≤ K → jacquardref28_Valid.l2 k x3 x140 x141 a b c d e f = some r → v13.l2 K m x3 x140 x141 a b c d e f = some [.bool r] := by
  intro k
  induction k using Nat.strongRecOn with
  | _ k ih =>
    intro x3 x140 x141 a b c d e f r m K hm hK h
    cases k with
    | zero => exact absurd h (by simp [jacquardref28_Valid.l2])
    | succ k =>
      cases m with
      | zero => omega
      | succ m =>
        rw [v13.l2_eq]
        have hn : jacquardref28_Valid.l3 k x3 (wrap64 (x3 - 2)) 0 a b c d e f = some r → v13.l3 K K x3 (wrap64 (x3 - 2)) 0 a b c d e f = some [.bool r] := vrel3 k x3 (wrap64 (x3 - 2)) 0 a b c d e f r K K (by omega) (by omega)
        have hj : ∀ q, jacquardref28_Valid.j6 k x3 x140 x141 q a b c d e f = some r → (q = true ∧ r = false) ∨ (q = false ∧ v13.l2 K m x3 x140 (wrap64 (x141 + 1)) a b c d e f = some [.bool r]) := by
          intro q hq
          cases k with
          | zero => exact absurd hq (by simp [jacquardref28_Valid.j6])
          | succ k =>
            simp only [jacquardref28_Valid.j6] at hq
            cases q with
            | true => rw [if_pos rfl] at hq; left; exact ⟨rfl, (Option.some.inj hq).symm⟩
            | false => rw [if_neg Bool.false_ne_true] at hq; exact .inr ⟨rfl, ih k (by omega) _ _ _ _ _ _ _ _ _ _ _ _ (by omega) (by omega) hq⟩

        simp only [jacquardref28_Valid.l2] at h
        clear ih
        by_cases c1 : x141 < x140
        case neg => rw [if_neg c1] at h ⊢; exact hn h
        by_cases c2 : 0 ≤ x141
        case neg => rw [if_pos c1, if_neg c2] at h; exact absurd h (by simp)
        by_cases c3 : x141 < (e.length : Int)
        case neg => rw [if_pos c1, if_pos c2, if_neg c3] at h; exact absurd h (by simp)
        simp only [if_pos c1, if_pos c2, if_pos c3]
        repeat' split
        all_goals
          repeat (first | rw [if_pos (by omega)] at h | rw [if_neg (by omega)] at h)
          first
          | contradiction | exact hn h
          | (injection h with h; subst h; rfl)
          | (rcases hj _ h with ⟨h1, h2⟩ | ⟨h1, h2⟩ <;> first | exact h2 | (subst h2; rfl) | contradiction | (simp at h1; omega) | (simp_all; done))
theorem vrel1 : ∀ (k : Nat) (x3 x116 x117 a b : Int) (c : Bool) (d : List S48) (e : List S50) (f : List S52) (r : Bool) (m K : Nat), k ≤ m → k ≤ K → jacquardref28_Valid.l1 k x3 x116 x117 a b c d e f = some r → v13.l1 K m x3 x116 x117 a b c d e f = some [.bool r] := by
  intro k
  induction k using Nat.strongRecOn with
  | _ k ih =>
    intro x3 x116 x117 a b c d e f r m K hm hK h
    cases k with
    | zero => exact absurd h (by simp [jacquardref28_Valid.l1])
    | succ k =>
      cases m with
      | zero => omega
      | succ m =>
        rw [v13.l1_eq]
        have hn : jacquardref28_Valid.l2 k x3 (e.length : Int) 0 a b c d e f = some r → v13.l2 K K x3 (e.length : Int) 0 a b c d e f = some [.bool r] := vrel2 k x3 (e.length : Int) 0 a b c d e f r K K (by omega) (by omega)
        have vcall : ∀ (F : List PV → Option (List PV)), (evF Try.prog vzv vann K 28 [.agg [.int .i64 a, .int .i64 b, .bool c, e48 d, e50 e, e52 f]]).bind F = F [.int .i64 (wrap64 (a + b))] := by
          intro F
          cases K with
          | zero => omega
          | succ K => rw [v28_eq]; rfl
        simp only [vcall, consR, asI, nilR, if_true]
        have hb : ∀ (x x6 x7 : Int), jacquardref28_Valid.j4 k x3 x6 x7 x116 x117 a b c d e f = some r → 0 ≤ x6 ∧ x6 < (d.length : Int) ∧ (((!((rd_T48 d x6).f0 == wrap64 (a + b)) || (!((rd_T48 d x6).f1 == x7) || (!((rd_T48 d x6).f2 == 0) || !((rd_T48 d x6).f3 == 0)))) = true ∧ r = false) ∨ ((!((rd_T48 d x6).f0 == wrap64 (a + b)) || (!((rd_T48 d x6).f1 == x7) || (!((rd_T48 d x6).f2 == 0) || !((rd_T48 d x6).f3 == 0)))) = false ∧ v13.l1 K m x3 x116 (wrap64 (x117 + 1)) a b c d e f = some [.bool r])) := by
          intro _ x6 x7 hq
          cases k with
          | zero => exact absurd hq (by simp [jacquardref28_Valid.j4])
          | succ k =>
            simp only [jacquardref28_Valid.j4, jacquardref28_Source.f, Option.bind_some] at hq
            by_cases h0 : 0 ≤ x6
            · rw [if_pos h0] at hq
              by_cases h1 : x6 < (d.length : Int)
              · rw [if_pos h1] at hq
                refine ⟨h0, h1, ?_⟩
                cases hx : (!((rd_T48 d x6).f0 == wrap64 (a + b)) || (!((rd_T48 d x6).f1 == x7) || (!((rd_T48 d x6).f2 == 0) || !((rd_T48 d x6).f3 == 0)))) with
                | true => rw [hx, if_pos rfl] at hq; exact .inl ⟨rfl, (Option.some.inj hq).symm⟩
                | false => rw [hx, if_neg Bool.false_ne_true] at hq; exact .inr ⟨rfl, ih k (by omega) _ _ _ _ _ _ _ _ _ _ _ _ (by omega) (by omega) hq⟩
              · rw [if_neg h1] at hq; exact absurd hq (by simp)
            · rw [if_neg h0] at hq; exact absurd hq (by simp)
        simp only [jacquardref28_Valid.l1, jacquardref28_Source.f, Option.bind_some] at h
        clear ih
        by_cases h0 : x117 < x116
        · rw [if_pos h0] at h ⊢
          by_cases h1 : x117 ≥ wrap64 (a + b)
          · rw [if_pos h1] at h ⊢
            obtain ⟨g0, g1, g⟩ := hb 0 _ _ h
            rw [if_pos g0, if_pos g1]
            rcases g with ⟨g2, rfl⟩ | ⟨g2, g3⟩
            · rw [if_pos (by simp at g2 ⊢; omega)]
            · rw [if_neg (by simp at g2 ⊢; omega)]; exact g3
          · rw [if_neg h1] at h ⊢
            obtain ⟨g0, g1, g⟩ := hb 0 _ _ h
            rw [if_pos g0, if_pos g1]
            rcases g with ⟨g2, rfl⟩ | ⟨g2, g3⟩
            · rw [if_pos (by simp at g2 ⊢; omega)]
            · rw [if_neg (by simp at g2 ⊢; omega)]; exact g3
        · rw [if_neg h0] at h ⊢
          exact hn h
theorem vrel0 : ∀ (k : Nat) (x3 x47 x48 a b : Int) (c : Bool) (d : List S48) (e : List S50) (f : List S52) (r : Bool) (m K : Nat), k ≤ m → k ≤ K → jacquardref28_Valid.l0 k x3 x47 x48 a b c d e f = some r → v13.l0 K m x3 x47 x48 a b c d e f = some [.bool r] := by
  intro k
  induction k using Nat.strongRecOn with
  | _ k ih =>
    intro x3 x47 x48 a b c d e f r m K hm hK h
    cases k with
    | zero => exact absurd h (by simp [jacquardref28_Valid.l0])
    | succ k =>
      cases m with
      | zero => omega
      | succ m =>
        rw [v13.l0_eq]
        have hn : jacquardref28_Valid.l1 k x3 (wrap64 (x3 - 1)) 0 a b c d e f = some r → v13.l1 K K x3 (wrap64 (x3 - 1)) 0 a b c d e f = some [.bool r] := vrel1 k x3 (wrap64 (x3 - 1)) 0 a b c d e f r K K (by omega) (by omega)
        have hj : ∀ q, jacquardref28_Valid.j2 k x3 x47 x48 q a b c d e f = some r → (q = true ∧ r = false) ∨ (q = false ∧ v13.l0 K m x3 x47 (wrap64 (x48 + 1)) a b c d e f = some [.bool r]) := by
          intro q hq
          cases k with
          | zero => exact absurd hq (by simp [jacquardref28_Valid.j2])
          | succ k =>
            simp only [jacquardref28_Valid.j2] at hq
            cases q with
            | true => rw [if_pos rfl] at hq; left; exact ⟨rfl, (Option.some.inj hq).symm⟩
            | false => rw [if_neg Bool.false_ne_true] at hq; exact .inr ⟨rfl, ih k (by omega) _ _ _ _ _ _ _ _ _ _ _ _ (by omega) (by omega) hq⟩
        clear ih

        simp only [jacquardref28_Valid.l0] at h
        by_cases c1 : x48 < x47
        case neg =>
          rw [if_neg c1] at h ⊢
          by_cases c2 : (d.length : Int) < wrap64 (wrap64 (2 * x3) - 3)
          · rw [if_pos c2] at h ⊢; injection h with h; subst h; rfl
          · rw [if_neg c2] at h ⊢; exact hn h
        by_cases c2 : 0 ≤ x48
        case neg => rw [if_pos c1, if_neg c2] at h; exact absurd h (by simp)
        by_cases c3 : x48 < (d.length : Int)
        case neg => rw [if_pos c1, if_pos c2, if_neg c3] at h; exact absurd h (by simp)
        rw [if_pos c1, if_pos c2, if_pos c3] at h ⊢
        have ht : jacquardref28_Valid.j2 k x3 x47 x48 true a b c d e f = some r → some [PV.bool false] = some [PV.bool r] := fun h => by
          rcases hj _ h with ⟨-, h2⟩ | ⟨h1, -⟩
          · rw [h2]
          · exact absurd h1 (by simp)
        have hf : jacquardref28_Valid.j2 k x3 x47 x48 false a b c d e f = some r → v13.l0 K m x3 x47 (wrap64 (x48 + 1)) a b c d e f = some [PV.bool r] := fun h => by
          rcases hj _ h with ⟨h1, -⟩ | ⟨-, h2⟩
          · exact absurd h1 (by simp)
          · exact h2
        by_cases cq : (rd_T48 d x48).f0 < 0
        · rw [if_pos cq] at h ⊢; exact ht h
        rw [if_neg cq] at h ⊢; clear cq
        by_cases cq : (rd_T48 d x48).f0 ≥ wrap64 (x3 - 1)
        · rw [if_pos cq] at h ⊢; exact ht h
        rw [if_neg cq] at h ⊢; clear cq
        by_cases cq : (rd_T48 d x48).f1 < 0
        · rw [if_pos cq] at h ⊢; exact ht h
        rw [if_neg cq] at h ⊢; clear cq
        by_cases cq : (rd_T48 d x48).f1 ≥ x3
        · rw [if_pos cq] at h ⊢; exact ht h
        rw [if_neg cq] at h ⊢; clear cq
        by_cases cq : (rd_T48 d x48).f2 < 0
        · rw [if_pos cq] at h ⊢; exact ht h
        rw [if_neg cq] at h ⊢; clear cq
        by_cases cq : (rd_T48 d x48).f2 > 4096
        · rw [if_pos cq] at h ⊢; exact ht h
        rw [if_neg cq] at h ⊢; clear cq
        by_cases cq : (rd_T48 d x48).f3 < 0
        · rw [if_pos cq] at h ⊢; exact ht h
        rw [if_neg cq] at h ⊢; clear cq
        by_cases cq : (rd_T48 d x48).f3 > 256
        · rw [if_pos cq] at h ⊢; exact ht h
        rw [if_neg cq] at h ⊢; clear cq
        by_cases cq : (rd_T48 d x48).f3 > 0
        · rw [if_pos cq] at h ⊢
          cases c with
          | true => exact hf h
          | false => exact ht h
        · rw [if_neg cq] at h ⊢; exact hf h
theorem vrelf (k : Nat) (a b : Int) (c : Bool) (d : List S48) (e : List S50) (f : List S52) (r : Bool) (h : jacquardref28_Valid.f k a b c d e f = some r) : evF Try.prog vzv vann (k + 1) 13 [.agg [.int .i64 a, .int .i64 b, .bool c, e48 d, e50 e, e52 f]] = some [.bool r] := by
  rw [v13_eq]
  have hj : ∀ q, jacquardref28_Valid.j0 k q a b c d e f = some r → (q = true ∧ r = false) ∨ (q = false ∧ v13.l0 k k (wrap64 (wrap64 (a + b) + 2)) (d.length : Int) 0 a b c d e f = some [.bool r]) := by
    intro q hq
    cases k with
    | zero => exact absurd hq (by simp [jacquardref28_Valid.j0])
    | succ k =>
      simp only [jacquardref28_Valid.j0] at hq
      cases q with
      | true => rw [if_pos rfl] at hq; left; exact ⟨rfl, (Option.some.inj hq).symm⟩
      | false => rw [if_neg Bool.false_ne_true] at hq; exact .inr ⟨rfl, vrel0 k _ _ _ _ _ _ _ _ _ _ _ _ (by omega) (by omega) hq⟩
  have ht : jacquardref28_Valid.j0 k true a b c d e f = some r → some [PV.bool false] = some [PV.bool r] := fun h => by
    rcases hj _ h with ⟨-, h2⟩ | ⟨h1, -⟩
    · rw [h2]
    · exact absurd h1 (by simp)
  unfold jacquardref28_Valid.f at h
  by_cases q0 : a < 0
  · rw [if_pos q0] at h ⊢; exact ht h
  rw [if_neg q0] at h ⊢
  by_cases q1 : a > 4096
  · rw [if_pos q1] at h ⊢; exact ht h
  rw [if_neg q1] at h ⊢
  by_cases q2 : b < 0
  · rw [if_pos q2] at h ⊢; exact ht h
  rw [if_neg q2] at h ⊢
  by_cases q3 : b > 4094
  · rw [if_pos q3] at h ⊢; exact ht h
  rw [if_neg q3] at h ⊢
  rcases hj _ h with ⟨h1, h2⟩ | ⟨h1, h2⟩
  · rw [if_pos (by simpa using h1), h2]
  · rw [if_neg (by simpa using h1)]; exact h2
theorem vrow {α : Type} {kd : Kd α} {w : World} {A : Option Addr} {c : Nat} {l : List α} (enc : α → List PV) (z : α) (hz : 0 < kd.sz) (hr : Kd.C kd w A l.length l) (hc : l.length ≤ c) (hE : ∀ x cs, kd.K w x cs → VRs (oldS w) w noRho (enc x) cs) :
    VR (oldS w) w noRho (.vsl none false kd.sz l.length (fun j => enc (l.getD j z))) (.slice A l.length c) :=
  VR.row enc z hz rfl hc (fun hn => by
    obtain ⟨ad, e, h1⟩ := hr.2.2 hn
    refine ⟨ad, e, fun j p hp => ?_⟩
    obtain ⟨cs, h2, h3, h4⟩ := h1 j p hp
    exact ⟨cs, h2, hE p cs h3, h4⟩)
theorem jacquardref28_Valid.calls (k : Nat) (a0_0 : Int) (a0_1 : Int) (a0_2 : Bool) (A0_3 : Option Addr) (c0_3 : Nat) (l0_3 : List (S48)) (A0_4 : Option Addr) (c0_4 : Nat) (l0_4 : List (S50)) (A0_5 : Option Addr) (c0_5 : Nat) (l0_5 : List (S52)) (r : Bool) (w : World) (hr0_3 : Kd.C k48 w A0_3 l0_3.length l0_3) (hc0_3 : l0_3.length ≤ c0_3) (hr0_4 : Kd.C k50 w A0_4 l0_4.length l0_4) (hc0_4 : l0_4.length ≤ c0_4) (hr0_5 : Kd.C k52 w A0_5 l0_5.length l0_5) (hc0_5 : l0_5.length ≤ c0_5) (h : jacquardref28_Valid.f k a0_0 a0_1 a0_2 l0_3 l0_4 l0_5 = some r) :
    Calls Try.prog 13 #[.agg #[.int .i64 a0_0, .int .i64 a0_1, .bool a0_2, .slice A0_3 l0_3.length c0_3, .slice A0_4 l0_4.length c0_4, .slice A0_5 l0_5.length c0_5]] w fun e w' => e = .returned (.bool r) ∧ Below w.heap.size w w':= by
  have hv := vrelf k a0_0 a0_1 a0_2 l0_3 l0_4 l0_5 r h
  have hm : Try.prog.follows .mixedOrders = true := by kernel_rfl
  refine (Calls.plain hm hv (args := #[.agg #[.int .i64 a0_0, .int .i64 a0_1, .bool a0_2, .slice A0_3 l0_3.length c0_3, .slice A0_4 l0_4.length c0_4, .slice A0_5 l0_5.length c0_5]]) (.cons _ _ _ _ (.agg _ _ (.cons _ _ _ _ (.int _ _) (.cons _ _ _ _ (.int _ _) (.cons _ _ _ _ (.bool _) (.cons _ _ _ _ ?_ (.cons _ _ _ _ ?_ (.cons _ _ _ _ ?_ .nil))))))) .nil)).mono ?_
  · exact vrow (kd := k48) S48.enc z48 (by decide) hr0_3 hc0_3 (fun x cs h => by rw [k48_open h]; exact .cons _ _ _ _ (.int _ _) (.cons _ _ _ _ (.int _ _) (.cons _ _ _ _ (.int _ _) (.cons _ _ _ _ (.int _ _) .nil))))
  · exact vrow (kd := k50) S50.enc z50 (by decide) hr0_4 hc0_4 (fun x cs h => by rw [k50_open h]; exact .cons _ _ _ _ (.int _ _) (.cons _ _ _ _ (.int _ _) (.cons _ _ _ _ (.int _ _) (.cons _ _ _ _ (.int _ _) .nil))))
  · exact vrow (kd := k52) S52.enc z52 (by decide) hr0_5 hc0_5 (fun x cs h => by rw [k52_open h]; exact .cons _ _ _ _ (.int _ _) (.cons _ _ _ _ (.int _ _) .nil))
  · rintro e w' ⟨u, S', rfl, hbel, -, -, -, hres⟩
    unfold ResR at hres
    cases hres
    exact ⟨rfl, hbel⟩
end Go.Proofs.Ytpmlbbglekaidaa.PAll
