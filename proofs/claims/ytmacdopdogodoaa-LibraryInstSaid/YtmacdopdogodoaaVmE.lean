import Derived.Test.YtmacdopdogodoaaVm2
import Derived.Test.YtmacdopdogodoaaProg
import Derived.Lib.BitFns
set_option linter.all false
namespace Go.Proofs.Ytmacdopdogodoaa.vm
open Go Go.RowKit Go.Vm
/-! printed by gen3.py -/
structure S53 where
  f0 : Int
  f1 : Int
  f2 : List Int
  f3 : Int
  f4 : Int
def z53 : S53 := ⟨(0 : Int), (0 : Int), [], (0 : Int), (0 : Int)⟩
structure S94 where
  f0 : Int
  f1 : List Int
def z94 : S94 := ⟨(0 : Int), []⟩
structure S63 where
  f0 : List Int
  f1 : List S53
  f2 : Int
  f3 : Int
  f4 : List S94
  f5 : List Int
  f6 : Int
  f7 : Int
  f8 : Int
def z63 : S63 := ⟨[], [], (0 : Int), (0 : Int), [], [], (0 : Int), (0 : Int), (0 : Int)⟩
structure S71 where
  f0 : List UInt8
  f1 : Int
  f2 : Int
  f3 : Int
  f4 : Int
def z71 : S71 := ⟨[], (0 : Int), (0 : Int), (0 : Int), (0 : Int)⟩
structure S73 where
  f0 : List UInt8
  f1 : Int
  f2 : Bool
def z73 : S73 := ⟨[], (0 : Int), false⟩
def N : Nat → Type := fun i => match i with
  | 53 => S53
  | 94 => S94
  | 63 => S63
  | 71 => S71
  | 73 => S73
  | _ => Unit
def enc53 (x : S53) : List (PV N) := [.int .i64 x.f0, .int .i64 x.f1, .vsl none (.int .i64) x.f2, .int .u64 x.f3, .int .i64 x.f4]
def dec53 : List (PV N) → Option S53
  | [v0, v1, v2, v3, v4] => (decI .i64 v0).bind fun x0 => (decI .i64 v1).bind fun x1 => (decL (.int .i64) v2).bind fun x2 => (decI .u64 v3).bind fun x3 => (decI .i64 v4).bind fun x4 => some ⟨x0, x1, x2, x3, x4⟩
  | _ => none
theorem dec53_ok {x : S53} {cs : List (PV N)} (h : dec53 cs = some x) {E : Enc N} {S : Stab} {w : World} {ρ : Rho} {vs : List Value} (hv : VRs E S w ρ cs vs) : VRs E S w noRho (enc53 x) vs := by
  unfold dec53 at h
  split at h
  · obtain ⟨x0, h0, h⟩ := Option.bind_eq_some_iff.1 h
    obtain ⟨x1, h1, h⟩ := Option.bind_eq_some_iff.1 h
    obtain ⟨x2, h2, h⟩ := Option.bind_eq_some_iff.1 h
    obtain ⟨x3, h3, h⟩ := Option.bind_eq_some_iff.1 h
    obtain ⟨x4, h4, h⟩ := Option.bind_eq_some_iff.1 h
    injection h with h; subst h
    rcases hv with _ | ⟨_, _, _, _, g0, hv⟩; rcases hv with _ | ⟨_, _, _, _, g1, hv⟩; rcases hv with _ | ⟨_, _, _, _, g2, hv⟩; rcases hv with _ | ⟨_, _, _, _, g3, hv⟩; rcases hv with _ | ⟨_, _, _, _, g4, hv⟩; cases hv
    exact .cons _ _ _ _ (decI_VR h0 g0) (.cons _ _ _ _ (decI_VR h1 g1) (.cons _ _ _ _ (decL_VR h2 g2) (.cons _ _ _ _ (decI_VR h3 g3) (.cons _ _ _ _ (decI_VR h4 g4) (.nil)))))
  · exact absurd h (by simp)
def enc94 (x : S94) : List (PV N) := [.int .i64 x.f0, .vsl none (.int .i64) x.f1]
def dec94 : List (PV N) → Option S94
  | [v0, v1] => (decI .i64 v0).bind fun x0 => (decL (.int .i64) v1).bind fun x1 => some ⟨x0, x1⟩
  | _ => none
theorem dec94_ok {x : S94} {cs : List (PV N)} (h : dec94 cs = some x) {E : Enc N} {S : Stab} {w : World} {ρ : Rho} {vs : List Value} (hv : VRs E S w ρ cs vs) : VRs E S w noRho (enc94 x) vs := by
  unfold dec94 at h
  split at h
  · obtain ⟨x0, h0, h⟩ := Option.bind_eq_some_iff.1 h
    obtain ⟨x1, h1, h⟩ := Option.bind_eq_some_iff.1 h
    injection h with h; subst h
    rcases hv with _ | ⟨_, _, _, _, g0, hv⟩; rcases hv with _ | ⟨_, _, _, _, g1, hv⟩; cases hv
    exact .cons _ _ _ _ (decI_VR h0 g0) (.cons _ _ _ _ (decL_VR h1 g1) (.nil))
  · exact absurd h (by simp)
def enc63 (x : S63) : List (PV N) := [.vsl none (.int .i64) x.f0, .vsl none (.named 53) x.f1, .int .i64 x.f2, .int .i64 x.f3, .vsl none (.named 94) x.f4, .vsl none (.int .i64) x.f5, .int .i64 x.f6, .int .i64 x.f7, .int .i64 x.f8]
def dec63 : List (PV N) → Option S63
  | [v0, v1, v2, v3, v4, v5, v6, v7, v8] => (decL (.int .i64) v0).bind fun x0 => (decL (.named 53) v1).bind fun x1 => (decI .i64 v2).bind fun x2 => (decI .i64 v3).bind fun x3 => (decL (.named 94) v4).bind fun x4 => (decL (.int .i64) v5).bind fun x5 => (decI .i64 v6).bind fun x6 => (decI .i64 v7).bind fun x7 => (decI .i64 v8).bind fun x8 => some ⟨x0, x1, x2, x3, x4, x5, x6, x7, x8⟩
  | _ => none
theorem dec63_ok {x : S63} {cs : List (PV N)} (h : dec63 cs = some x) {E : Enc N} {S : Stab} {w : World} {ρ : Rho} {vs : List Value} (hv : VRs E S w ρ cs vs) : VRs E S w noRho (enc63 x) vs := by
  unfold dec63 at h
  split at h
  · obtain ⟨x0, h0, h⟩ := Option.bind_eq_some_iff.1 h
    obtain ⟨x1, h1, h⟩ := Option.bind_eq_some_iff.1 h
    obtain ⟨x2, h2, h⟩ := Option.bind_eq_some_iff.1 h
    obtain ⟨x3, h3, h⟩ := Option.bind_eq_some_iff.1 h
    obtain ⟨x4, h4, h⟩ := Option.bind_eq_some_iff.1 h
    obtain ⟨x5, h5, h⟩ := Option.bind_eq_some_iff.1 h
    obtain ⟨x6, h6, h⟩ := Option.bind_eq_some_iff.1 h
    obtain ⟨x7, h7, h⟩ := Option.bind_eq_some_iff.1 h
    obtain ⟨x8, h8, h⟩ := Option.bind_eq_some_iff.1 h
    injection h with h; subst h
    rcases hv with _ | ⟨_, _, _, _, g0, hv⟩; rcases hv with _ | ⟨_, _, _, _, g1, hv⟩; rcases hv with _ | ⟨_, _, _, _, g2, hv⟩; rcases hv with _ | ⟨_, _, _, _, g3, hv⟩; rcases hv with _ | ⟨_, _, _, _, g4, hv⟩; rcases hv with _ | ⟨_, _, _, _, g5, hv⟩; rcases hv with _ | ⟨_, _, _, _, g6, hv⟩; rcases hv with _ | ⟨_, _, _, _, g7, hv⟩; rcases hv with _ | ⟨_, _, _, _, g8, hv⟩; cases hv
    exact .cons _ _ _ _ (decL_VR h0 g0) (.cons _ _ _ _ (decL_VR h1 g1) (.cons _ _ _ _ (decI_VR h2 g2) (.cons _ _ _ _ (decI_VR h3 g3) (.cons _ _ _ _ (decL_VR h4 g4) (.cons _ _ _ _ (decL_VR h5 g5) (.cons _ _ _ _ (decI_VR h6 g6) (.cons _ _ _ _ (decI_VR h7 g7) (.cons _ _ _ _ (decI_VR h8 g8) (.nil)))))))))
  · exact absurd h (by simp)
def enc71 (x : S71) : List (PV N) := [.str x.f0, .int .i64 x.f1, .int .i64 x.f2, .int .i64 x.f3, .int .i64 x.f4]
def dec71 : List (PV N) → Option S71
  | [v0, v1, v2, v3, v4] => (decS v0).bind fun x0 => (decI .i64 v1).bind fun x1 => (decI .i64 v2).bind fun x2 => (decI .i64 v3).bind fun x3 => (decI .i64 v4).bind fun x4 => some ⟨x0, x1, x2, x3, x4⟩
  | _ => none
theorem dec71_ok {x : S71} {cs : List (PV N)} (h : dec71 cs = some x) {E : Enc N} {S : Stab} {w : World} {ρ : Rho} {vs : List Value} (hv : VRs E S w ρ cs vs) : VRs E S w noRho (enc71 x) vs := by
  unfold dec71 at h
  split at h
  · obtain ⟨x0, h0, h⟩ := Option.bind_eq_some_iff.1 h
    obtain ⟨x1, h1, h⟩ := Option.bind_eq_some_iff.1 h
    obtain ⟨x2, h2, h⟩ := Option.bind_eq_some_iff.1 h
    obtain ⟨x3, h3, h⟩ := Option.bind_eq_some_iff.1 h
    obtain ⟨x4, h4, h⟩ := Option.bind_eq_some_iff.1 h
    injection h with h; subst h
    rcases hv with _ | ⟨_, _, _, _, g0, hv⟩; rcases hv with _ | ⟨_, _, _, _, g1, hv⟩; rcases hv with _ | ⟨_, _, _, _, g2, hv⟩; rcases hv with _ | ⟨_, _, _, _, g3, hv⟩; rcases hv with _ | ⟨_, _, _, _, g4, hv⟩; cases hv
    exact .cons _ _ _ _ (decS_VR h0 g0) (.cons _ _ _ _ (decI_VR h1 g1) (.cons _ _ _ _ (decI_VR h2 g2) (.cons _ _ _ _ (decI_VR h3 g3) (.cons _ _ _ _ (decI_VR h4 g4) (.nil)))))
  · exact absurd h (by simp)
def enc73 (x : S73) : List (PV N) := [.str x.f0, .int .i64 x.f1, .bool x.f2]
def dec73 : List (PV N) → Option S73
  | [v0, v1, v2] => (decS v0).bind fun x0 => (decI .i64 v1).bind fun x1 => (decB v2).bind fun x2 => some ⟨x0, x1, x2⟩
  | _ => none
theorem dec73_ok {x : S73} {cs : List (PV N)} (h : dec73 cs = some x) {E : Enc N} {S : Stab} {w : World} {ρ : Rho} {vs : List Value} (hv : VRs E S w ρ cs vs) : VRs E S w noRho (enc73 x) vs := by
  unfold dec73 at h
  split at h
  · obtain ⟨x0, h0, h⟩ := Option.bind_eq_some_iff.1 h
    obtain ⟨x1, h1, h⟩ := Option.bind_eq_some_iff.1 h
    obtain ⟨x2, h2, h⟩ := Option.bind_eq_some_iff.1 h
    injection h with h; subst h
    rcases hv with _ | ⟨_, _, _, _, g0, hv⟩; rcases hv with _ | ⟨_, _, _, _, g1, hv⟩; rcases hv with _ | ⟨_, _, _, _, g2, hv⟩; cases hv
    exact .cons _ _ _ _ (decS_VR h0 g0) (.cons _ _ _ _ (decI_VR h1 g1) (.cons _ _ _ _ (decB_VR h2 g2) (.nil)))
  · exact absurd h (by simp)
theorem neN (i : Nat) : Nonempty (N i) := by
  unfold N; split <;> first | exact ⟨z53⟩ | exact ⟨z94⟩ | exact ⟨z63⟩ | exact ⟨z71⟩ | exact ⟨z73⟩ | exact ⟨()⟩
noncomputable def zN : (i : Nat) → N i
  | 53 => z53
  | 94 => z94
  | 63 => z63
  | 71 => z71
  | 73 => z73
  | n => Classical.choice (neN n)
noncomputable def E : Enc N where
  enc := fun i => match i with
    | 53 => fun x => enc53 x
    | 94 => fun x => enc94 x
    | 63 => fun x => enc63 x
    | 71 => fun x => enc71 x
    | 73 => fun x => enc73 x
    | _ => fun _ => []
  dec := fun i cs => if h : i = 53 then @Eq.rec Nat 53 (fun j _ => Option (N j)) (dec53 cs) i h.symm else if h : i = 94 then @Eq.rec Nat 94 (fun j _ => Option (N j)) (dec94 cs) i h.symm else if h : i = 63 then @Eq.rec Nat 63 (fun j _ => Option (N j)) (dec63 cs) i h.symm else if h : i = 71 then @Eq.rec Nat 71 (fun j _ => Option (N j)) (dec71 cs) i h.symm else if h : i = 73 then @Eq.rec Nat 73 (fun j _ => Option (N j)) (dec73 cs) i h.symm else none
  z := zN
  size := fun i => match i with
    | 53 => 5
    | 94 => 2
    | 63 => 9
    | 71 => 5
    | 73 => 3
    | _ => 0
theorem E_dec (i : Nat) (n53 : i ≠ 53) (n94 : i ≠ 94) (n63 : i ≠ 63) (n71 : i ≠ 71) (n73 : i ≠ 73) (cs : List (PV N)) : E.dec i cs = none := by
  unfold E; dsimp only; rw [dif_neg n53, dif_neg n94, dif_neg n63, dif_neg n71, dif_neg n73]
theorem E_enc (i : Nat) (n53 : i ≠ 53) (n94 : i ≠ 94) (n63 : i ≠ 63) (n71 : i ≠ 71) (n73 : i ≠ 73) (x : N i) : E.enc i x = [] ∧ E.size i = 0 := by
  unfold E; dsimp only; refine ⟨?_, ?_⟩ <;> split <;> first | contradiction | rfl
theorem encOK : EncOK E where
  dec := by
    intro i cs x h S w ρ vs hv
    by_cases n53 : i = 53
    · subst n53; exact dec53_ok h hv
    by_cases n94 : i = 94
    · subst n94; exact dec94_ok h hv
    by_cases n63 : i = 63
    · subst n63; exact dec63_ok h hv
    by_cases n71 : i = 71
    · subst n71; exact dec71_ok h hv
    by_cases n73 : i = 73
    · subst n73; exact dec73_ok h hv
    rw [E_dec i n53 n94 n63 n71 n73] at h; exact absurd h (by simp)
  size := by
    intro i x
    by_cases n53 : i = 53
    · subst n53; exact rfl
    by_cases n94 : i = 94
    · subst n94; exact rfl
    by_cases n63 : i = 63
    · subst n63; exact rfl
    by_cases n71 : i = 71
    · subst n71; exact rfl
    by_cases n73 : i = 73
    · subst n73; exact rfl
    rw [(E_enc i n53 n94 n63 n71 n73 x).1, (E_enc i n53 n94 n63 n71 n73 x).2]; rfl
  cell := by
    intro i x
    by_cases n53 : i = 53
    · subst n53; exact rfl
    by_cases n94 : i = 94
    · subst n94; exact rfl
    by_cases n63 : i = 63
    · subst n63; exact rfl
    by_cases n71 : i = 71
    · subst n71; exact rfl
    by_cases n73 : i = 73
    · subst n73; exact rfl
    rw [(E_enc i n53 n94 n63 n71 n73 x).1]; rfl
def tcT : TypeId → Option TC := fun t => match t with
  | 3 => some (.int .i64)
  | 4 => some .bool
  | 5 => some (.int .u8)
  | 9 => some .str
  | 32 => some (.int .u64)
  | 40 => some (.list (.int .i64))
  | 53 => some (.named 53)
  | 58 => some (.list (.named 53))
  | 59 => some (.list (.named 94))
  | 63 => some (.named 63)
  | 71 => some (.named 71)
  | 73 => some (.named 73)
  | 94 => some (.named 94)
  | _ => none
def zvT : TypeId → List (PV N) := fun t => match t with
  | 3 => [.int .i64 (0 : Int)]
  | 24 => [.int .i64 (0 : Int), .int .i64 (0 : Int), .int .i64 (0 : Int), .int .i64 (0 : Int), .int .i64 (0 : Int), .int .i64 (0 : Int)]
  | 45 => [.str [], .vsl (some 3) (.int .i64) [], .vsl (some 71) (.named 71) [], .vsl (some 73) (.named 73) [], .vsl (some 3) (.int .i64) [], .vsl (some 63) (.named 63) []]
  | 53 => [.int .i64 (0 : Int), .int .i64 (0 : Int), .vsl (some 3) (.int .i64) [], .int .u64 (0 : Int), .int .i64 (0 : Int)]
  | 61 => [.int .i64 (0 : Int), .int .i64 (0 : Int), .vsl (some 94) (.named 94) [], .vsl (some 3) (.int .i64) []]
  | 63 => [.vsl (some 3) (.int .i64) [], .vsl (some 53) (.named 53) [], .int .i64 (0 : Int), .int .i64 (0 : Int), .vsl (some 94) (.named 94) [], .vsl (some 3) (.int .i64) [], .int .i64 (0 : Int), .int .i64 (0 : Int), .int .i64 (0 : Int)]
  | 71 => [.str [], .int .i64 (0 : Int), .int .i64 (0 : Int), .int .i64 (0 : Int), .int .i64 (0 : Int)]
  | 73 => [.str [], .int .i64 (0 : Int), .bool false]
  | _ => []
def annT : FuncId → Nat → Option Ann := fun f r => match f, r with
  | 11, 1011 => some ⟨[0, 4, 6, 7, 8, 9, 32, 33], [], []⟩
  | 11, 1018 => some ⟨[0, 4, 6, 7, 8, 9, 32, 68], [], []⟩
  | 11, 1021 => some ⟨[0, 4, 6, 7, 8, 9, 32, 78], [], []⟩
  | 11, 1024 => some ⟨[0, 4, 6, 7, 8, 9, 32, 93], [], []⟩
  | 11, 1029 => some ⟨[0, 4, 6, 7, 9, 32, 116], [], []⟩
  | 11, 1038 => some ⟨[0, 4, 6, 9, 159], [], []⟩
  | 14, 1010 => some ⟨[0, 1, 4, 5, 6, 12, 41], [], []⟩
  | 14, 1013 => some ⟨[0, 1, 4, 5, 6, 12, 48], [], []⟩
  | 14, 1018 => some ⟨[0, 1, 4, 5, 6, 12, 77], [], []⟩
  | 14, 1021 => some ⟨[0, 1, 4, 6, 12, 87], [], []⟩
  | 14, 1024 => some ⟨[0, 1, 4, 6, 12, 102], [], []⟩
  | 14, 1033 => some ⟨[0, 1, 4, 137], [], []⟩
  | 17, 3 => some ⟨[0, 3, 4], [], []⟩
  | 22, 4 => some ⟨[0, 4, 5, 6, 7], [], []⟩
  | 22, 7 => some ⟨[0, 4, 5, 6, 7], [], []⟩
  | 22, 12 => some ⟨[4, 5, 8, 9, 10, 11, 12, 58, 59], [], []⟩
  | 22, 21 => some ⟨[4, 5, 10, 11, 12], [], []⟩
  | 31, 13 => some ⟨[2, 3], [], []⟩
  | 31, 1008 => some ⟨[2, 3, 6, 7], [], []⟩
  | _, _ => none
def finT : FuncId → Ann := fun f => match f with
  | 8 => ⟨[], [0], []⟩
  | 10 => ⟨[], [0], []⟩
  | 11 => ⟨[], [0, 1], []⟩
  | 12 => ⟨[], [0], []⟩
  | 14 => ⟨[], [0], []⟩
  | 15 => ⟨[], [0], []⟩
  | 17 => ⟨[], [0], []⟩
  | 22 => ⟨[], [0, 1], []⟩
  | 23 => ⟨[], [0], []⟩
  | 24 => ⟨[], [0], []⟩
  | 27 => ⟨[], [0], []⟩
  | 28 => ⟨[], [0], []⟩
  | 30 => ⟨[], [0, 1], []⟩
  | 31 => ⟨[], [0], []⟩
  | 32 => ⟨[], [0], []⟩
  | 35 => ⟨[], [0], []⟩
  | _ => ⟨[], [], []⟩
def ownT : FuncId → List Nat := fun f => match f with
  | _ => []
def sigT : FuncId → Nat → Option Sig := fun f n => match f, n with
  | 8, 0 => some ⟨[.val .bool], []⟩
  | 10, 0 => some ⟨[.val .bool], []⟩
  | 11, 0 => some ⟨[.agg [.int .i64, .int .i64, .int .i64, .int .i64, .int .i64, .int .i64], .val (.int .i64)], []⟩
  | 12, 0 => some ⟨[.val .bool], []⟩
  | 14, 0 => some ⟨[.agg [.int .i64, .int .i64, .int .i64, .int .i64, .int .i64, .int .i64]], []⟩
  | 15, 0 => some ⟨[.val (.int .i64)], []⟩
  | 17, 0 => some ⟨[.val (.int .i64)], []⟩
  | 22, 0 => some ⟨[.agg [.str, .list (.int .i64), .list (.named 71), .list (.named 73), .list (.int .i64), .list (.named 63)], .agg [.int .i64, .int .i64, .list (.int .i64), .int .u64, .int .i64]], []⟩
  | 23, 0 => some ⟨[.agg [.int .i64, .int .i64, .int .i64, .int .i64, .int .i64, .int .i64]], []⟩
  | 24, 0 => some ⟨[.agg [.int .i64, .int .i64, .int .i64, .int .i64, .int .i64, .int .i64]], []⟩
  | 27, 0 => some ⟨[.val .bool], []⟩
  | 28, 0 => some ⟨[.agg [.int .i64, .int .i64, .int .i64, .int .i64, .int .i64, .int .i64]], []⟩
  | 29, 0 => some ⟨[.val (.int .i64)], []⟩
  | 30, 0 => some ⟨[.val (.list (.int .i64)), .val (.int .i64)], []⟩
  | 31, 0 => some ⟨[.val (.int .i64)], []⟩
  | 32, 0 => some ⟨[.val (.int .i64)], []⟩
  | 35, 0 => some ⟨[.val .bool], []⟩
  | _, _ => none
def cutT : FuncId → Nat → Bool := fun f r => match f, r with
  | 11, 1011 => true
  | 11, 1018 => true
  | 11, 1021 => true
  | 11, 1024 => true
  | 11, 1029 => true
  | 11, 1038 => true
  | 14, 1010 => true
  | 14, 1013 => true
  | 14, 1018 => true
  | 14, 1021 => true
  | 14, 1024 => true
  | 14, 1033 => true
  | 22, 4 => true
  | 22, 7 => true
  | 22, 21 => true
  | 31, 13 => true
  | 31, 1008 => true
  | _, _ => false
def inpT : FuncId → Option (Inp N) := fun f => match f with
  | _ => none
/-! ### what the library's function answers -/
def xLen (args : List (PV N)) (hp : Heap N) : Option (Ans N) :=
  match args, hp with
  | [.int .u64 x], [] => if 0 ≤ x ∧ x ≤ 18446744073709551615 then some ([.int .i64 (Lib.bitLen x.toNat : Nat)], []) else none
  | _, _ => none
def extT : FuncId → Option (List (PV N) → Heap N → Option (List (PV N) × Heap N)) := fun f => match f with
  | 29 => some xLen
  | _ => none
def glT : List (Nat × (Value → Prop)) := []
noncomputable def T : Tbl N := ⟨Go.Proofs.Try.prog, E, tcT, zvT, annT, finT, ownT, sigT, extT, inpT, cutT, glT⟩
def res10 {R : Type} (r : Ans N) (K : Bool → Option R) : Option R := nilR r.2 (consR r.1 (fun v1 q2 => asB v1 (fun x3 => nilR q2 (K x3))))
theorem res10_eq {R : Type} (x0 : Bool) (K : Bool → Option R) : res10 ([.bool x0], []) K = K x0 := rfl
def res11 {R : Type} (r : Ans N) (K : Int → Int → Int → Int → Int → Int → Int → Option R) : Option R := nilR r.2 (consR r.1 (fun v1 q2 => asA v1 (fun q3 => consR q3 (fun v4 q5 => asI .i64 v4 (fun x6 => consR q5 (fun v7 q8 => asI .i64 v7 (fun x9 => consR q8 (fun v10 q11 => asI .i64 v10 (fun x12 => consR q11 (fun v13 q14 => asI .i64 v13 (fun x15 => consR q14 (fun v16 q17 => asI .i64 v16 (fun x18 => consR q17 (fun v19 q20 => asI .i64 v19 (fun x21 => nilR q20 (consR q2 (fun v22 q23 => asI .i64 v22 (fun x24 => nilR q23 (K x6 x9 x12 x15 x18 x21 x24)))))))))))))))))))
theorem res11_eq {R : Type} (x0 : Int) (x1 : Int) (x2 : Int) (x3 : Int) (x4 : Int) (x5 : Int) (x6 : Int) (K : Int → Int → Int → Int → Int → Int → Int → Option R) : res11 ([.agg [.int .i64 x0, .int .i64 x1, .int .i64 x2, .int .i64 x3, .int .i64 x4, .int .i64 x5], .int .i64 x6], []) K = K x0 x1 x2 x3 x4 x5 x6 := rfl
def res12 {R : Type} (r : Ans N) (K : Bool → Option R) : Option R := nilR r.2 (consR r.1 (fun v1 q2 => asB v1 (fun x3 => nilR q2 (K x3))))
theorem res12_eq {R : Type} (x0 : Bool) (K : Bool → Option R) : res12 ([.bool x0], []) K = K x0 := rfl
def res14 {R : Type} (r : Ans N) (K : Int → Int → Int → Int → Int → Int → Option R) : Option R := nilR r.2 (consR r.1 (fun v1 q2 => asA v1 (fun q3 => consR q3 (fun v4 q5 => asI .i64 v4 (fun x6 => consR q5 (fun v7 q8 => asI .i64 v7 (fun x9 => consR q8 (fun v10 q11 => asI .i64 v10 (fun x12 => consR q11 (fun v13 q14 => asI .i64 v13 (fun x15 => consR q14 (fun v16 q17 => asI .i64 v16 (fun x18 => consR q17 (fun v19 q20 => asI .i64 v19 (fun x21 => nilR q20 (nilR q2 (K x6 x9 x12 x15 x18 x21)))))))))))))))))
theorem res14_eq {R : Type} (x0 : Int) (x1 : Int) (x2 : Int) (x3 : Int) (x4 : Int) (x5 : Int) (K : Int → Int → Int → Int → Int → Int → Option R) : res14 ([.agg [.int .i64 x0, .int .i64 x1, .int .i64 x2, .int .i64 x3, .int .i64 x4, .int .i64 x5]], []) K = K x0 x1 x2 x3 x4 x5 := rfl
def res15 {R : Type} (r : Ans N) (K : Int → Option R) : Option R := nilR r.2 (consR r.1 (fun v1 q2 => asI .i64 v1 (fun x3 => nilR q2 (K x3))))
theorem res15_eq {R : Type} (x0 : Int) (K : Int → Option R) : res15 ([.int .i64 x0], []) K = K x0 := rfl
def res17 {R : Type} (r : Ans N) (K : Int → Option R) : Option R := nilR r.2 (consR r.1 (fun v1 q2 => asI .i64 v1 (fun x3 => nilR q2 (K x3))))
theorem res17_eq {R : Type} (x0 : Int) (K : Int → Option R) : res17 ([.int .i64 x0], []) K = K x0 := rfl
def res22 {R : Type} (r : Ans N) (K : List UInt8 → List Int → List S71 → List S73 → List Int → List S63 → Int → Int → List Int → Int → Int → Option R) : Option R := nilR r.2 (consR r.1 (fun v1 q2 => asA v1 (fun q3 => consR q3 (fun v4 q5 => asS v4 (fun x6 => consR q5 (fun v7 q8 => asL (.int .i64) v7 (fun x9 => consR q8 (fun v10 q11 => asL (.named 71) v10 (fun x12 => consR q11 (fun v13 q14 => asL (.named 73) v13 (fun x15 => consR q14 (fun v16 q17 => asL (.int .i64) v16 (fun x18 => consR q17 (fun v19 q20 => asL (.named 63) v19 (fun x21 => nilR q20 (consR q2 (fun v22 q23 => asA v22 (fun q24 => consR q24 (fun v25 q26 => asI .i64 v25 (fun x27 => consR q26 (fun v28 q29 => asI .i64 v28 (fun x30 => consR q29 (fun v31 q32 => asL (.int .i64) v31 (fun x33 => consR q32 (fun v34 q35 => asI .u64 v34 (fun x36 => consR q35 (fun v37 q38 => asI .i64 v37 (fun x39 => nilR q38 (nilR q23 (K x6 x9 x12 x15 x18 x21 x27 x30 x33 x36 x39))))))))))))))))))))))))))))))
theorem res22_eq {R : Type} (x0 : List UInt8) (x1 : List Int) (x2 : List S71) (x3 : List S73) (x4 : List Int) (x5 : List S63) (x6 : Int) (x7 : Int) (x8 : List Int) (x9 : Int) (x10 : Int) (K : List UInt8 → List Int → List S71 → List S73 → List Int → List S63 → Int → Int → List Int → Int → Int → Option R) : res22 ([.agg [.str x0, .vsl none (.int .i64) x1, .vsl none (.named 71) x2, .vsl none (.named 73) x3, .vsl none (.int .i64) x4, .vsl none (.named 63) x5], .agg [.int .i64 x6, .int .i64 x7, .vsl none (.int .i64) x8, .int .u64 x9, .int .i64 x10]], []) K = K x0 x1 x2 x3 x4 x5 x6 x7 x8 x9 x10 := rfl
def res23 {R : Type} (r : Ans N) (K : Int → Int → Int → Int → Int → Int → Option R) : Option R := nilR r.2 (consR r.1 (fun v1 q2 => asA v1 (fun q3 => consR q3 (fun v4 q5 => asI .i64 v4 (fun x6 => consR q5 (fun v7 q8 => asI .i64 v7 (fun x9 => consR q8 (fun v10 q11 => asI .i64 v10 (fun x12 => consR q11 (fun v13 q14 => asI .i64 v13 (fun x15 => consR q14 (fun v16 q17 => asI .i64 v16 (fun x18 => consR q17 (fun v19 q20 => asI .i64 v19 (fun x21 => nilR q20 (nilR q2 (K x6 x9 x12 x15 x18 x21)))))))))))))))))
theorem res23_eq {R : Type} (x0 : Int) (x1 : Int) (x2 : Int) (x3 : Int) (x4 : Int) (x5 : Int) (K : Int → Int → Int → Int → Int → Int → Option R) : res23 ([.agg [.int .i64 x0, .int .i64 x1, .int .i64 x2, .int .i64 x3, .int .i64 x4, .int .i64 x5]], []) K = K x0 x1 x2 x3 x4 x5 := rfl
def res24 {R : Type} (r : Ans N) (K : Int → Int → Int → Int → Int → Int → Option R) : Option R := nilR r.2 (consR r.1 (fun v1 q2 => asA v1 (fun q3 => consR q3 (fun v4 q5 => asI .i64 v4 (fun x6 => consR q5 (fun v7 q8 => asI .i64 v7 (fun x9 => consR q8 (fun v10 q11 => asI .i64 v10 (fun x12 => consR q11 (fun v13 q14 => asI .i64 v13 (fun x15 => consR q14 (fun v16 q17 => asI .i64 v16 (fun x18 => consR q17 (fun v19 q20 => asI .i64 v19 (fun x21 => nilR q20 (nilR q2 (K x6 x9 x12 x15 x18 x21)))))))))))))))))
theorem res24_eq {R : Type} (x0 : Int) (x1 : Int) (x2 : Int) (x3 : Int) (x4 : Int) (x5 : Int) (K : Int → Int → Int → Int → Int → Int → Option R) : res24 ([.agg [.int .i64 x0, .int .i64 x1, .int .i64 x2, .int .i64 x3, .int .i64 x4, .int .i64 x5]], []) K = K x0 x1 x2 x3 x4 x5 := rfl
def res27 {R : Type} (r : Ans N) (K : Bool → Option R) : Option R := nilR r.2 (consR r.1 (fun v1 q2 => asB v1 (fun x3 => nilR q2 (K x3))))
theorem res27_eq {R : Type} (x0 : Bool) (K : Bool → Option R) : res27 ([.bool x0], []) K = K x0 := rfl
def res28 {R : Type} (r : Ans N) (K : Int → Int → Int → Int → Int → Int → Option R) : Option R := nilR r.2 (consR r.1 (fun v1 q2 => asA v1 (fun q3 => consR q3 (fun v4 q5 => asI .i64 v4 (fun x6 => consR q5 (fun v7 q8 => asI .i64 v7 (fun x9 => consR q8 (fun v10 q11 => asI .i64 v10 (fun x12 => consR q11 (fun v13 q14 => asI .i64 v13 (fun x15 => consR q14 (fun v16 q17 => asI .i64 v16 (fun x18 => consR q17 (fun v19 q20 => asI .i64 v19 (fun x21 => nilR q20 (nilR q2 (K x6 x9 x12 x15 x18 x21)))))))))))))))))
theorem res28_eq {R : Type} (x0 : Int) (x1 : Int) (x2 : Int) (x3 : Int) (x4 : Int) (x5 : Int) (K : Int → Int → Int → Int → Int → Int → Option R) : res28 ([.agg [.int .i64 x0, .int .i64 x1, .int .i64 x2, .int .i64 x3, .int .i64 x4, .int .i64 x5]], []) K = K x0 x1 x2 x3 x4 x5 := rfl
def res29 {R : Type} (r : Ans N) (K : Int → Option R) : Option R := nilR r.2 (consR r.1 (fun v1 q2 => asI .i64 v1 (fun x3 => nilR q2 (K x3))))
theorem res29_eq {R : Type} (x0 : Int) (K : Int → Option R) : res29 ([.int .i64 x0], []) K = K x0 := rfl
def res30 {R : Type} (r : Ans N) (K : List Int → Int → Option R) : Option R := nilR r.2 (consR r.1 (fun v1 q2 => asL (.int .i64) v1 (fun x3 => consR q2 (fun v4 q5 => asI .i64 v4 (fun x6 => nilR q5 (K x3 x6))))))
theorem res30_eq {R : Type} (x0 : List Int) (x1 : Int) (K : List Int → Int → Option R) : res30 ([.vsl none (.int .i64) x0, .int .i64 x1], []) K = K x0 x1 := rfl
def res31 {R : Type} (r : Ans N) (K : Int → Option R) : Option R := nilR r.2 (consR r.1 (fun v1 q2 => asI .i64 v1 (fun x3 => nilR q2 (K x3))))
theorem res31_eq {R : Type} (x0 : Int) (K : Int → Option R) : res31 ([.int .i64 x0], []) K = K x0 := rfl
def res32 {R : Type} (r : Ans N) (K : Int → Option R) : Option R := nilR r.2 (consR r.1 (fun v1 q2 => asI .i64 v1 (fun x3 => nilR q2 (K x3))))
theorem res32_eq {R : Type} (x0 : Int) (K : Int → Option R) : res32 ([.int .i64 x0], []) K = K x0 := rfl
def res35 {R : Type} (r : Ans N) (K : Bool → Option R) : Option R := nilR r.2 (consR r.1 (fun v1 q2 => asB v1 (fun x3 => nilR q2 (K x3))))
theorem res35_eq {R : Type} (x0 : Bool) (K : Bool → Option R) : res35 ([.bool x0], []) K = K x0 := rfl
theorem f15_eq (k : Nat) (a0 : Int) : evF T (k + 1) 15 [.int .i64 a0] [] = if a0 < (1 : Int) then some ([.int .i64 (0 : Int)], []) else (evF T k 29 [.int .u64 (wr .u64 ((wrap64 (a0 - (1 : Int)))))] []).bind fun r => res29 r fun y1 => some ([.int .i64 y1], []) := by kernel_rfl
noncomputable def j11_0 (k : Nat) (x0 : Int) (x6 : Int) (x7 : Int) (x8 : Int) (x32 : Int) (x33 : Bool) (b0_0 : Int) (b0_1 : Int) (b0_2 : Int) (b0_3 : Int) (b0_4 : Int) (b0_5 : Int) (b1_0 : Int) (b1_1 : Int) (b1_2 : Int) (b1_3 : Int) (b1_4 : Int) (b1_5 : Int) : Option (Ans N) := jn T 11 0 [1, 1, 1, 1, 1, 0, 1, 0, 1] k [] ⟨[(0, .int .i64 x0), (4, .bptr 0 0), (6, .int .i64 x6), (7, .int .i64 x7), (8, .int .i64 x8), (9, .bptr 1 0), (32, .int .i64 x32), (33, .bool x33)], [some (.box [.int .i64 b0_0, .int .i64 b0_1, .int .i64 b0_2, .int .i64 b0_3, .int .i64 b0_4, .int .i64 b0_5]), some (.box [.int .i64 b1_0, .int .i64 b1_1, .int .i64 b1_2, .int .i64 b1_3, .int .i64 b1_4, .int .i64 b1_5])]⟩
noncomputable def j11_1 (k : Nat) (x0 : Int) (x6 : Int) (x7 : Int) (x8 : Int) (x32 : Int) (x68 : Bool) (b0_0 : Int) (b0_1 : Int) (b0_2 : Int) (b0_3 : Int) (b0_4 : Int) (b0_5 : Int) (b1_0 : Int) (b1_1 : Int) (b1_2 : Int) (b1_3 : Int) (b1_4 : Int) (b1_5 : Int) : Option (Ans N) := jn T 11 0 [1, 1, 1, 1, 1, 0, 1, 0, 1, 1, 1, 1, 1, 1, 1] k [] ⟨[(0, .int .i64 x0), (4, .bptr 0 0), (6, .int .i64 x6), (7, .int .i64 x7), (8, .int .i64 x8), (9, .bptr 1 0), (32, .int .i64 x32), (68, .bool x68)], [some (.box [.int .i64 b0_0, .int .i64 b0_1, .int .i64 b0_2, .int .i64 b0_3, .int .i64 b0_4, .int .i64 b0_5]), some (.box [.int .i64 b1_0, .int .i64 b1_1, .int .i64 b1_2, .int .i64 b1_3, .int .i64 b1_4, .int .i64 b1_5])]⟩
noncomputable def j11_2 (k : Nat) (x0 : Int) (x6 : Int) (x7 : Int) (x8 : Int) (x32 : Int) (x78 : Bool) (b0_0 : Int) (b0_1 : Int) (b0_2 : Int) (b0_3 : Int) (b0_4 : Int) (b0_5 : Int) (b1_0 : Int) (b1_1 : Int) (b1_2 : Int) (b1_3 : Int) (b1_4 : Int) (b1_5 : Int) : Option (Ans N) := jn T 11 0 [1, 1, 1, 1, 1, 0, 1, 0, 1, 1, 1, 1, 1, 1, 1, 1, 1] k [] ⟨[(0, .int .i64 x0), (4, .bptr 0 0), (6, .int .i64 x6), (7, .int .i64 x7), (8, .int .i64 x8), (9, .bptr 1 0), (32, .int .i64 x32), (78, .bool x78)], [some (.box [.int .i64 b0_0, .int .i64 b0_1, .int .i64 b0_2, .int .i64 b0_3, .int .i64 b0_4, .int .i64 b0_5]), some (.box [.int .i64 b1_0, .int .i64 b1_1, .int .i64 b1_2, .int .i64 b1_3, .int .i64 b1_4, .int .i64 b1_5])]⟩
noncomputable def j11_3 (k : Nat) (x0 : Int) (x6 : Int) (x7 : Int) (x8 : Int) (x32 : Int) (x93 : Bool) (b0_0 : Int) (b0_1 : Int) (b0_2 : Int) (b0_3 : Int) (b0_4 : Int) (b0_5 : Int) (b1_0 : Int) (b1_1 : Int) (b1_2 : Int) (b1_3 : Int) (b1_4 : Int) (b1_5 : Int) : Option (Ans N) := jn T 11 0 [1, 1, 1, 1, 1, 0, 1, 0, 1, 1, 1, 1, 1, 1, 1, 1, 1, 1, 1] k [] ⟨[(0, .int .i64 x0), (4, .bptr 0 0), (6, .int .i64 x6), (7, .int .i64 x7), (8, .int .i64 x8), (9, .bptr 1 0), (32, .int .i64 x32), (93, .bool x93)], [some (.box [.int .i64 b0_0, .int .i64 b0_1, .int .i64 b0_2, .int .i64 b0_3, .int .i64 b0_4, .int .i64 b0_5]), some (.box [.int .i64 b1_0, .int .i64 b1_1, .int .i64 b1_2, .int .i64 b1_3, .int .i64 b1_4, .int .i64 b1_5])]⟩
noncomputable def j11_4 (k : Nat) (x0 : Int) (x6 : Int) (x7 : Int) (x32 : Int) (x116 : Bool) (b0_0 : Int) (b0_1 : Int) (b0_2 : Int) (b0_3 : Int) (b0_4 : Int) (b0_5 : Int) (b1_0 : Int) (b1_1 : Int) (b1_2 : Int) (b1_3 : Int) (b1_4 : Int) (b1_5 : Int) : Option (Ans N) := jn T 11 0 [1, 1, 1, 1, 1, 0, 1, 0, 1, 1, 1, 1, 1, 1, 1, 1, 1, 1, 1, 1, 1, 1, 1] k [] ⟨[(0, .int .i64 x0), (4, .bptr 0 0), (6, .int .i64 x6), (7, .int .i64 x7), (9, .bptr 1 0), (32, .int .i64 x32), (116, .bool x116)], [some (.box [.int .i64 b0_0, .int .i64 b0_1, .int .i64 b0_2, .int .i64 b0_3, .int .i64 b0_4, .int .i64 b0_5]), some (.box [.int .i64 b1_0, .int .i64 b1_1, .int .i64 b1_2, .int .i64 b1_3, .int .i64 b1_4, .int .i64 b1_5])]⟩
noncomputable def j11_5 (k : Nat) (x0 : Int) (x6 : Int) (x159 : Bool) (b0_0 : Int) (b0_1 : Int) (b0_2 : Int) (b0_3 : Int) (b0_4 : Int) (b0_5 : Int) (b1_0 : Int) (b1_1 : Int) (b1_2 : Int) (b1_3 : Int) (b1_4 : Int) (b1_5 : Int) : Option (Ans N) := jn T 11 0 [1, 1, 1, 1, 1, 0, 1, 0, 1, 1, 1, 1, 1, 1, 1, 1, 1, 1, 1, 1, 1, 1, 1, 1, 1, 1, 1, 1, 1] k [] ⟨[(0, .int .i64 x0), (4, .bptr 0 0), (6, .int .i64 x6), (9, .bptr 1 0), (159, .bool x159)], [some (.box [.int .i64 b0_0, .int .i64 b0_1, .int .i64 b0_2, .int .i64 b0_3, .int .i64 b0_4, .int .i64 b0_5]), some (.box [.int .i64 b1_0, .int .i64 b1_1, .int .i64 b1_2, .int .i64 b1_3, .int .i64 b1_4, .int .i64 b1_5])]⟩
theorem j11_5_eq (k : Nat) (x0 : Int) (x6 : Int) (x159 : Bool) (b0_0 : Int) (b0_1 : Int) (b0_2 : Int) (b0_3 : Int) (b0_4 : Int) (b0_5 : Int) (b1_0 : Int) (b1_1 : Int) (b1_2 : Int) (b1_3 : Int) (b1_4 : Int) (b1_5 : Int) : j11_5 k  x0 x6 x159 b0_0 b0_1 b0_2 b0_3 b0_4 b0_5 b1_0 b1_1 b1_2 b1_3 b1_4 b1_5 = if x159 = true then if (8 : Int) = 0 then none else if (16 : Int) = 0 then none else some ([.agg [.int .i64 (wrap64 ((wrap64 ((2 : Int) + x0)) - (5 : Int))), .int .i64 b1_1, .int .i64 b1_2, .int .i64 (wrap64 ((2 : Int) + (wrap64 (((wrap64 (x6 + (7 : Int)))).tdiv (8 : Int))))), .int .i64 (wrap64 ((1 : Int) + (wrap64 (((wrap64 (x6 + (15 : Int)))).tdiv (16 : Int))))), .int .i64 (wrap64 ((wrap64 ((8 : Int) * x6)) * x6))], .int .i64 (0 : Int)], []) else some ([.agg [.int .i64 b1_0, .int .i64 b1_1, .int .i64 b1_2, .int .i64 b1_3, .int .i64 b1_4, .int .i64 b1_5], .int .i64 (0 : Int)], []) := by unfold j11_5; rw [jn_eq]; kernel_rfl
theorem j11_4_eq (k : Nat) (x0 : Int) (x6 : Int) (x7 : Int) (x32 : Int) (x116 : Bool) (b0_0 : Int) (b0_1 : Int) (b0_2 : Int) (b0_3 : Int) (b0_4 : Int) (b0_5 : Int) (b1_0 : Int) (b1_1 : Int) (b1_2 : Int) (b1_3 : Int) (b1_4 : Int) (b1_5 : Int) : j11_4 k  x0 x6 x7 x32 x116 b0_0 b0_1 b0_2 b0_3 b0_4 b0_5 b1_0 b1_1 b1_2 b1_3 b1_4 b1_5 = if x116 = true then some ([.agg [.int .i64 b1_0, .int .i64 b1_1, .int .i64 (wrap64 ((30 : Int) + (wrap64 ((40 : Int) * x7)))), .int .i64 b1_3, .int .i64 b1_4, .int .i64 (wrap64 ((wrap64 ((2 : Int) * x6)) + (wrap64 ((wrap64 ((3 : Int) * x6)) * x7))))], .int .i64 (0 : Int)], []) else if x32 = (14 : Int) then some ([.agg [.int .i64 b1_0, .int .i64 b1_1, .int .i64 (wrap64 ((50 : Int) + (wrap64 ((40 : Int) * x7)))), .int .i64 b1_3, .int .i64 b1_4, .int .i64 (wrap64 ((wrap64 ((4 : Int) * x6)) + (wrap64 ((wrap64 ((3 : Int) * x6)) * x7))))], .int .i64 (0 : Int)], []) else if x32 = (4 : Int) then if (16 : Int) = 0 then none else some ([.agg [.int .i64 (1 : Int), .int .i64 b1_1, .int .i64 b1_2, .int .i64 (wrap64 ((1 : Int) + (wrap64 (((wrap64 (x6 + (15 : Int)))).tdiv (16 : Int))))), .int .i64 (1 : Int), .int .i64 (wrap64 ((wrap64 ((6 : Int) * x6)) * x6))], .int .i64 (0 : Int)], []) else if x32 = (5 : Int) then j11_5 k x0 x6 (decide (x32 = (5 : Int))) b0_0 b0_1 b0_2 b0_3 b0_4 b0_5 b1_0 b1_1 b1_2 b1_3 b1_4 b1_5 else if x32 = (6 : Int) then j11_5 k x0 x6 (decide (x32 = (6 : Int))) b0_0 b0_1 b0_2 b0_3 b0_4 b0_5 b1_0 b1_1 b1_2 b1_3 b1_4 b1_5 else if x32 = (7 : Int) then j11_5 k x0 x6 (decide (x32 = (7 : Int))) b0_0 b0_1 b0_2 b0_3 b0_4 b0_5 b1_0 b1_1 b1_2 b1_3 b1_4 b1_5 else j11_5 k x0 x6 (decide (x32 = (8 : Int))) b0_0 b0_1 b0_2 b0_3 b0_4 b0_5 b1_0 b1_1 b1_2 b1_3 b1_4 b1_5 := by unfold j11_4; rw [jn_eq]; kernel_rfl
theorem j11_3_eq (k : Nat) (x0 : Int) (x6 : Int) (x7 : Int) (x8 : Int) (x32 : Int) (x93 : Bool) (b0_0 : Int) (b0_1 : Int) (b0_2 : Int) (b0_3 : Int) (b0_4 : Int) (b0_5 : Int) (b1_0 : Int) (b1_1 : Int) (b1_2 : Int) (b1_3 : Int) (b1_4 : Int) (b1_5 : Int) : j11_3 k  x0 x6 x7 x8 x32 x93 b0_0 b0_1 b0_2 b0_3 b0_4 b0_5 b1_0 b1_1 b1_2 b1_3 b1_4 b1_5 = if x93 = true then some ([.agg [.int .i64 b1_0, .int .i64 b1_1, .int .i64 (wrap64 ((50 : Int) + (wrap64 ((40 : Int) * x8)))), .int .i64 b1_3, .int .i64 b1_4, .int .i64 (wrap64 ((wrap64 ((wrap64 ((4 : Int) * x6)) + (wrap64 ((wrap64 ((3 : Int) * x6)) * x8)))) + (2 : Int)))], .int .i64 (0 : Int)], []) else if x32 = (21 : Int) then some ([.agg [.int .i64 b1_0, .int .i64 b1_1, .int .i64 (50 : Int), .int .i64 b1_3, .int .i64 b1_4, .int .i64 (wrap64 ((wrap64 ((3 : Int) * x6)) + (1 : Int)))], .int .i64 (0 : Int)], []) else if x32 = (12 : Int) then j11_4 k x0 x6 x7 x32 (decide (x32 = (12 : Int))) b0_0 b0_1 b0_2 b0_3 b0_4 b0_5 b1_0 b1_1 b1_2 b1_3 b1_4 b1_5 else j11_4 k x0 x6 x7 x32 (decide (x32 = (13 : Int))) b0_0 b0_1 b0_2 b0_3 b0_4 b0_5 b1_0 b1_1 b1_2 b1_3 b1_4 b1_5 := by unfold j11_3; rw [jn_eq]; kernel_rfl
theorem j11_2_eq (k : Nat) (x0 : Int) (x6 : Int) (x7 : Int) (x8 : Int) (x32 : Int) (x78 : Bool) (b0_0 : Int) (b0_1 : Int) (b0_2 : Int) (b0_3 : Int) (b0_4 : Int) (b0_5 : Int) (b1_0 : Int) (b1_1 : Int) (b1_2 : Int) (b1_3 : Int) (b1_4 : Int) (b1_5 : Int) : j11_2 k  x0 x6 x7 x8 x32 x78 b0_0 b0_1 b0_2 b0_3 b0_4 b0_5 b1_0 b1_1 b1_2 b1_3 b1_4 b1_5 = if x78 = true then some ([.agg [.int .i64 b1_0, .int .i64 b1_1, .int .i64 (wrap64 ((40 : Int) + (wrap64 ((40 : Int) * x8)))), .int .i64 b1_3, .int .i64 b1_4, .int .i64 (wrap64 ((wrap64 ((4 : Int) * x6)) + (wrap64 ((wrap64 ((3 : Int) * x6)) * x8))))], .int .i64 (0 : Int)], []) else if x32 = (19 : Int) then j11_3 k x0 x6 x7 x8 x32 (decide (x32 = (19 : Int))) b0_0 b0_1 b0_2 b0_3 b0_4 b0_5 b1_0 b1_1 b1_2 b1_3 b1_4 b1_5 else j11_3 k x0 x6 x7 x8 x32 (decide (x32 = (20 : Int))) b0_0 b0_1 b0_2 b0_3 b0_4 b0_5 b1_0 b1_1 b1_2 b1_3 b1_4 b1_5 := by unfold j11_2; rw [jn_eq]; kernel_rfl
theorem j11_1_eq (k : Nat) (x0 : Int) (x6 : Int) (x7 : Int) (x8 : Int) (x32 : Int) (x68 : Bool) (b0_0 : Int) (b0_1 : Int) (b0_2 : Int) (b0_3 : Int) (b0_4 : Int) (b0_5 : Int) (b1_0 : Int) (b1_1 : Int) (b1_2 : Int) (b1_3 : Int) (b1_4 : Int) (b1_5 : Int) : j11_1 k  x0 x6 x7 x8 x32 x68 b0_0 b0_1 b0_2 b0_3 b0_4 b0_5 b1_0 b1_1 b1_2 b1_3 b1_4 b1_5 = if x68 = true then some ([.agg [.int .i64 b1_0, .int .i64 b1_1, .int .i64 (wrap64 ((30 : Int) + (wrap64 ((20 : Int) * x7)))), .int .i64 b1_3, .int .i64 b1_4, .int .i64 (wrap64 ((2 : Int) * x6))], .int .i64 (0 : Int)], []) else if x32 = (17 : Int) then j11_2 k x0 x6 x7 x8 x32 (decide (x32 = (17 : Int))) b0_0 b0_1 b0_2 b0_3 b0_4 b0_5 b1_0 b1_1 b1_2 b1_3 b1_4 b1_5 else j11_2 k x0 x6 x7 x8 x32 (decide (x32 = (18 : Int))) b0_0 b0_1 b0_2 b0_3 b0_4 b0_5 b1_0 b1_1 b1_2 b1_3 b1_4 b1_5 := by unfold j11_1; rw [jn_eq]; kernel_rfl
theorem j11_0_eq (k : Nat) (x0 : Int) (x6 : Int) (x7 : Int) (x8 : Int) (x32 : Int) (x33 : Bool) (b0_0 : Int) (b0_1 : Int) (b0_2 : Int) (b0_3 : Int) (b0_4 : Int) (b0_5 : Int) (b1_0 : Int) (b1_1 : Int) (b1_2 : Int) (b1_3 : Int) (b1_4 : Int) (b1_5 : Int) : j11_0 k  x0 x6 x7 x8 x32 x33 b0_0 b0_1 b0_2 b0_3 b0_4 b0_5 b1_0 b1_1 b1_2 b1_3 b1_4 b1_5 = if x33 = true then some ([.agg [.int .i64 b1_0, .int .i64 b1_1, .int .i64 (20 : Int), .int .i64 b1_3, .int .i64 b1_4, .int .i64 x6], .int .i64 (0 : Int)], []) else if x32 = (2 : Int) then some ([.agg [.int .i64 b1_0, .int .i64 b1_1, .int .i64 (wrap64 ((40 : Int) + (wrap64 ((40 : Int) * x7)))), .int .i64 b1_3, .int .i64 b1_4, .int .i64 (wrap64 ((wrap64 ((3 : Int) * x6)) + (wrap64 ((wrap64 ((3 : Int) * x6)) * x7))))], .int .i64 (0 : Int)], []) else if x32 = (3 : Int) then some ([.agg [.int .i64 b1_0, .int .i64 b1_1, .int .i64 (wrap64 ((50 : Int) + (wrap64 ((40 : Int) * x7)))), .int .i64 b1_3, .int .i64 b1_4, .int .i64 (wrap64 ((wrap64 ((4 : Int) * x6)) + (wrap64 ((wrap64 ((3 : Int) * x6)) * x7))))], .int .i64 (0 : Int)], []) else if x32 = (15 : Int) then j11_1 k x0 x6 x7 x8 x32 (decide (x32 = (15 : Int))) b0_0 b0_1 b0_2 b0_3 b0_4 b0_5 b1_0 b1_1 b1_2 b1_3 b1_4 b1_5 else j11_1 k x0 x6 x7 x8 x32 (decide (x32 = (16 : Int))) b0_0 b0_1 b0_2 b0_3 b0_4 b0_5 b1_0 b1_1 b1_2 b1_3 b1_4 b1_5 := by unfold j11_0; rw [jn_eq]; kernel_rfl
theorem f11_eq (k : Nat) (a0 : Int) (a1 : Int) : evF T (k + 1) 11 [.int .i64 a0, .int .i64 a1] [] = if a0 ≤ (1 : Int) then some ([.agg [.int .i64 (0 : Int), .int .i64 (0 : Int), .int .i64 (0 : Int), .int .i64 (0 : Int), .int .i64 (0 : Int), .int .i64 (0 : Int)], .int .i64 (1 : Int)], []) else if a0 ≥ (25 : Int) then some ([.agg [.int .i64 (0 : Int), .int .i64 (0 : Int), .int .i64 (0 : Int), .int .i64 (0 : Int), .int .i64 (0 : Int), .int .i64 (0 : Int)], .int .i64 (1 : Int)], []) else if a1 < (1 : Int) then some ([.agg [.int .i64 (0 : Int), .int .i64 (0 : Int), .int .i64 (0 : Int), .int .i64 (0 : Int), .int .i64 (0 : Int), .int .i64 (0 : Int)], .int .i64 (13 : Int)], []) else if a1 > (64 : Int) then some ([.agg [.int .i64 (0 : Int), .int .i64 (0 : Int), .int .i64 (0 : Int), .int .i64 (0 : Int), .int .i64 (0 : Int), .int .i64 (0 : Int)], .int .i64 (13 : Int)], []) else (evF T k 15 [.int .i64 a1] []).bind fun r => res15 r fun y1 => (evF T k 15 [.int .i64 (wrap64 (a1 + (1 : Int)))] []).bind fun r => res15 r fun y2 => if a0 = (9 : Int) then j11_0 k a0 a1 y1 y2 a0 (decide (a0 = (9 : Int))) (0 : Int) (0 : Int) (0 : Int) (0 : Int) (0 : Int) (0 : Int) (0 : Int) a1 (0 : Int) (0 : Int) (0 : Int) (0 : Int) else if a0 = (10 : Int) then j11_0 k a0 a1 y1 y2 a0 (decide (a0 = (10 : Int))) (0 : Int) (0 : Int) (0 : Int) (0 : Int) (0 : Int) (0 : Int) (0 : Int) a1 (0 : Int) (0 : Int) (0 : Int) (0 : Int) else j11_0 k a0 a1 y1 y2 a0 (decide (a0 = (11 : Int))) (0 : Int) (0 : Int) (0 : Int) (0 : Int) (0 : Int) (0 : Int) (0 : Int) a1 (0 : Int) (0 : Int) (0 : Int) (0 : Int) := by kernel_rfl
theorem f10_eq (k : Nat)  : evF T (k + 1) 10 [] [] = (evF T k 11 [.int .i64 (2 : Int), .int .i64 (8 : Int)] []).bind fun r => res11 r fun y1 y2 y3 y4 y5 y6 y7 => if y7 = (0 : Int) then if y3 = (160 : Int) then some ([.bool (decide (y6 = (96 : Int)))], []) else some ([.bool false], []) else some ([.bool false], []) := by kernel_rfl
theorem f35_eq (k : Nat) (a0 : Int) : evF T (k + 1) 35 [.int .i64 a0] [] = if a0 ≥ (15 : Int) then some ([.bool (decide (a0 ≤ (20 : Int)))], []) else some ([.bool false], []) := by kernel_rfl
theorem f27_eq (k : Nat) (a0 : Int) : evF T (k + 1) 27 [.int .i64 a0] [] = if a0 ≥ (2 : Int) then some ([.bool (decide (a0 ≤ (20 : Int)))], []) else some ([.bool false], []) := by kernel_rfl
theorem f30_eq (k : Nat) (a0 : Int) (a1 : Int) (a2 : Int) : evF T (k + 1) 30 [.int .i64 a0, .int .i64 a1, .int .i64 a2] [] = if a0 = (1 : Int) then some ([.vsl none (.int .i64) [], .int .i64 a2], []) else (evF T k 35 [.int .i64 a0] []).bind fun r => res35 r fun y1 => if y1 = true then some ([.vsl none (.int .i64) [a2, a2], .int .i64 (1 : Int)], []) else (evF T k 27 [.int .i64 a0] []).bind fun r => res27 r fun y2 => if y2 = true then some ([.vsl none (.int .i64) [a2, a2], .int .i64 a2], []) else if a0 = (21 : Int) then some ([.vsl none (.int .i64) [(1 : Int), a2, a2], .int .i64 a2], []) else if a0 = (22 : Int) then some ([.vsl none (.int .i64) [a1], .int .i64 a2], []) else if a0 = (23 : Int) then some ([.vsl none (.int .i64) [a1], .int .i64 a2], []) else if a0 = (24 : Int) then some ([.vsl none (.int .i64) [a2], .int .i64 a1], []) else if a0 = (25 : Int) then some ([.vsl none (.int .i64) [a1, (1 : Int)], .int .i64 a2], []) else if a0 = (26 : Int) then some ([.vsl none (.int .i64) [a1, a2, (1 : Int)], .int .i64 (0 : Int)], []) else if a0 = (27 : Int) then some ([.vsl none (.int .i64) [(1 : Int)], .int .i64 a2], []) else some ([.vsl none (.int .i64) [a2, (1 : Int)], .int .i64 (0 : Int)], []) := by kernel_rfl
noncomputable def j22_0 (k : Nat) (x0 : Int) (x6 : Int) (x7 : Int) (b0_0 : List UInt8) (r1 : List Int) (r2 : List S71) (r3 : List S73) (r4 : List Int) (r5 : List S63) (b6_0 : Int) (b6_1 : Int) (b6_2 : Int) (b6_3 : Int) (r7 : List Int) : Option (Ans N) := jn T 22 0 [1, 1, 1] k [] ⟨[(0, .int .i64 x0), (4, .bptr 0 0), (5, .bptr 6 0), (6, .int .i64 x6), (7, .int .i64 x7)], [some (.box [.str b0_0, .sl 1 0, .sl 2 0, .sl 3 0, .sl 4 0, .sl 5 0]), some (.row 0 0 3 (.int .i64) r1), some (.row 0 0 71 (.named 71) r2), some (.row 0 0 73 (.named 73) r3), some (.row 0 0 3 (.int .i64) r4), some (.row 0 0 63 (.named 63) r5), some (.box [.int .i64 b6_0, .int .i64 b6_1, .sl 7 0, .int .u64 b6_2, .int .i64 b6_3]), some (.row 0 0 3 (.int .i64) r7)]⟩
noncomputable def j22_1 (k : Nat) (x0 : Int) (x6 : Int) (x7 : Int) (b0_0 : List UInt8) (r1 : List Int) (r2 : List S71) (r3 : List S73) (r4 : List Int) (r5 : List S63) (b6_0 : Int) (b6_1 : Int) (b6_2 : Int) (b6_3 : Int) (r7 : List Int) : Option (Ans N) := jn T 22 0 [1, 1, 1, 1] k [] ⟨[(0, .int .i64 x0), (4, .bptr 0 0), (5, .bptr 6 0), (6, .int .i64 x6), (7, .int .i64 x7)], [some (.box [.str b0_0, .sl 1 0, .sl 2 0, .sl 3 0, .sl 4 0, .sl 5 0]), some (.row 0 0 3 (.int .i64) r1), some (.row 0 0 71 (.named 71) r2), some (.row 0 0 73 (.named 73) r3), some (.row 0 0 3 (.int .i64) r4), some (.row 0 0 63 (.named 63) r5), some (.box [.int .i64 b6_0, .int .i64 b6_1, .sl 7 0, .int .u64 b6_2, .int .i64 b6_3]), some (.row 0 0 3 (.int .i64) r7)]⟩
noncomputable def l22_0 (k m : Nat) (x8 : List Int) (x9 : Int) (x58 : Int) (x59 : Int) (b0_0 : List UInt8) (r1 : List Int) (r2 : List S71) (r3 : List S73) (r4 : List Int) (r5 : List S63) (b6_0 : Int) (b6_1 : Int) (b6_2 : Int) (b6_3 : Int) (r7 : List Int) (b8_0 : List UInt8) (r9 : List Int) (r10 : List S71) (r11 : List S73) (r12 : List Int) (r13 : List S63) (b14_0 : Int) (b14_1 : Int) (b14_2 : Int) (b14_3 : Int) (r15 : List Int) (b16_0 : Int) (b16_1 : Int) (b16_2 : Int) (b16_3 : Int) (b16_4 : Int) (r17 : List Int) (r18 : List S53) (r19 : List S94) (r20 : List Int) : Option (Ans N) := lp T 22 0 [1, 1, 1, 1, 1, 1, 1, 1, 0, 1, 0] k [] m ⟨[(4, .bptr 0 0), (5, .bptr 6 0), (8, .vsl none (.int .i64) x8), (9, .int .i64 x9), (10, .bptr 8 0), (11, .bptr 14 0), (12, .bptr 16 0), (58, .int .i64 x58), (59, .int .i64 x59)], [some (.box [.str b0_0, .sl 1 0, .sl 2 0, .sl 3 0, .sl 4 0, .sl 5 0]), some (.row 0 0 3 (.int .i64) r1), some (.row 0 0 71 (.named 71) r2), some (.row 0 0 73 (.named 73) r3), some (.row 0 0 3 (.int .i64) r4), some (.row 0 0 63 (.named 63) r5), some (.box [.int .i64 b6_0, .int .i64 b6_1, .sl 7 0, .int .u64 b6_2, .int .i64 b6_3]), some (.row 0 0 3 (.int .i64) r7), some (.box [.str b8_0, .sl 9 0, .sl 10 0, .sl 11 0, .sl 12 0, .sl 13 0]), some (.row 0 0 3 (.int .i64) r9), some (.row 0 0 71 (.named 71) r10), some (.row 0 0 73 (.named 73) r11), some (.row 0 0 3 (.int .i64) r12), some (.row 0 0 63 (.named 63) r13), some (.box [.int .i64 b14_0, .int .i64 b14_1, .sl 15 0, .int .u64 b14_2, .int .i64 b14_3]), some (.row 0 0 3 (.int .i64) r15), some (.box [.sl 17 0, .sl 18 0, .int .i64 b16_0, .int .i64 b16_1, .sl 19 0, .sl 20 0, .int .i64 b16_2, .int .i64 b16_3, .int .i64 b16_4]), some (.row 0 0 3 (.int .i64) r17), some (.row 0 0 53 (.named 53) r18), some (.row 0 0 94 (.named 94) r19), some (.row 0 0 3 (.int .i64) r20)]⟩
noncomputable def j22_2 (k : Nat) (b0_0 : List UInt8) (r1 : List Int) (r2 : List S71) (r3 : List S73) (r4 : List Int) (r5 : List S63) (b6_0 : Int) (b6_1 : Int) (b6_2 : Int) (b6_3 : Int) (r7 : List Int) (b8_0 : List UInt8) (r9 : List Int) (r10 : List S71) (r11 : List S73) (r12 : List Int) (r13 : List S63) (b14_0 : Int) (b14_1 : Int) (b14_2 : Int) (b14_3 : Int) (r15 : List Int) (b16_0 : Int) (b16_1 : Int) (b16_2 : Int) (b16_3 : Int) (b16_4 : Int) (r17 : List Int) (r18 : List S53) (r19 : List S94) (r20 : List Int) : Option (Ans N) := jn T 22 0 [1, 1, 1, 1, 1, 1, 1, 1, 1, 1] k [] ⟨[(4, .bptr 0 0), (5, .bptr 6 0), (10, .bptr 8 0), (11, .bptr 14 0), (12, .bptr 16 0)], [some (.box [.str b0_0, .sl 1 0, .sl 2 0, .sl 3 0, .sl 4 0, .sl 5 0]), some (.row 0 0 3 (.int .i64) r1), some (.row 0 0 71 (.named 71) r2), some (.row 0 0 73 (.named 73) r3), some (.row 0 0 3 (.int .i64) r4), some (.row 0 0 63 (.named 63) r5), some (.box [.int .i64 b6_0, .int .i64 b6_1, .sl 7 0, .int .u64 b6_2, .int .i64 b6_3]), some (.row 0 0 3 (.int .i64) r7), some (.box [.str b8_0, .sl 9 0, .sl 10 0, .sl 11 0, .sl 12 0, .sl 13 0]), some (.row 0 0 3 (.int .i64) r9), some (.row 0 0 71 (.named 71) r10), some (.row 0 0 73 (.named 73) r11), some (.row 0 0 3 (.int .i64) r12), some (.row 0 0 63 (.named 63) r13), some (.box [.int .i64 b14_0, .int .i64 b14_1, .sl 15 0, .int .u64 b14_2, .int .i64 b14_3]), some (.row 0 0 3 (.int .i64) r15), some (.box [.sl 17 0, .sl 18 0, .int .i64 b16_0, .int .i64 b16_1, .sl 19 0, .sl 20 0, .int .i64 b16_2, .int .i64 b16_3, .int .i64 b16_4]), some (.row 0 0 3 (.int .i64) r17), some (.row 0 0 53 (.named 53) r18), some (.row 0 0 94 (.named 94) r19), some (.row 0 0 3 (.int .i64) r20)]⟩
theorem j22_2_eq (k : Nat) (b0_0 : List UInt8) (r1 : List Int) (r2 : List S71) (r3 : List S73) (r4 : List Int) (r5 : List S63) (b6_0 : Int) (b6_1 : Int) (b6_2 : Int) (b6_3 : Int) (r7 : List Int) (b8_0 : List UInt8) (r9 : List Int) (r10 : List S71) (r11 : List S73) (r12 : List Int) (r13 : List S63) (b14_0 : Int) (b14_1 : Int) (b14_2 : Int) (b14_3 : Int) (r15 : List Int) (b16_0 : Int) (b16_1 : Int) (b16_2 : Int) (b16_3 : Int) (b16_4 : Int) (r17 : List Int) (r18 : List S53) (r19 : List S94) (r20 : List Int) : j22_2 k  b0_0 r1 r2 r3 r4 r5 b6_0 b6_1 b6_2 b6_3 r7 b8_0 r9 r10 r11 r12 r13 b14_0 b14_1 b14_2 b14_3 r15 b16_0 b16_1 b16_2 b16_3 b16_4 r17 r18 r19 r20 = some ([.agg [.str b8_0, .vsl none (.int .i64) r9, .vsl none (.named 71) r10, .vsl none (.named 73) r11, .vsl none (.int .i64) r12, .vsl none (.named 63) [(⟨r17, [(⟨b14_0, b14_1, r15, b14_2, b14_3⟩ : S53)], b16_0, b16_1, r19, r20, b16_2, b16_3, b16_4⟩ : S63)]], .agg [.int .i64 b14_0, .int .i64 b14_1, .vsl none (.int .i64) r15, .int .u64 b14_2, .int .i64 b14_3]], []) := by unfold j22_2; rw [jn_eq]; kernel_rfl
theorem l22_0_eq (k m : Nat) (x8 : List Int) (x9 : Int) (x58 : Int) (x59 : Int) (b0_0 : List UInt8) (r1 : List Int) (r2 : List S71) (r3 : List S73) (r4 : List Int) (r5 : List S63) (b6_0 : Int) (b6_1 : Int) (b6_2 : Int) (b6_3 : Int) (r7 : List Int) (b8_0 : List UInt8) (r9 : List Int) (r10 : List S71) (r11 : List S73) (r12 : List Int) (r13 : List S63) (b14_0 : Int) (b14_1 : Int) (b14_2 : Int) (b14_3 : Int) (r15 : List Int) (b16_0 : Int) (b16_1 : Int) (b16_2 : Int) (b16_3 : Int) (b16_4 : Int) (r17 : List Int) (r18 : List S53) (r19 : List S94) (r20 : List Int) : l22_0 k (m + 1) x8 x9 x58 x59 b0_0 r1 r2 r3 r4 r5 b6_0 b6_1 b6_2 b6_3 r7 b8_0 r9 r10 r11 r12 r13 b14_0 b14_1 b14_2 b14_3 r15 b16_0 b16_1 b16_2 b16_3 b16_4 r17 r18 r19 r20 = if x59 < x58 then if 0 ≤ x59 then if x59 < (x8.length : Int) then chk ((r9.length + [(x8.getD x59.toNat (0 : Int))].length) * 8 ≤ 140737488355328) (chk ((r17.length + [x59].length) * 8 ≤ 140737488355328) (chk ((r15.length + [x59].length) * 8 ≤ 140737488355328) (l22_0 k m x8 x9 x58 (wrap64 (x59 + (1 : Int))) b0_0 r1 r2 r3 r4 r5 b6_0 b6_1 b6_2 b6_3 r7 b8_0 (r9 ++ [(x8.getD x59.toNat (0 : Int))]) r10 r11 r12 r13 b14_0 b14_1 b14_2 b14_3 (r15 ++ [x59]) b16_0 b16_1 b16_2 b16_3 b16_4 (r17 ++ [x59]) r18 r19 r20))) else none else none else if x9 > (0 : Int) then chk ((r9.length + [x9].length) * 8 ≤ 140737488355328) (j22_2 k b0_0 r1 r2 r3 r4 r5 b6_0 b6_1 b6_2 b6_3 r7 b8_0 (r9 ++ [x9]) r10 r11 r12 r13 b14_0 (r9.length : Int) b14_2 b14_3 r15 b16_0 b16_1 b16_2 b16_3 b16_4 r17 r18 r19 r20) else j22_2 k b0_0 r1 r2 r3 r4 r5 b6_0 b6_1 b6_2 b6_3 r7 b8_0 r9 r10 r11 r12 r13 b14_0 b14_1 b14_2 b14_3 r15 b16_0 b16_1 b16_2 b16_3 b16_4 r17 r18 r19 r20 := by kernel_rfl
theorem j22_1_eq (k : Nat) (x0 : Int) (x6 : Int) (x7 : Int) (b0_0 : List UInt8) (r1 : List Int) (r2 : List S71) (r3 : List S73) (r4 : List Int) (r5 : List S63) (b6_0 : Int) (b6_1 : Int) (b6_2 : Int) (b6_3 : Int) (r7 : List Int) : j22_1 k  x0 x6 x7 b0_0 r1 r2 r3 r4 r5 b6_0 b6_1 b6_2 b6_3 r7 = (evF T k 30 [.int .i64 x0, .int .i64 x6, .int .i64 x7] []).bind fun r => res30 r fun y1 y2 => l22_0 k k y1 y2 (y1.length : Int) (0 : Int) b0_0 r1 r2 r3 r4 r5 b6_0 b6_1 b6_2 b6_3 r7 [(102 : UInt8)] [] [(⟨[(109 : UInt8)], x7, (3 : Int), (0 : Int), (0 : Int)⟩ : S71)] [(⟨[(115 : UInt8)], x7, (decide (x0 = (28 : Int)))⟩ : S73)] [] [] x0 (-1 : Int) (0 : Int) (0 : Int) [] (3 : Int) (-1 : Int) (0 : Int) (0 : Int) (0 : Int) [] [] [] [] := by unfold j22_1; rw [jn_eq]; kernel_rfl
theorem j22_0_eq (k : Nat) (x0 : Int) (x6 : Int) (x7 : Int) (b0_0 : List UInt8) (r1 : List Int) (r2 : List S71) (r3 : List S73) (r4 : List Int) (r5 : List S63) (b6_0 : Int) (b6_1 : Int) (b6_2 : Int) (b6_3 : Int) (r7 : List Int) : j22_0 k  x0 x6 x7 b0_0 r1 r2 r3 r4 r5 b6_0 b6_1 b6_2 b6_3 r7 = if x6 = x7 then j22_1 k x0 (if (wrap64 (x7 - (1 : Int))) < (1 : Int) then (1 : Int) else (wrap64 (x7 - (1 : Int)))) (if x7 < (2 : Int) then (2 : Int) else x7) b0_0 r1 r2 r3 r4 r5 b6_0 b6_1 b6_2 b6_3 r7 else j22_1 k x0 x6 x7 b0_0 r1 r2 r3 r4 r5 b6_0 b6_1 b6_2 b6_3 r7 := by unfold j22_0; rw [jn_eq]; kernel_rfl
theorem f22_eq (k : Nat) (a0 : Int) (a1_0 : Int) (a1_1 : Int) : evF T (k + 1) 22 [.int .i64 a0, .agg [.int .u8 a1_0, .int .u8 a1_1]] [] = if 0 ≤ (0 : Int) then if (0 : Int) < (2 : Int) then if (64 : Int) = 0 then none else if 0 ≤ (1 : Int) then if (1 : Int) < (2 : Int) then if (64 : Int) = 0 then none else if (wrap64 ((1 : Int) + (((wrap64 (a1_0))).tmod (64 : Int)))) > (wrap64 ((1 : Int) + (((wrap64 (a1_1))).tmod (64 : Int)))) then j22_0 k a0 (wrap64 ((1 : Int) + (((wrap64 (a1_1))).tmod (64 : Int)))) (wrap64 ((1 : Int) + (((wrap64 (a1_0))).tmod (64 : Int)))) [] [] [] [] [] [] (0 : Int) (0 : Int) (0 : Int) (0 : Int) [] else j22_0 k a0 (wrap64 ((1 : Int) + (((wrap64 (a1_0))).tmod (64 : Int)))) (wrap64 ((1 : Int) + (((wrap64 (a1_1))).tmod (64 : Int)))) [] [] [] [] [] [] (0 : Int) (0 : Int) (0 : Int) (0 : Int) [] else none else none else none else none := by kernel_rfl
noncomputable def j31_0 (k : Nat) (x6 : Int) (x7 : Bool) (b0_0 : List UInt8) (b0_1 : List Int) (b0_2 : List S71) (b0_3 : List S73) (b0_4 : List Int) (b0_5 : List S63) (b1_0 : Int) (b1_1 : Int) (b1_2 : List Int) (b1_3 : Int) (b1_4 : Int) : Option (Ans N) := jn T 31 0 [1, 0, 1, 0, 1] k [] ⟨[(2, .bptr 0 0), (3, .bptr 1 0), (6, .int .i64 x6), (7, .bool x7)], [some (.box [.str b0_0, .vsl none (.int .i64) b0_1, .vsl none (.named 71) b0_2, .vsl none (.named 73) b0_3, .vsl none (.int .i64) b0_4, .vsl none (.named 63) b0_5]), some (.box [.int .i64 b1_0, .int .i64 b1_1, .vsl none (.int .i64) b1_2, .int .u64 b1_3, .int .i64 b1_4])]⟩
noncomputable def j31_1 (k : Nat) (b0_0 : List UInt8) (b0_1 : List Int) (b0_2 : List S71) (b0_3 : List S73) (b0_4 : List Int) (b0_5 : List S63) (b1_0 : Int) (b1_1 : Int) (b1_2 : List Int) (b1_3 : Int) (b1_4 : Int) : Option (Ans N) := jn T 31 0 [1, 1] k [] ⟨[(2, .bptr 0 0), (3, .bptr 1 0)], [some (.box [.str b0_0, .vsl none (.int .i64) b0_1, .vsl none (.named 71) b0_2, .vsl none (.named 73) b0_3, .vsl none (.int .i64) b0_4, .vsl none (.named 63) b0_5]), some (.box [.int .i64 b1_0, .int .i64 b1_1, .vsl none (.int .i64) b1_2, .int .u64 b1_3, .int .i64 b1_4])]⟩
theorem j31_1_eq (k : Nat) (b0_0 : List UInt8) (b0_1 : List Int) (b0_2 : List S71) (b0_3 : List S73) (b0_4 : List Int) (b0_5 : List S63) (b1_0 : Int) (b1_1 : Int) (b1_2 : List Int) (b1_3 : Int) (b1_4 : Int) : j31_1 k  b0_0 b0_1 b0_2 b0_3 b0_4 b0_5 b1_0 b1_1 b1_2 b1_3 b1_4 = if 0 ≤ b1_1 then if b1_1 < (b0_1.length : Int) then some ([.int .i64 (b0_1.getD b1_1.toNat (0 : Int))], []) else none else none := by unfold j31_1; rw [jn_eq]; kernel_rfl
theorem j31_0_eq (k : Nat) (x6 : Int) (x7 : Bool) (b0_0 : List UInt8) (b0_1 : List Int) (b0_2 : List S71) (b0_3 : List S73) (b0_4 : List Int) (b0_5 : List S63) (b1_0 : Int) (b1_1 : Int) (b1_2 : List Int) (b1_3 : Int) (b1_4 : Int) : j31_0 k  x6 x7 b0_0 b0_1 b0_2 b0_3 b0_4 b0_5 b1_0 b1_1 b1_2 b1_3 b1_4 = if x7 = true then if 0 ≤ (0 : Int) then if (0 : Int) < (b1_2.length : Int) then if 0 ≤ (b1_2.getD (0 : Int).toNat (0 : Int)) then if (b1_2.getD (0 : Int).toNat (0 : Int)) < (b0_1.length : Int) then some ([.int .i64 (b0_1.getD (b1_2.getD (0 : Int).toNat (0 : Int)).toNat (0 : Int))], []) else none else none else none else none else if x6 = (26 : Int) then if 0 ≤ b1_4 then if b1_4 < (b0_2.length : Int) then some ([.int .i64 ((b0_2.getD b1_4.toNat z71).f1)], []) else none else none else if x6 = (28 : Int) then if 0 ≤ b1_4 then if b1_4 < (b0_3.length : Int) then some ([.int .i64 ((b0_3.getD b1_4.toNat z73).f1)], []) else none else none else j31_1 k b0_0 b0_1 b0_2 b0_3 b0_4 b0_5 b1_0 b1_1 b1_2 b1_3 b1_4 := by unfold j31_0; rw [jn_eq]; kernel_rfl
theorem f31_eq (k : Nat) (a0_0 : List UInt8) (a0_1 : List Int) (a0_2 : List S71) (a0_3 : List S73) (a0_4 : List Int) (a0_5 : List S63) (a1_0 : Int) (a1_1 : Int) (a1_2 : List Int) (a1_3 : Int) (a1_4 : Int) : evF T (k + 1) 31 [.agg [.str a0_0, .vsl none (.int .i64) a0_1, .vsl none (.named 71) a0_2, .vsl none (.named 73) a0_3, .vsl none (.int .i64) a0_4, .vsl none (.named 63) a0_5], .agg [.int .i64 a1_0, .int .i64 a1_1, .vsl none (.int .i64) a1_2, .int .u64 a1_3, .int .i64 a1_4]] [] = if a1_0 = (15 : Int) then j31_0 k a1_0 (decide (a1_0 = (15 : Int))) a0_0 a0_1 a0_2 a0_3 a0_4 a0_5 a1_0 a1_1 a1_2 a1_3 a1_4 else if a1_0 = (16 : Int) then j31_0 k a1_0 (decide (a1_0 = (16 : Int))) a0_0 a0_1 a0_2 a0_3 a0_4 a0_5 a1_0 a1_1 a1_2 a1_3 a1_4 else if a1_0 = (17 : Int) then j31_0 k a1_0 (decide (a1_0 = (17 : Int))) a0_0 a0_1 a0_2 a0_3 a0_4 a0_5 a1_0 a1_1 a1_2 a1_3 a1_4 else if a1_0 = (18 : Int) then j31_0 k a1_0 (decide (a1_0 = (18 : Int))) a0_0 a0_1 a0_2 a0_3 a0_4 a0_5 a1_0 a1_1 a1_2 a1_3 a1_4 else if a1_0 = (19 : Int) then j31_0 k a1_0 (decide (a1_0 = (19 : Int))) a0_0 a0_1 a0_2 a0_3 a0_4 a0_5 a1_0 a1_1 a1_2 a1_3 a1_4 else j31_0 k a1_0 (decide (a1_0 = (20 : Int))) a0_0 a0_1 a0_2 a0_3 a0_4 a0_5 a1_0 a1_1 a1_2 a1_3 a1_4 := by kernel_rfl
theorem f23_eq (k : Nat) (a0_0 : List UInt8) (a0_1 : List Int) (a0_2 : List S71) (a0_3 : List S73) (a0_4 : List Int) (a0_5 : List S63) (a1_0 : Int) (a1_1 : Int) (a1_2 : List Int) (a1_3 : Int) (a1_4 : Int) : evF T (k + 1) 23 [.agg [.str a0_0, .vsl none (.int .i64) a0_1, .vsl none (.named 71) a0_2, .vsl none (.named 73) a0_3, .vsl none (.int .i64) a0_4, .vsl none (.named 63) a0_5], .agg [.int .i64 a1_0, .int .i64 a1_1, .vsl none (.int .i64) a1_2, .int .u64 a1_3, .int .i64 a1_4]] [] = (evF T k 31 [.agg [.str a0_0, .vsl none (.int .i64) a0_1, .vsl none (.named 71) a0_2, .vsl none (.named 73) a0_3, .vsl none (.int .i64) a0_4, .vsl none (.named 63) a0_5], .agg [.int .i64 a1_0, .int .i64 a1_1, .vsl none (.int .i64) a1_2, .int .u64 a1_3, .int .i64 a1_4]] []).bind fun r => res31 r fun y1 => (evF T k 11 [.int .i64 a1_0, .int .i64 y1] []).bind fun r => res11 r fun y2 y3 y4 y5 y6 y7 y8 => if y8 = (0 : Int) then some ([.agg [.int .i64 y2, .int .i64 y3, .int .i64 y4, .int .i64 y5, .int .i64 y6, .int .i64 y7]], []) else if a1_0 = (25 : Int) then some ([.agg [.int .i64 (0 : Int), .int .i64 y1, .int .i64 (0 : Int), .int .i64 (1 : Int), .int .i64 (1 : Int), .int .i64 (0 : Int)]], []) else if a1_0 = (27 : Int) then some ([.agg [.int .i64 (0 : Int), .int .i64 y1, .int .i64 (0 : Int), .int .i64 (1 : Int), .int .i64 (1 : Int), .int .i64 (0 : Int)]], []) else some ([.agg [.int .i64 (0 : Int), .int .i64 y1, .int .i64 (0 : Int), .int .i64 (0 : Int), .int .i64 (0 : Int), .int .i64 (0 : Int)]], []) := by kernel_rfl
theorem f32_eq (k : Nat) (a0_0 : List UInt8) (a0_1 : List Int) (a0_2 : List S71) (a0_3 : List S73) (a0_4 : List Int) (a0_5 : List S63) (a1_0 : Int) (a1_1 : Int) (a1_2 : List Int) (a1_3 : Int) (a1_4 : Int) : evF T (k + 1) 32 [.agg [.str a0_0, .vsl none (.int .i64) a0_1, .vsl none (.named 71) a0_2, .vsl none (.named 73) a0_3, .vsl none (.int .i64) a0_4, .vsl none (.named 63) a0_5], .agg [.int .i64 a1_0, .int .i64 a1_1, .vsl none (.int .i64) a1_2, .int .u64 a1_3, .int .i64 a1_4]] [] = if a1_0 = (26 : Int) then if 0 ≤ a1_4 then if a1_4 < (a0_2.length : Int) then some ([.int .i64 ((a0_2.getD a1_4.toNat z71).f1)], []) else none else none else if a1_0 = (28 : Int) then if 0 ≤ a1_4 then if a1_4 < (a0_3.length : Int) then some ([.int .i64 ((a0_3.getD a1_4.toNat z73).f1)], []) else none else none else (evF T k 35 [.int .i64 a1_0] []).bind fun r => res35 r fun y1 => if y1 = true then if 0 ≤ (0 : Int) then if (0 : Int) < (a1_2.length : Int) then if 0 ≤ (a1_2.getD (0 : Int).toNat (0 : Int)) then if (a1_2.getD (0 : Int).toNat (0 : Int)) < (a0_1.length : Int) then some ([.int .i64 (a0_1.getD (a1_2.getD (0 : Int).toNat (0 : Int)).toNat (0 : Int))], []) else none else none else none else none else if 0 ≤ a1_1 then if a1_1 < (a0_1.length : Int) then some ([.int .i64 (a0_1.getD a1_1.toNat (0 : Int))], []) else none else none := by kernel_rfl
theorem f12_eq (k : Nat) (a0 : Int) : evF T (k + 1) 12 [.int .i64 a0] [] = (evF T k 27 [.int .i64 a0] []).bind fun r => res27 r fun y1 => if y1 = true then some ([.bool true], []) else if a0 ≥ (21 : Int) then some ([.bool (decide (a0 ≤ (24 : Int)))], []) else some ([.bool false], []) := by kernel_rfl
noncomputable def l17_0 (k m : Nat) (x0 : Int) (x3 : Int) (x4 : Int) : Option (Ans N) := lp T 17 0 [1, 1, 0, 1, 0] k [] m ⟨[(0, .int .i64 x0), (3, .int .i64 x3), (4, .int .i64 x4)], []⟩
theorem l17_0_eq (k m : Nat) (x0 : Int) (x3 : Int) (x4 : Int) : l17_0 k (m + 1) x0 x3 x4 = if x4 < x0 then if x3 < (62 : Int) then l17_0 k m x0 (wrap64 (x3 + (1 : Int))) (wrap64 ((2 : Int) * x4)) else some ([.int .i64 x3], []) else some ([.int .i64 x3], []) := by kernel_rfl
theorem f17_eq (k : Nat) (a0 : Int) : evF T (k + 1) 17 [.int .i64 a0] [] = l17_0 k k a0 (0 : Int) (1 : Int) := by kernel_rfl
theorem f28_eq (k : Nat) (a0 : Int) (a1 : Int) (a2 : Int) : evF T (k + 1) 28 [.int .i64 a0, .int .i64 a1, .int .i64 a2] [] = some ([.agg [.int .i64 (0 : Int), .int .i64 a0, .int .i64 a1, .int .i64 (0 : Int), .int .i64 (0 : Int), .int .i64 a2]], []) := by kernel_rfl
noncomputable def j14_0 (k : Nat) (x0 : Int) (x1 : Int) (x5 : Int) (x6 : Int) (x12 : Int) (x41 : Bool) (b0_0 : Int) (b0_1 : Int) (b0_2 : Int) (b0_3 : Int) (b0_4 : Int) (b0_5 : Int) : Option (Ans N) := jn T 14 0 [1, 1, 0, 1, 0, 1, 1, 1, 1, 1] k [] ⟨[(0, .int .i64 x0), (1, .int .i64 x1), (4, .bptr 0 0), (5, .int .i64 x5), (6, .int .i64 x6), (12, .int .i64 x12), (41, .bool x41)], [some (.box [.int .i64 b0_0, .int .i64 b0_1, .int .i64 b0_2, .int .i64 b0_3, .int .i64 b0_4, .int .i64 b0_5])]⟩
noncomputable def j14_1 (k : Nat) (x0 : Int) (x1 : Int) (x5 : Int) (x6 : Int) (x12 : Int) (x48 : Bool) (b0_0 : Int) (b0_1 : Int) (b0_2 : Int) (b0_3 : Int) (b0_4 : Int) (b0_5 : Int) : Option (Ans N) := jn T 14 0 [1, 1, 0, 1, 0, 1, 1, 1, 1, 1, 1, 1] k [] ⟨[(0, .int .i64 x0), (1, .int .i64 x1), (4, .bptr 0 0), (5, .int .i64 x5), (6, .int .i64 x6), (12, .int .i64 x12), (48, .bool x48)], [some (.box [.int .i64 b0_0, .int .i64 b0_1, .int .i64 b0_2, .int .i64 b0_3, .int .i64 b0_4, .int .i64 b0_5])]⟩
noncomputable def j14_2 (k : Nat) (x0 : Int) (x1 : Int) (x5 : Int) (x6 : Int) (x12 : Int) (x77 : Bool) (b0_0 : Int) (b0_1 : Int) (b0_2 : Int) (b0_3 : Int) (b0_4 : Int) (b0_5 : Int) : Option (Ans N) := jn T 14 0 [1, 1, 0, 1, 0, 1, 1, 1, 1, 1, 1, 1, 1, 1, 1, 1] k [] ⟨[(0, .int .i64 x0), (1, .int .i64 x1), (4, .bptr 0 0), (5, .int .i64 x5), (6, .int .i64 x6), (12, .int .i64 x12), (77, .bool x77)], [some (.box [.int .i64 b0_0, .int .i64 b0_1, .int .i64 b0_2, .int .i64 b0_3, .int .i64 b0_4, .int .i64 b0_5])]⟩
noncomputable def j14_3 (k : Nat) (x0 : Int) (x1 : Int) (x6 : Int) (x12 : Int) (x87 : Bool) (b0_0 : Int) (b0_1 : Int) (b0_2 : Int) (b0_3 : Int) (b0_4 : Int) (b0_5 : Int) : Option (Ans N) := jn T 14 0 [1, 1, 0, 1, 0, 1, 1, 1, 1, 1, 1, 1, 1, 1, 1, 1, 1, 1] k [] ⟨[(0, .int .i64 x0), (1, .int .i64 x1), (4, .bptr 0 0), (6, .int .i64 x6), (12, .int .i64 x12), (87, .bool x87)], [some (.box [.int .i64 b0_0, .int .i64 b0_1, .int .i64 b0_2, .int .i64 b0_3, .int .i64 b0_4, .int .i64 b0_5])]⟩
noncomputable def j14_4 (k : Nat) (x0 : Int) (x1 : Int) (x6 : Int) (x12 : Int) (x102 : Bool) (b0_0 : Int) (b0_1 : Int) (b0_2 : Int) (b0_3 : Int) (b0_4 : Int) (b0_5 : Int) : Option (Ans N) := jn T 14 0 [1, 1, 0, 1, 0, 1, 1, 1, 1, 1, 1, 1, 1, 1, 1, 1, 1, 1, 1, 1] k [] ⟨[(0, .int .i64 x0), (1, .int .i64 x1), (4, .bptr 0 0), (6, .int .i64 x6), (12, .int .i64 x12), (102, .bool x102)], [some (.box [.int .i64 b0_0, .int .i64 b0_1, .int .i64 b0_2, .int .i64 b0_3, .int .i64 b0_4, .int .i64 b0_5])]⟩
noncomputable def j14_5 (k : Nat) (x0 : Int) (x1 : Int) (x137 : Bool) (b0_0 : Int) (b0_1 : Int) (b0_2 : Int) (b0_3 : Int) (b0_4 : Int) (b0_5 : Int) : Option (Ans N) := jn T 14 0 [1, 1, 0, 1, 0, 1, 1, 1, 1, 1, 1, 1, 1, 1, 1, 1, 1, 1, 1, 1, 1, 1, 1, 1, 1, 1] k [] ⟨[(0, .int .i64 x0), (1, .int .i64 x1), (4, .bptr 0 0), (137, .bool x137)], [some (.box [.int .i64 b0_0, .int .i64 b0_1, .int .i64 b0_2, .int .i64 b0_3, .int .i64 b0_4, .int .i64 b0_5])]⟩
theorem j14_5_eq (k : Nat) (x0 : Int) (x1 : Int) (x137 : Bool) (b0_0 : Int) (b0_1 : Int) (b0_2 : Int) (b0_3 : Int) (b0_4 : Int) (b0_5 : Int) : j14_5 k  x0 x1 x137 b0_0 b0_1 b0_2 b0_3 b0_4 b0_5 = if x137 = true then if (8 : Int) = 0 then none else if (16 : Int) = 0 then none else some ([.agg [.int .i64 (wrap64 ((wrap64 ((2 : Int) + x0)) - (5 : Int))), .int .i64 x1, .int .i64 (0 : Int), .int .i64 (wrap64 ((2 : Int) + (wrap64 (((wrap64 (x1 + (7 : Int)))).tdiv (8 : Int))))), .int .i64 (wrap64 ((1 : Int) + (wrap64 (((wrap64 (x1 + (15 : Int)))).tdiv (16 : Int))))), .int .i64 (wrap64 ((wrap64 ((8 : Int) * x1)) * x1))]], []) else (evF T k 28 [.int .i64 x1, .int .i64 (0 : Int), .int .i64 (0 : Int)] []).bind fun r => res28 r fun y57 y58 y59 y60 y61 y62 => some ([.agg [.int .i64 y57, .int .i64 y58, .int .i64 y59, .int .i64 y60, .int .i64 y61, .int .i64 y62]], []) := by unfold j14_5; rw [jn_eq]; kernel_rfl
theorem j14_4_eq (k : Nat) (x0 : Int) (x1 : Int) (x6 : Int) (x12 : Int) (x102 : Bool) (b0_0 : Int) (b0_1 : Int) (b0_2 : Int) (b0_3 : Int) (b0_4 : Int) (b0_5 : Int) : j14_4 k  x0 x1 x6 x12 x102 b0_0 b0_1 b0_2 b0_3 b0_4 b0_5 = if x102 = true then (evF T k 28 [.int .i64 x1, .int .i64 (wrap64 ((50 : Int) + (wrap64 ((40 : Int) * x6)))), .int .i64 (wrap64 ((wrap64 ((wrap64 ((4 : Int) * x1)) + (wrap64 ((wrap64 ((3 : Int) * x1)) * x6)))) + (2 : Int)))] []).bind fun r => res28 r fun y45 y46 y47 y48 y49 y50 => some ([.agg [.int .i64 y45, .int .i64 y46, .int .i64 y47, .int .i64 y48, .int .i64 y49, .int .i64 y50]], []) else if x12 = (21 : Int) then (evF T k 28 [.int .i64 x1, .int .i64 (50 : Int), .int .i64 (wrap64 ((wrap64 ((3 : Int) * x1)) + (1 : Int)))] []).bind fun r => res28 r fun y51 y52 y53 y54 y55 y56 => some ([.agg [.int .i64 y51, .int .i64 y52, .int .i64 y53, .int .i64 y54, .int .i64 y55, .int .i64 y56]], []) else if x12 = (4 : Int) then if (16 : Int) = 0 then none else some ([.agg [.int .i64 (1 : Int), .int .i64 x1, .int .i64 (0 : Int), .int .i64 (wrap64 ((1 : Int) + (wrap64 (((wrap64 (x1 + (15 : Int)))).tdiv (16 : Int))))), .int .i64 (1 : Int), .int .i64 (wrap64 ((wrap64 ((6 : Int) * x1)) * x1))]], []) else if x12 = (5 : Int) then j14_5 k x0 x1 (decide (x12 = (5 : Int))) b0_0 b0_1 b0_2 b0_3 b0_4 b0_5 else if x12 = (6 : Int) then j14_5 k x0 x1 (decide (x12 = (6 : Int))) b0_0 b0_1 b0_2 b0_3 b0_4 b0_5 else if x12 = (7 : Int) then j14_5 k x0 x1 (decide (x12 = (7 : Int))) b0_0 b0_1 b0_2 b0_3 b0_4 b0_5 else j14_5 k x0 x1 (decide (x12 = (8 : Int))) b0_0 b0_1 b0_2 b0_3 b0_4 b0_5 := by unfold j14_4; rw [jn_eq]; kernel_rfl
theorem j14_3_eq (k : Nat) (x0 : Int) (x1 : Int) (x6 : Int) (x12 : Int) (x87 : Bool) (b0_0 : Int) (b0_1 : Int) (b0_2 : Int) (b0_3 : Int) (b0_4 : Int) (b0_5 : Int) : j14_3 k  x0 x1 x6 x12 x87 b0_0 b0_1 b0_2 b0_3 b0_4 b0_5 = if x87 = true then (evF T k 28 [.int .i64 x1, .int .i64 (wrap64 ((40 : Int) + (wrap64 ((40 : Int) * x6)))), .int .i64 (wrap64 ((wrap64 ((4 : Int) * x1)) + (wrap64 ((wrap64 ((3 : Int) * x1)) * x6))))] []).bind fun r => res28 r fun y39 y40 y41 y42 y43 y44 => some ([.agg [.int .i64 y39, .int .i64 y40, .int .i64 y41, .int .i64 y42, .int .i64 y43, .int .i64 y44]], []) else if x12 = (19 : Int) then j14_4 k x0 x1 x6 x12 (decide (x12 = (19 : Int))) b0_0 b0_1 b0_2 b0_3 b0_4 b0_5 else j14_4 k x0 x1 x6 x12 (decide (x12 = (20 : Int))) b0_0 b0_1 b0_2 b0_3 b0_4 b0_5 := by unfold j14_3; rw [jn_eq]; kernel_rfl
theorem j14_2_eq (k : Nat) (x0 : Int) (x1 : Int) (x5 : Int) (x6 : Int) (x12 : Int) (x77 : Bool) (b0_0 : Int) (b0_1 : Int) (b0_2 : Int) (b0_3 : Int) (b0_4 : Int) (b0_5 : Int) : j14_2 k  x0 x1 x5 x6 x12 x77 b0_0 b0_1 b0_2 b0_3 b0_4 b0_5 = if x77 = true then (evF T k 28 [.int .i64 x1, .int .i64 (wrap64 ((30 : Int) + (wrap64 ((20 : Int) * x5)))), .int .i64 (wrap64 ((2 : Int) * x1))] []).bind fun r => res28 r fun y33 y34 y35 y36 y37 y38 => some ([.agg [.int .i64 y33, .int .i64 y34, .int .i64 y35, .int .i64 y36, .int .i64 y37, .int .i64 y38]], []) else if x12 = (17 : Int) then j14_3 k x0 x1 x6 x12 (decide (x12 = (17 : Int))) b0_0 b0_1 b0_2 b0_3 b0_4 b0_5 else j14_3 k x0 x1 x6 x12 (decide (x12 = (18 : Int))) b0_0 b0_1 b0_2 b0_3 b0_4 b0_5 := by unfold j14_2; rw [jn_eq]; kernel_rfl
theorem j14_1_eq (k : Nat) (x0 : Int) (x1 : Int) (x5 : Int) (x6 : Int) (x12 : Int) (x48 : Bool) (b0_0 : Int) (b0_1 : Int) (b0_2 : Int) (b0_3 : Int) (b0_4 : Int) (b0_5 : Int) : j14_1 k  x0 x1 x5 x6 x12 x48 b0_0 b0_1 b0_2 b0_3 b0_4 b0_5 = if x48 = true then (evF T k 28 [.int .i64 x1, .int .i64 (wrap64 ((30 : Int) + (wrap64 ((40 : Int) * x5)))), .int .i64 (wrap64 ((wrap64 ((2 : Int) * x1)) + (wrap64 ((wrap64 ((3 : Int) * x1)) * x5))))] []).bind fun r => res28 r fun y21 y22 y23 y24 y25 y26 => some ([.agg [.int .i64 y21, .int .i64 y22, .int .i64 y23, .int .i64 y24, .int .i64 y25, .int .i64 y26]], []) else if x12 = (14 : Int) then (evF T k 28 [.int .i64 x1, .int .i64 (wrap64 ((50 : Int) + (wrap64 ((40 : Int) * x5)))), .int .i64 (wrap64 ((wrap64 ((4 : Int) * x1)) + (wrap64 ((wrap64 ((3 : Int) * x1)) * x5))))] []).bind fun r => res28 r fun y27 y28 y29 y30 y31 y32 => some ([.agg [.int .i64 y27, .int .i64 y28, .int .i64 y29, .int .i64 y30, .int .i64 y31, .int .i64 y32]], []) else if x12 = (15 : Int) then j14_2 k x0 x1 x5 x6 x12 (decide (x12 = (15 : Int))) b0_0 b0_1 b0_2 b0_3 b0_4 b0_5 else j14_2 k x0 x1 x5 x6 x12 (decide (x12 = (16 : Int))) b0_0 b0_1 b0_2 b0_3 b0_4 b0_5 := by unfold j14_1; rw [jn_eq]; kernel_rfl
theorem j14_0_eq (k : Nat) (x0 : Int) (x1 : Int) (x5 : Int) (x6 : Int) (x12 : Int) (x41 : Bool) (b0_0 : Int) (b0_1 : Int) (b0_2 : Int) (b0_3 : Int) (b0_4 : Int) (b0_5 : Int) : j14_0 k  x0 x1 x5 x6 x12 x41 b0_0 b0_1 b0_2 b0_3 b0_4 b0_5 = if x41 = true then (evF T k 28 [.int .i64 x1, .int .i64 (20 : Int), .int .i64 x1] []).bind fun r => res28 r fun y15 y16 y17 y18 y19 y20 => some ([.agg [.int .i64 y15, .int .i64 y16, .int .i64 y17, .int .i64 y18, .int .i64 y19, .int .i64 y20]], []) else if x12 = (12 : Int) then j14_1 k x0 x1 x5 x6 x12 (decide (x12 = (12 : Int))) b0_0 b0_1 b0_2 b0_3 b0_4 b0_5 else j14_1 k x0 x1 x5 x6 x12 (decide (x12 = (13 : Int))) b0_0 b0_1 b0_2 b0_3 b0_4 b0_5 := by unfold j14_0; rw [jn_eq]; kernel_rfl
theorem f14_eq (k : Nat) (a0 : Int) (a1 : Int) : evF T (k + 1) 14 [.int .i64 a0, .int .i64 a1] [] = (evF T k 17 [.int .i64 a1] []).bind fun r => res17 r fun y1 => (evF T k 17 [.int .i64 (wrap64 (a1 + (1 : Int)))] []).bind fun r => res17 r fun y2 => if a0 = (2 : Int) then (evF T k 28 [.int .i64 a1, .int .i64 (wrap64 ((40 : Int) + (wrap64 ((40 : Int) * y1)))), .int .i64 (wrap64 ((wrap64 ((3 : Int) * a1)) + (wrap64 ((wrap64 ((3 : Int) * a1)) * y1))))] []).bind fun r => res28 r fun y3 y4 y5 y6 y7 y8 => some ([.agg [.int .i64 y3, .int .i64 y4, .int .i64 y5, .int .i64 y6, .int .i64 y7, .int .i64 y8]], []) else if a0 = (3 : Int) then (evF T k 28 [.int .i64 a1, .int .i64 (wrap64 ((50 : Int) + (wrap64 ((40 : Int) * y1)))), .int .i64 (wrap64 ((wrap64 ((4 : Int) * a1)) + (wrap64 ((wrap64 ((3 : Int) * a1)) * y1))))] []).bind fun r => res28 r fun y9 y10 y11 y12 y13 y14 => some ([.agg [.int .i64 y9, .int .i64 y10, .int .i64 y11, .int .i64 y12, .int .i64 y13, .int .i64 y14]], []) else if a0 = (9 : Int) then j14_0 k a0 a1 y1 y2 a0 (decide (a0 = (9 : Int))) (0 : Int) (0 : Int) (0 : Int) (0 : Int) (0 : Int) (0 : Int) else if a0 = (10 : Int) then j14_0 k a0 a1 y1 y2 a0 (decide (a0 = (10 : Int))) (0 : Int) (0 : Int) (0 : Int) (0 : Int) (0 : Int) (0 : Int) else j14_0 k a0 a1 y1 y2 a0 (decide (a0 = (11 : Int))) (0 : Int) (0 : Int) (0 : Int) (0 : Int) (0 : Int) (0 : Int) := by kernel_rfl
theorem f24_eq (k : Nat) (a0_0 : List UInt8) (a0_1 : List Int) (a0_2 : List S71) (a0_3 : List S73) (a0_4 : List Int) (a0_5 : List S63) (a1_0 : Int) (a1_1 : Int) (a1_2 : List Int) (a1_3 : Int) (a1_4 : Int) : evF T (k + 1) 24 [.agg [.str a0_0, .vsl none (.int .i64) a0_1, .vsl none (.named 71) a0_2, .vsl none (.named 73) a0_3, .vsl none (.int .i64) a0_4, .vsl none (.named 63) a0_5], .agg [.int .i64 a1_0, .int .i64 a1_1, .vsl none (.int .i64) a1_2, .int .u64 a1_3, .int .i64 a1_4]] [] = (evF T k 32 [.agg [.str a0_0, .vsl none (.int .i64) a0_1, .vsl none (.named 71) a0_2, .vsl none (.named 73) a0_3, .vsl none (.int .i64) a0_4, .vsl none (.named 63) a0_5], .agg [.int .i64 a1_0, .int .i64 a1_1, .vsl none (.int .i64) a1_2, .int .u64 a1_3, .int .i64 a1_4]] []).bind fun r => res32 r fun y1 => (evF T k 12 [.int .i64 a1_0] []).bind fun r => res12 r fun y2 => if y2 = true then (evF T k 14 [.int .i64 a1_0, .int .i64 y1] []).bind fun r => res14 r fun y3 y4 y5 y6 y7 y8 => some ([.agg [.int .i64 y3, .int .i64 y4, .int .i64 y5, .int .i64 y6, .int .i64 y7, .int .i64 y8]], []) else if a1_0 = (25 : Int) then some ([.agg [.int .i64 (0 : Int), .int .i64 y1, .int .i64 (0 : Int), .int .i64 (1 : Int), .int .i64 (1 : Int), .int .i64 (0 : Int)]], []) else if a1_0 = (27 : Int) then some ([.agg [.int .i64 (0 : Int), .int .i64 y1, .int .i64 (0 : Int), .int .i64 (1 : Int), .int .i64 (1 : Int), .int .i64 (0 : Int)]], []) else some ([.agg [.int .i64 (0 : Int), .int .i64 y1, .int .i64 (0 : Int), .int .i64 (0 : Int), .int .i64 (0 : Int), .int .i64 (0 : Int)]], []) := by kernel_rfl
theorem f8_eq (k : Nat) (a0 : Int) (a1_0 : Int) (a1_1 : Int) : evF T (k + 1) 8 [.int .u8 a0, .agg [.int .u8 a1_0, .int .u8 a1_1]] [] = (evF T k 10 [] []).bind fun r => res10 r fun y1 => if (!y1) = true then some ([.bool false], []) else if (28 : Int) = 0 then none else (evF T k 22 [.int .i64 (wrap64 ((1 : Int) + (((wrap64 (a0))).tmod (28 : Int)))), .agg [.int .u8 a1_0, .int .u8 a1_1]] []).bind fun r => res22 r fun y2 y3 y4 y5 y6 y7 y8 y9 y10 y11 y12 => (evF T k 23 [.agg [.str y2, .vsl none (.int .i64) y3, .vsl none (.named 71) y4, .vsl none (.named 73) y5, .vsl none (.int .i64) y6, .vsl none (.named 63) y7], .agg [.int .i64 y8, .int .i64 y9, .vsl none (.int .i64) y10, .int .u64 y11, .int .i64 y12]] []).bind fun r => res23 r fun y13 y14 y15 y16 y17 y18 => (evF T k 24 [.agg [.str y2, .vsl none (.int .i64) y3, .vsl none (.named 71) y4, .vsl none (.named 73) y5, .vsl none (.int .i64) y6, .vsl none (.named 63) y7], .agg [.int .i64 y8, .int .i64 y9, .vsl none (.int .i64) y10, .int .u64 y11, .int .i64 y12]] []).bind fun r => res24 r fun y19 y20 y21 y22 y23 y24 => some ([.bool (decide (y13 = y19 ∧ y14 = y20 ∧ y15 = y21 ∧ y16 = y22 ∧ y17 = y23 ∧ y18 = y24 ∧ True))], []) := by kernel_rfl
end Go.Proofs.Ytmacdopdogodoaa.vm
