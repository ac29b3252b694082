import Derived.Test.YtflgegjljcpedaaDoorVm2
import Derived.Test.YtflgegjljcpedaaDoorProg
import Derived.Lib.ItoaNum
import Derived.Lib.Strings
import Derived.Lib.Join
import Derived.Lib.LaidTab
set_option linter.all false
namespace Go.Proofs.YtflgegjljcpedaaDoor
open Go Go.RowKit Go.Vm
/-! printed by gen3.py -/
structure S30 where
  f0 : Int
  f1 : Int
  f2 : List Int
  f3 : Int
  f4 : Int
def z30 : S30 := ⟨(0 : Int), (0 : Int), [], (0 : Int), (0 : Int)⟩
structure S100 where
  f0 : Int
  f1 : List Int
def z100 : S100 := ⟨(0 : Int), []⟩
structure S40 where
  f0 : List Int
  f1 : List S30
  f2 : Int
  f3 : Int
  f4 : List S100
  f5 : List Int
  f6 : Int
  f7 : Int
  f8 : Int
def z40 : S40 := ⟨[], [], (0 : Int), (0 : Int), [], [], (0 : Int), (0 : Int), (0 : Int)⟩
structure S53 where
  f0 : List UInt8
  f1 : Int
  f2 : Int
  f3 : Int
  f4 : Int
def z53 : S53 := ⟨[], (0 : Int), (0 : Int), (0 : Int), (0 : Int)⟩
structure S55 where
  f0 : List UInt8
  f1 : Int
  f2 : Bool
def z55 : S55 := ⟨[], (0 : Int), false⟩
def N : Nat → Type := fun i => match i with
  | 30 => S30
  | 100 => S100
  | 40 => S40
  | 53 => S53
  | 55 => S55
  | _ => Unit
def enc30 (x : S30) : List (PV N) := [.int .i64 x.f0, .int .i64 x.f1, .vsl none (.int .i64) x.f2, .int .u64 x.f3, .int .i64 x.f4]
def dec30 : List (PV N) → Option S30
  | [v0, v1, v2, v3, v4] => (decI .i64 v0).bind fun x0 => (decI .i64 v1).bind fun x1 => (decL (.int .i64) v2).bind fun x2 => (decI .u64 v3).bind fun x3 => (decI .i64 v4).bind fun x4 => some ⟨x0, x1, x2, x3, x4⟩
  | _ => none
theorem dec30_ok {x : S30} {cs : List (PV N)} (h : dec30 cs = some x) {E : Enc N} {S : Stab} {w : World} {ρ : Rho} {vs : List Value} (hv : VRs E S w ρ cs vs) : VRs E S w noRho (enc30 x) vs := by
  unfold dec30 at h
  split at h
  · obtain ⟨x0, h0, h⟩ := Option.bind_eq_some_iff.1 h
    obtain ⟨x1, h1, h⟩ := Option.bind_eq_some_iff.1 h
    obtain ⟨x2, h2, h⟩ := Option.bind_eq_some_iff.1 h
    obtain ⟨x3, h3, h⟩ := Option.bind_eq_some_iff.1 h
    obtain ⟨x4, h4, h⟩ := Option.bind_eq_some_iff.1 h
    injection h with h; subst h
    rcases hv with _ | ⟨_, _, _, _, g0, hv⟩; rcases hv with _ | ⟨_, _, _, _, g1, hv⟩; rcases hv with _ | ⟨_, _, _, _, g2, hv⟩; rcases hv with _ | ⟨_, _, _, _, g3, hv⟩; rcases hv with _ | ⟨_, _, _, _, g4, hv⟩; cases hv
    exact .cons _ _ _ _ (decI_VR h0 g0) (.cons _ _ _ _ (decI_VR h1 g1) (.cons _ _ _ _ (decL_VR h2 g2) (.cons _ _ _ _ (decI_VR h3 g3) (.cons _ _ _ _ (decI_VR h4 g4) (.nil)))))
  · exact absurd h (by simp)
def enc100 (x : S100) : List (PV N) := [.int .i64 x.f0, .vsl none (.int .i64) x.f1]
def dec100 : List (PV N) → Option S100
  | [v0, v1] => (decI .i64 v0).bind fun x0 => (decL (.int .i64) v1).bind fun x1 => some ⟨x0, x1⟩
  | _ => none
theorem dec100_ok {x : S100} {cs : List (PV N)} (h : dec100 cs = some x) {E : Enc N} {S : Stab} {w : World} {ρ : Rho} {vs : List Value} (hv : VRs E S w ρ cs vs) : VRs E S w noRho (enc100 x) vs := by
  unfold dec100 at h
  split at h
  · obtain ⟨x0, h0, h⟩ := Option.bind_eq_some_iff.1 h
    obtain ⟨x1, h1, h⟩ := Option.bind_eq_some_iff.1 h
    injection h with h; subst h
    rcases hv with _ | ⟨_, _, _, _, g0, hv⟩; rcases hv with _ | ⟨_, _, _, _, g1, hv⟩; cases hv
    exact .cons _ _ _ _ (decI_VR h0 g0) (.cons _ _ _ _ (decL_VR h1 g1) (.nil))
  · exact absurd h (by simp)
def enc40 (x : S40) : List (PV N) := [.vsl none (.int .i64) x.f0, .vsl none (.named 30) x.f1, .int .i64 x.f2, .int .i64 x.f3, .vsl none (.named 100) x.f4, .vsl none (.int .i64) x.f5, .int .i64 x.f6, .int .i64 x.f7, .int .i64 x.f8]
def dec40 : List (PV N) → Option S40
  | [v0, v1, v2, v3, v4, v5, v6, v7, v8] => (decL (.int .i64) v0).bind fun x0 => (decL (.named 30) v1).bind fun x1 => (decI .i64 v2).bind fun x2 => (decI .i64 v3).bind fun x3 => (decL (.named 100) v4).bind fun x4 => (decL (.int .i64) v5).bind fun x5 => (decI .i64 v6).bind fun x6 => (decI .i64 v7).bind fun x7 => (decI .i64 v8).bind fun x8 => some ⟨x0, x1, x2, x3, x4, x5, x6, x7, x8⟩
  | _ => none
theorem dec40_ok {x : S40} {cs : List (PV N)} (h : dec40 cs = some x) {E : Enc N} {S : Stab} {w : World} {ρ : Rho} {vs : List Value} (hv : VRs E S w ρ cs vs) : VRs E S w noRho (enc40 x) vs := by
  unfold dec40 at h
  split at h
  · obtain ⟨x0, h0, h⟩ := Option.bind_eq_some_iff.1 h
    obtain ⟨x1, h1, h⟩ := Option.bind_eq_some_iff.1 h
    obtain ⟨x2, h2, h⟩ := Option.bind_eq_some_iff.1 h
    obtain ⟨x3, h3, h⟩ := Option.bind_eq_some_iff.1 h
    obtain ⟨x4, h4, h⟩ := Option.bind_eq_some_iff.1 h
    obtain ⟨x5, h5, h⟩ := Option.bind_eq_some_iff.1 h
    obtain ⟨x6, h6, h⟩ := Option.bind_eq_some_iff.1 h
    obtain ⟨x7, h7, h⟩ := Option.bind_eq_some_iff.1 h
    obtain ⟨x8, h8, h⟩ := Option.bind_eq_some_iff.1 h
    injection h with h; subst h
    rcases hv with _ | ⟨_, _, _, _, g0, hv⟩; rcases hv with _ | ⟨_, _, _, _, g1, hv⟩; rcases hv with _ | ⟨_, _, _, _, g2, hv⟩; rcases hv with _ | ⟨_, _, _, _, g3, hv⟩; rcases hv with _ | ⟨_, _, _, _, g4, hv⟩; rcases hv with _ | ⟨_, _, _, _, g5, hv⟩; rcases hv with _ | ⟨_, _, _, _, g6, hv⟩; rcases hv with _ | ⟨_, _, _, _, g7, hv⟩; rcases hv with _ | ⟨_, _, _, _, g8, hv⟩; cases hv
    exact .cons _ _ _ _ (decL_VR h0 g0) (.cons _ _ _ _ (decL_VR h1 g1) (.cons _ _ _ _ (decI_VR h2 g2) (.cons _ _ _ _ (decI_VR h3 g3) (.cons _ _ _ _ (decL_VR h4 g4) (.cons _ _ _ _ (decL_VR h5 g5) (.cons _ _ _ _ (decI_VR h6 g6) (.cons _ _ _ _ (decI_VR h7 g7) (.cons _ _ _ _ (decI_VR h8 g8) (.nil)))))))))
  · exact absurd h (by simp)
def enc53 (x : S53) : List (PV N) := [.str x.f0, .int .i64 x.f1, .int .i64 x.f2, .int .i64 x.f3, .int .i64 x.f4]
def dec53 : List (PV N) → Option S53
  | [v0, v1, v2, v3, v4] => (decS v0).bind fun x0 => (decI .i64 v1).bind fun x1 => (decI .i64 v2).bind fun x2 => (decI .i64 v3).bind fun x3 => (decI .i64 v4).bind fun x4 => some ⟨x0, x1, x2, x3, x4⟩
  | _ => none
theorem dec53_ok {x : S53} {cs : List (PV N)} (h : dec53 cs = some x) {E : Enc N} {S : Stab} {w : World} {ρ : Rho} {vs : List Value} (hv : VRs E S w ρ cs vs) : VRs E S w noRho (enc53 x) vs := by
  unfold dec53 at h
  split at h
  · obtain ⟨x0, h0, h⟩ := Option.bind_eq_some_iff.1 h
    obtain ⟨x1, h1, h⟩ := Option.bind_eq_some_iff.1 h
    obtain ⟨x2, h2, h⟩ := Option.bind_eq_some_iff.1 h
    obtain ⟨x3, h3, h⟩ := Option.bind_eq_some_iff.1 h
    obtain ⟨x4, h4, h⟩ := Option.bind_eq_some_iff.1 h
    injection h with h; subst h
    rcases hv with _ | ⟨_, _, _, _, g0, hv⟩; rcases hv with _ | ⟨_, _, _, _, g1, hv⟩; rcases hv with _ | ⟨_, _, _, _, g2, hv⟩; rcases hv with _ | ⟨_, _, _, _, g3, hv⟩; rcases hv with _ | ⟨_, _, _, _, g4, hv⟩; cases hv
    exact .cons _ _ _ _ (decS_VR h0 g0) (.cons _ _ _ _ (decI_VR h1 g1) (.cons _ _ _ _ (decI_VR h2 g2) (.cons _ _ _ _ (decI_VR h3 g3) (.cons _ _ _ _ (decI_VR h4 g4) (.nil)))))
  · exact absurd h (by simp)
def enc55 (x : S55) : List (PV N) := [.str x.f0, .int .i64 x.f1, .bool x.f2]
def dec55 : List (PV N) → Option S55
  | [v0, v1, v2] => (decS v0).bind fun x0 => (decI .i64 v1).bind fun x1 => (decB v2).bind fun x2 => some ⟨x0, x1, x2⟩
  | _ => none
theorem dec55_ok {x : S55} {cs : List (PV N)} (h : dec55 cs = some x) {E : Enc N} {S : Stab} {w : World} {ρ : Rho} {vs : List Value} (hv : VRs E S w ρ cs vs) : VRs E S w noRho (enc55 x) vs := by
  unfold dec55 at h
  split at h
  · obtain ⟨x0, h0, h⟩ := Option.bind_eq_some_iff.1 h
    obtain ⟨x1, h1, h⟩ := Option.bind_eq_some_iff.1 h
    obtain ⟨x2, h2, h⟩ := Option.bind_eq_some_iff.1 h
    injection h with h; subst h
    rcases hv with _ | ⟨_, _, _, _, g0, hv⟩; rcases hv with _ | ⟨_, _, _, _, g1, hv⟩; rcases hv with _ | ⟨_, _, _, _, g2, hv⟩; cases hv
    exact .cons _ _ _ _ (decS_VR h0 g0) (.cons _ _ _ _ (decI_VR h1 g1) (.cons _ _ _ _ (decB_VR h2 g2) (.nil)))
  · exact absurd h (by simp)
theorem neN (i : Nat) : Nonempty (N i) := by
  unfold N; split <;> first | exact ⟨z30⟩ | exact ⟨z100⟩ | exact ⟨z40⟩ | exact ⟨z53⟩ | exact ⟨z55⟩ | exact ⟨()⟩
noncomputable def zN : (i : Nat) → N i
  | 30 => z30
  | 100 => z100
  | 40 => z40
  | 53 => z53
  | 55 => z55
  | n => Classical.choice (neN n)
noncomputable def E : Enc N where
  enc := fun i => match i with
    | 30 => fun x => enc30 x
    | 100 => fun x => enc100 x
    | 40 => fun x => enc40 x
    | 53 => fun x => enc53 x
    | 55 => fun x => enc55 x
    | _ => fun _ => []
  dec := fun i cs => if h : i = 30 then @Eq.rec Nat 30 (fun j _ => Option (N j)) (dec30 cs) i h.symm else if h : i = 100 then @Eq.rec Nat 100 (fun j _ => Option (N j)) (dec100 cs) i h.symm else if h : i = 40 then @Eq.rec Nat 40 (fun j _ => Option (N j)) (dec40 cs) i h.symm else if h : i = 53 then @Eq.rec Nat 53 (fun j _ => Option (N j)) (dec53 cs) i h.symm else if h : i = 55 then @Eq.rec Nat 55 (fun j _ => Option (N j)) (dec55 cs) i h.symm else none
  z := zN
  size := fun i => match i with
    | 30 => 5
    | 100 => 2
    | 40 => 9
    | 53 => 5
    | 55 => 3
    | _ => 0
theorem E_dec (i : Nat) (n30 : i ≠ 30) (n100 : i ≠ 100) (n40 : i ≠ 40) (n53 : i ≠ 53) (n55 : i ≠ 55) (cs : List (PV N)) : E.dec i cs = none := by
  unfold E; dsimp only; rw [dif_neg n30, dif_neg n100, dif_neg n40, dif_neg n53, dif_neg n55]
theorem E_enc (i : Nat) (n30 : i ≠ 30) (n100 : i ≠ 100) (n40 : i ≠ 40) (n53 : i ≠ 53) (n55 : i ≠ 55) (x : N i) : E.enc i x = [] ∧ E.size i = 0 := by
  unfold E; dsimp only; refine ⟨?_, ?_⟩ <;> split <;> first | contradiction | rfl
theorem encOK : EncOK E where
  dec := by
    intro i cs x h S w ρ vs hv
    by_cases n30 : i = 30
    · subst n30; exact dec30_ok h hv
    by_cases n100 : i = 100
    · subst n100; exact dec100_ok h hv
    by_cases n40 : i = 40
    · subst n40; exact dec40_ok h hv
    by_cases n53 : i = 53
    · subst n53; exact dec53_ok h hv
    by_cases n55 : i = 55
    · subst n55; exact dec55_ok h hv
    rw [E_dec i n30 n100 n40 n53 n55] at h; exact absurd h (by simp)
  size := by
    intro i x
    by_cases n30 : i = 30
    · subst n30; exact rfl
    by_cases n100 : i = 100
    · subst n100; exact rfl
    by_cases n40 : i = 40
    · subst n40; exact rfl
    by_cases n53 : i = 53
    · subst n53; exact rfl
    by_cases n55 : i = 55
    · subst n55; exact rfl
    rw [(E_enc i n30 n100 n40 n53 n55 x).1, (E_enc i n30 n100 n40 n53 n55 x).2]; rfl
  cell := by
    intro i x
    by_cases n30 : i = 30
    · subst n30; exact rfl
    by_cases n100 : i = 100
    · subst n100; exact rfl
    by_cases n40 : i = 40
    · subst n40; exact rfl
    by_cases n53 : i = 53
    · subst n53; exact rfl
    by_cases n55 : i = 55
    · subst n55; exact rfl
    rw [(E_enc i n30 n100 n40 n53 n55 x).1]; rfl
def tcT : TypeId → Option TC := fun t => match t with
  | 3 => some (.int .i64)
  | 4 => some .bool
  | 9 => some .str
  | 22 => some (.list (.int .i64))
  | 23 => some (.list (.named 53))
  | 24 => some (.list (.named 55))
  | 25 => some (.list (.named 40))
  | 28 => some (.int .u64)
  | 30 => some (.named 30)
  | 35 => some (.list (.named 30))
  | 36 => some (.list (.named 100))
  | 40 => some (.named 40)
  | 53 => some (.named 53)
  | 55 => some (.named 55)
  | 100 => some (.named 100)
  | _ => none
def zvT : TypeId → List (PV N) := fun t => match t with
  | 3 => [.int .i64 (0 : Int)]
  | 9 => [.str []]
  | 27 => [.str [], .vsl (some 3) (.int .i64) [], .vsl (some 53) (.named 53) [], .vsl (some 55) (.named 55) [], .vsl (some 3) (.int .i64) [], .vsl (some 40) (.named 40) []]
  | 30 => [.int .i64 (0 : Int), .int .i64 (0 : Int), .vsl (some 3) (.int .i64) [], .int .u64 (0 : Int), .int .i64 (0 : Int)]
  | _ => []
def annT : FuncId → Nat → Option Ann := fun f r => match f, r with
  | 3, 4 => some ⟨[2, 3, 5], [], []⟩
  | 5, 3 => some ⟨[1, 3, 4], [], []⟩
  | 6, 4 => some ⟨[2, 3, 5], [], []⟩
  | 6, 7 => some ⟨[2, 3, 5, 6], [], []⟩
  | 6, 10 => some ⟨[2, 3, 5], [], []⟩
  | 6, 13 => some ⟨[3, 5], [], []⟩
  | 7, 4 => some ⟨[2, 3, 5], [], []⟩
  | 7, 6 => some ⟨[2, 3, 5], [], []⟩
  | 12, 1004 => some ⟨[2, 3, 7, 8], [], []⟩
  | 12, 1009 => some ⟨[2, 3, 29], [], []⟩
  | 14, 3 => some ⟨[3, 6, 7, 8], [], []⟩
  | 17, 2 => some ⟨[0, 3], [], []⟩
  | 19, 3 => some ⟨[0, 3, 4], [], []⟩
  | _, _ => none
def finT : FuncId → Ann := fun f => match f with
  | 3 => ⟨[], [0], []⟩
  | 4 => ⟨[], [0], []⟩
  | 5 => ⟨[], [0], []⟩
  | 6 => ⟨[], [0], []⟩
  | 7 => ⟨[], [0], []⟩
  | 8 => ⟨[], [0], []⟩
  | 9 => ⟨[], [0], []⟩
  | 10 => ⟨[], [0], []⟩
  | 12 => ⟨[], [0, 1], []⟩
  | 14 => ⟨[], [0], []⟩
  | 15 => ⟨[], [0], []⟩
  | 16 => ⟨[], [0], []⟩
  | 17 => ⟨[], [0], []⟩
  | 18 => ⟨[], [0], []⟩
  | 19 => ⟨[], [0], []⟩
  | 21 => ⟨[], [0], []⟩
  | 26 => ⟨[], [0], []⟩
  | _ => ⟨[], [], []⟩
def ownT : FuncId → List Nat := fun f => match f with
  | _ => []
def sigT : FuncId → Nat → Option Sig := fun f n => match f, n with
  | 3, 0 => some ⟨[.val .bool], []⟩
  | 4, 0 => some ⟨[.val .bool], []⟩
  | 5, 0 => some ⟨[.val .bool], []⟩
  | 6, 0 => some ⟨[.val .str], []⟩
  | 7, 0 => some ⟨[.val .str], []⟩
  | 8, 0 => some ⟨[.val .bool], []⟩
  | 9, 0 => some ⟨[.val .str], []⟩
  | 10, 0 => some ⟨[.val .str], []⟩
  | 11, 0 => some ⟨[.val .str], []⟩
  | 12, 0 => some ⟨[.val .str, .val .bool], []⟩
  | 13, 0 => some ⟨[.val .str], []⟩
  | 14, 0 => some ⟨[.val (.list .str)], []⟩
  | 15, 0 => some ⟨[.val .str], []⟩
  | 16, 0 => some ⟨[.val .str], []⟩
  | 17, 0 => some ⟨[.val .str], []⟩
  | 18, 0 => some ⟨[.val .str], []⟩
  | 19, 0 => some ⟨[.val .str], []⟩
  | 20, 0 => some ⟨[.val .str], []⟩
  | 21, 0 => some ⟨[.val (.list .str)], []⟩
  | 26, 0 => some ⟨[.val (.list .str)], []⟩
  | _, _ => none
def cutT : FuncId → Nat → Bool := fun f r => match f, r with
  | 6, 4 => true
  | 6, 7 => true
  | 6, 10 => true
  | 6, 13 => true
  | 7, 4 => true
  | 7, 6 => true
  | 12, 1004 => true
  | 12, 1009 => true
  | _, _ => false
def inpT : FuncId → Option (Inp N) := fun f => match f with
  | _ => none
/-! ### what the library's functions answer -/
def i64ok (n : Int) : Bool := decide (-9223372036854775808 ≤ n) && decide (n ≤ 9223372036854775807)
def xItoa (args : List (PV N)) (hp : Heap N) : Option (Ans N) :=
  match args, hp with
  | [.int .i64 n], [] => bif i64ok n then some ([.str (Lib.itoa n)], []) else none
  | _, _ => none
def xJoin (args : List (PV N)) (hp : Heap N) : Option (Ans N) :=
  match args, hp with
  | [.vsl _ .str l, .str sep], [] => bif Nat.ble (List.length l) 140737488355328 && Nat.ble (Lib.join l sep).length 140737488355328 then some ([.str (Lib.join l sep)], []) else none
  | _, _ => none
def xFmt (args : List (PV N)) (hp : Heap N) : Option (Ans N) :=
  match args, hp with
  | [.int .u64 n, .int .i64 b], [] => bif decide (0 ≤ n) && decide (n ≤ 18446744073709551615) && decide (b = 10) then some ([.str (Lib.decDigits n.toNat)], []) else none
  | _, _ => none
def extT : FuncId → Option (List (PV N) → Heap N → Option (List (PV N) × Heap N)) := fun f => match f with
  | 11 => some xFmt
  | 13 => some xJoin
  | 20 => some xItoa
  | _ => none
/-- A package variable: internal/strconv.uint64pow10. -/
def glT : List (Nat × (Obj → Prop)) := [(0, fun o => ∃ t z, o = .cells (Lib.pow10Tab.map fun z => Value.int .u64 z).toArray t z)]
noncomputable def T : Tbl N := ⟨Go.Proofs.Tryd.prog, E, tcT, zvT, annT, finT, ownT, sigT, extT, inpT, cutT, glT⟩
def res4 {R : Type} (r : Ans N) (K : Bool → Option R) : Option R := nilR r.2 (consR r.1 (fun v1 q2 => asB v1 (fun x3 => nilR q2 (K x3))))
theorem res4_eq {R : Type} (x0 : Bool) (K : Bool → Option R) : res4 ([.bool x0], []) K = K x0 := rfl
def res5 {R : Type} (r : Ans N) (K : Bool → Option R) : Option R := nilR r.2 (consR r.1 (fun v1 q2 => asB v1 (fun x3 => nilR q2 (K x3))))
theorem res5_eq {R : Type} (x0 : Bool) (K : Bool → Option R) : res5 ([.bool x0], []) K = K x0 := rfl
def res6 {R : Type} (r : Ans N) (K : List UInt8 → Option R) : Option R := nilR r.2 (consR r.1 (fun v1 q2 => asS v1 (fun x3 => nilR q2 (K x3))))
theorem res6_eq {R : Type} (x0 : List UInt8) (K : List UInt8 → Option R) : res6 ([.str x0], []) K = K x0 := rfl
def res7 {R : Type} (r : Ans N) (K : List UInt8 → Option R) : Option R := nilR r.2 (consR r.1 (fun v1 q2 => asS v1 (fun x3 => nilR q2 (K x3))))
theorem res7_eq {R : Type} (x0 : List UInt8) (K : List UInt8 → Option R) : res7 ([.str x0], []) K = K x0 := rfl
def res8 {R : Type} (r : Ans N) (K : Bool → Option R) : Option R := nilR r.2 (consR r.1 (fun v1 q2 => asB v1 (fun x3 => nilR q2 (K x3))))
theorem res8_eq {R : Type} (x0 : Bool) (K : Bool → Option R) : res8 ([.bool x0], []) K = K x0 := rfl
def res9 {R : Type} (r : Ans N) (K : List UInt8 → Option R) : Option R := nilR r.2 (consR r.1 (fun v1 q2 => asS v1 (fun x3 => nilR q2 (K x3))))
theorem res9_eq {R : Type} (x0 : List UInt8) (K : List UInt8 → Option R) : res9 ([.str x0], []) K = K x0 := rfl
def res10 {R : Type} (r : Ans N) (K : List UInt8 → Option R) : Option R := nilR r.2 (consR r.1 (fun v1 q2 => asS v1 (fun x3 => nilR q2 (K x3))))
theorem res10_eq {R : Type} (x0 : List UInt8) (K : List UInt8 → Option R) : res10 ([.str x0], []) K = K x0 := rfl
def res11 {R : Type} (r : Ans N) (K : List UInt8 → Option R) : Option R := nilR r.2 (consR r.1 (fun v1 q2 => asS v1 (fun x3 => nilR q2 (K x3))))
theorem res11_eq {R : Type} (x0 : List UInt8) (K : List UInt8 → Option R) : res11 ([.str x0], []) K = K x0 := rfl
def res12 {R : Type} (r : Ans N) (K : List UInt8 → Bool → Option R) : Option R := nilR r.2 (consR r.1 (fun v1 q2 => asS v1 (fun x3 => consR q2 (fun v4 q5 => asB v4 (fun x6 => nilR q5 (K x3 x6))))))
theorem res12_eq {R : Type} (x0 : List UInt8) (x1 : Bool) (K : List UInt8 → Bool → Option R) : res12 ([.str x0, .bool x1], []) K = K x0 x1 := rfl
def res13 {R : Type} (r : Ans N) (K : List UInt8 → Option R) : Option R := nilR r.2 (consR r.1 (fun v1 q2 => asS v1 (fun x3 => nilR q2 (K x3))))
theorem res13_eq {R : Type} (x0 : List UInt8) (K : List UInt8 → Option R) : res13 ([.str x0], []) K = K x0 := rfl
def res14 {R : Type} (r : Ans N) (K : List (List UInt8) → Option R) : Option R := nilR r.2 (consR r.1 (fun v1 q2 => asL .str v1 (fun x3 => nilR q2 (K x3))))
theorem res14_eq {R : Type} (x0 : List (List UInt8)) (K : List (List UInt8) → Option R) : res14 ([.vsl none .str x0], []) K = K x0 := rfl
def res15 {R : Type} (r : Ans N) (K : List UInt8 → Option R) : Option R := nilR r.2 (consR r.1 (fun v1 q2 => asS v1 (fun x3 => nilR q2 (K x3))))
theorem res15_eq {R : Type} (x0 : List UInt8) (K : List UInt8 → Option R) : res15 ([.str x0], []) K = K x0 := rfl
def res16 {R : Type} (r : Ans N) (K : List UInt8 → Option R) : Option R := nilR r.2 (consR r.1 (fun v1 q2 => asS v1 (fun x3 => nilR q2 (K x3))))
theorem res16_eq {R : Type} (x0 : List UInt8) (K : List UInt8 → Option R) : res16 ([.str x0], []) K = K x0 := rfl
def res17 {R : Type} (r : Ans N) (K : List UInt8 → Option R) : Option R := nilR r.2 (consR r.1 (fun v1 q2 => asS v1 (fun x3 => nilR q2 (K x3))))
theorem res17_eq {R : Type} (x0 : List UInt8) (K : List UInt8 → Option R) : res17 ([.str x0], []) K = K x0 := rfl
def res18 {R : Type} (r : Ans N) (K : List UInt8 → Option R) : Option R := nilR r.2 (consR r.1 (fun v1 q2 => asS v1 (fun x3 => nilR q2 (K x3))))
theorem res18_eq {R : Type} (x0 : List UInt8) (K : List UInt8 → Option R) : res18 ([.str x0], []) K = K x0 := rfl
def res19 {R : Type} (r : Ans N) (K : List UInt8 → Option R) : Option R := nilR r.2 (consR r.1 (fun v1 q2 => asS v1 (fun x3 => nilR q2 (K x3))))
theorem res19_eq {R : Type} (x0 : List UInt8) (K : List UInt8 → Option R) : res19 ([.str x0], []) K = K x0 := rfl
def res20 {R : Type} (r : Ans N) (K : List UInt8 → Option R) : Option R := nilR r.2 (consR r.1 (fun v1 q2 => asS v1 (fun x3 => nilR q2 (K x3))))
theorem res20_eq {R : Type} (x0 : List UInt8) (K : List UInt8 → Option R) : res20 ([.str x0], []) K = K x0 := rfl
def res21 {R : Type} (r : Ans N) (K : List (List UInt8) → Option R) : Option R := nilR r.2 (consR r.1 (fun v1 q2 => asL .str v1 (fun x3 => nilR q2 (K x3))))
theorem res21_eq {R : Type} (x0 : List (List UInt8)) (K : List (List UInt8) → Option R) : res21 ([.vsl none .str x0], []) K = K x0 := rfl
def res26 {R : Type} (r : Ans N) (K : List (List UInt8) → Option R) : Option R := nilR r.2 (consR r.1 (fun v1 q2 => asL .str v1 (fun x3 => nilR q2 (K x3))))
theorem res26_eq {R : Type} (x0 : List (List UInt8)) (K : List (List UInt8) → Option R) : res26 ([.vsl none .str x0], []) K = K x0 := rfl
theorem f8_eq (k : Nat) (a0 : Int) : evF T (k + 1) 8 [.int .i64 a0] [] = if a0 = (26 : Int) then some ([.bool true], []) else some ([.bool (decide (a0 = (28 : Int)))], []) := by kernel_rfl
theorem f9_eq (k : Nat) (a0 : Int) : evF T (k + 1) 9 [.int .i64 a0] [] = (evF T k 20 [.int .i64 a0] []).bind fun r => res20 r fun y1 => some ([.str y1], []) := by kernel_rfl
theorem f21_eq (k : Nat)  : evF T (k + 1) 21 [] [] = some ([.vsl none .str [[], [(99 : UInt8), (111 : UInt8), (110 : UInt8), (115 : UInt8), (116 : UInt8)], [(97 : UInt8), (100 : UInt8), (100 : UInt8)], [(115 : UInt8), (117 : UInt8), (98 : UInt8)], [(109 : UInt8), (117 : UInt8), (108 : UInt8)], [(117 : UInt8), (100 : UInt8), (105 : UInt8), (118 : UInt8)], [(117 : UInt8), (114 : UInt8), (101 : UInt8), (109 : UInt8)], [(115 : UInt8), (100 : UInt8), (105 : UInt8), (118 : UInt8)], [(115 : UInt8), (114 : UInt8), (101 : UInt8), (109 : UInt8)], [(97 : UInt8), (110 : UInt8), (100 : UInt8)], [(111 : UInt8), (114 : UInt8)], [(120 : UInt8), (111 : UInt8), (114 : UInt8)], [(115 : UInt8), (104 : UInt8), (108 : UInt8)], [(108 : UInt8), (115 : UInt8), (104 : UInt8), (114 : UInt8)], [(97 : UInt8), (115 : UInt8), (104 : UInt8), (114 : UInt8)], [(101 : UInt8), (113 : UInt8)], [(110 : UInt8), (101 : UInt8)], [(117 : UInt8), (108 : UInt8), (116 : UInt8)], [(117 : UInt8), (108 : UInt8), (101 : UInt8)], [(115 : UInt8), (108 : UInt8), (116 : UInt8)], [(115 : UInt8), (108 : UInt8), (101 : UInt8)], [(115 : UInt8), (101 : UInt8), (108 : UInt8), (101 : UInt8), (99 : UInt8), (116 : UInt8)], [(122 : UInt8), (101 : UInt8), (120 : UInt8), (116 : UInt8)], [(115 : UInt8), (101 : UInt8), (120 : UInt8), (116 : UInt8)], [(116 : UInt8), (114 : UInt8), (117 : UInt8), (110 : UInt8), (99 : UInt8)], [(108 : UInt8), (111 : UInt8), (97 : UInt8), (100 : UInt8)], [(115 : UInt8), (116 : UInt8), (111 : UInt8), (114 : UInt8), (101 : UInt8)], [(114 : UInt8), (101 : UInt8), (99 : UInt8), (118 : UInt8)], [(115 : UInt8), (101 : UInt8), (110 : UInt8), (100 : UInt8)]]], []) := by kernel_rfl
theorem f10_eq (k : Nat) (a0 : Int) : evF T (k + 1) 10 [.int .i64 a0] [] = (evF T k 21 [] []).bind fun r => res21 r fun y1 => if a0 > (0 : Int) then if a0 < (y1.length : Int) then if 0 ≤ a0 then if a0 < (y1.length : Int) then some ([.str (y1.getD a0.toNat [])], []) else none else none else some ([.str []], []) else some ([.str []], []) := by kernel_rfl
noncomputable def j12_0 (k : Nat) (x7 : Int) (x8 : Bool) (b0_0 : List UInt8) (b0_1 : List Int) (b0_2 : List S53) (b0_3 : List S55) (b0_4 : List Int) (b0_5 : List S40) (b1_0 : Int) (b1_1 : Int) (b1_2 : List Int) (b1_3 : Int) (b1_4 : Int) : Option (Ans N) := jn T 12 0 [1, 0, 1, 0, 1] k [] ⟨[(2, .bptr 0 0), (3, .bptr 1 0), (7, .int .i64 x7), (8, .bool x8)], [some (.box 27 [.str b0_0, .vsl none (.int .i64) b0_1, .vsl none (.named 53) b0_2, .vsl none (.named 55) b0_3, .vsl none (.int .i64) b0_4, .vsl none (.named 40) b0_5]), some (.box 30 [.int .i64 b1_0, .int .i64 b1_1, .vsl none (.int .i64) b1_2, .int .u64 b1_3, .int .i64 b1_4])]⟩
noncomputable def j12_1 (k : Nat) (x29 : Bool) (b0_0 : List UInt8) (b0_1 : List Int) (b0_2 : List S53) (b0_3 : List S55) (b0_4 : List Int) (b0_5 : List S40) (b1_0 : Int) (b1_1 : Int) (b1_2 : List Int) (b1_3 : Int) (b1_4 : Int) : Option (Ans N) := jn T 12 0 [1, 0, 1, 0, 1, 1, 1] k [] ⟨[(2, .bptr 0 0), (3, .bptr 1 0), (29, .bool x29)], [some (.box 27 [.str b0_0, .vsl none (.int .i64) b0_1, .vsl none (.named 53) b0_2, .vsl none (.named 55) b0_3, .vsl none (.int .i64) b0_4, .vsl none (.named 40) b0_5]), some (.box 30 [.int .i64 b1_0, .int .i64 b1_1, .vsl none (.int .i64) b1_2, .int .u64 b1_3, .int .i64 b1_4])]⟩
theorem j12_1_eq (k : Nat) (x29 : Bool) (b0_0 : List UInt8) (b0_1 : List Int) (b0_2 : List S53) (b0_3 : List S55) (b0_4 : List Int) (b0_5 : List S40) (b1_0 : Int) (b1_1 : Int) (b1_2 : List Int) (b1_3 : Int) (b1_4 : Int) : j12_1 k  x29 b0_0 b0_1 b0_2 b0_3 b0_4 b0_5 b1_0 b1_1 b1_2 b1_3 b1_4 = if x29 = true then if b1_4 ≥ (0 : Int) then if b1_4 < (b0_3.length : Int) then if 0 ≤ b1_4 then if b1_4 < (b0_3.length : Int) then some ([.str ((b0_3.getD b1_4.toNat z55).f0), .bool true], []) else none else none else some ([.str [(63 : UInt8)], .bool true], []) else some ([.str [(63 : UInt8)], .bool true], []) else some ([.str [], .bool false], []) := by unfold j12_1; rw [jn_eq]; kernel_rfl
theorem j12_0_eq (k : Nat) (x7 : Int) (x8 : Bool) (b0_0 : List UInt8) (b0_1 : List Int) (b0_2 : List S53) (b0_3 : List S55) (b0_4 : List Int) (b0_5 : List S40) (b1_0 : Int) (b1_1 : Int) (b1_2 : List Int) (b1_3 : Int) (b1_4 : Int) : j12_0 k  x7 x8 b0_0 b0_1 b0_2 b0_3 b0_4 b0_5 b1_0 b1_1 b1_2 b1_3 b1_4 = if x8 = true then if b1_4 ≥ (0 : Int) then if b1_4 < (b0_2.length : Int) then if 0 ≤ b1_4 then if b1_4 < (b0_2.length : Int) then some ([.str ((b0_2.getD b1_4.toNat z53).f0), .bool true], []) else none else none else some ([.str [(63 : UInt8)], .bool true], []) else some ([.str [(63 : UInt8)], .bool true], []) else if x7 = (27 : Int) then j12_1 k (decide (x7 = (27 : Int))) b0_0 b0_1 b0_2 b0_3 b0_4 b0_5 b1_0 b1_1 b1_2 b1_3 b1_4 else j12_1 k (decide (x7 = (28 : Int))) b0_0 b0_1 b0_2 b0_3 b0_4 b0_5 b1_0 b1_1 b1_2 b1_3 b1_4 := by unfold j12_0; rw [jn_eq]; kernel_rfl
theorem f12_eq (k : Nat) (a0_0 : List UInt8) (a0_1 : List Int) (a0_2 : List S53) (a0_3 : List S55) (a0_4 : List Int) (a0_5 : List S40) (a1_0 : Int) (a1_1 : Int) (a1_2 : List Int) (a1_3 : Int) (a1_4 : Int) : evF T (k + 1) 12 [.agg [.str a0_0, .vsl none (.int .i64) a0_1, .vsl none (.named 53) a0_2, .vsl none (.named 55) a0_3, .vsl none (.int .i64) a0_4, .vsl none (.named 40) a0_5], .agg [.int .i64 a1_0, .int .i64 a1_1, .vsl none (.int .i64) a1_2, .int .u64 a1_3, .int .i64 a1_4]] [] = if a1_0 = (25 : Int) then j12_0 k a1_0 (decide (a1_0 = (25 : Int))) a0_0 a0_1 a0_2 a0_3 a0_4 a0_5 a1_0 a1_1 a1_2 a1_3 a1_4 else j12_0 k a1_0 (decide (a1_0 = (26 : Int))) a0_0 a0_1 a0_2 a0_3 a0_4 a0_5 a1_0 a1_1 a1_2 a1_3 a1_4 := by kernel_rfl
noncomputable def l14_0 (k m : Nat) (x6 : List Int) (x7 : Int) (x8 : Int) (r0 : List (List UInt8)) : Option (Ans N) := lp T 14 0 [1, 1, 0, 1, 0] k [] m ⟨[(3, .sl 0 0), (6, .vsl none (.int .i64) x6), (7, .int .i64 x7), (8, .int .i64 x8)], [some (.row 0 0 9 .str r0)]⟩
theorem l14_0_eq (k m : Nat) (x6 : List Int) (x7 : Int) (x8 : Int) (r0 : List (List UInt8)) : l14_0 k (m + 1) x6 x7 x8 r0 = if x8 < x7 then if 0 ≤ x8 then if x8 < (x6.length : Int) then (evF T k 9 [.int .i64 (x6.getD x8.toNat (0 : Int))] []).bind fun r => res9 r fun y1 => chk ((r0.length + [y1].length) * 16 ≤ 140737488355328) (l14_0 k m x6 x7 (wrap64 (x8 + (1 : Int))) (r0 ++ [y1])) else none else none else some ([.vsl none .str r0], []) := by kernel_rfl
theorem f14_eq (k : Nat) (a0 : List Int) : evF T (k + 1) 14 [.vsl none (.int .i64) a0] [] = l14_0 k k a0 (a0.length : Int) (0 : Int) [] := by kernel_rfl
noncomputable def j6_0 (k : Nat) (b0_0 : List UInt8) (b0_1 : List Int) (b0_2 : List S53) (b0_3 : List S55) (b0_4 : List Int) (b0_5 : List S40) (b1_0 : Int) (b1_1 : Int) (b1_2 : List Int) (b1_3 : Int) (b1_4 : Int) (r2 : List (List UInt8)) : Option (Ans N) := jn T 6 0 [1, 1, 1] k [] ⟨[(2, .bptr 0 0), (3, .bptr 1 0), (5, .sl 2 0)], [some (.box 27 [.str b0_0, .vsl none (.int .i64) b0_1, .vsl none (.named 53) b0_2, .vsl none (.named 55) b0_3, .vsl none (.int .i64) b0_4, .vsl none (.named 40) b0_5]), some (.box 30 [.int .i64 b1_0, .int .i64 b1_1, .vsl none (.int .i64) b1_2, .int .u64 b1_3, .int .i64 b1_4]), some (.row 0 0 9 .str r2)]⟩
noncomputable def j6_1 (k : Nat) (x6 : List UInt8) (b0_0 : List UInt8) (b0_1 : List Int) (b0_2 : List S53) (b0_3 : List S55) (b0_4 : List Int) (b0_5 : List S40) (b1_0 : Int) (b1_1 : Int) (b1_2 : List Int) (b1_3 : Int) (b1_4 : Int) (r2 : List (List UInt8)) : Option (Ans N) := jn T 6 0 [1, 1, 1, 1, 1] k [] ⟨[(2, .bptr 0 0), (3, .bptr 1 0), (5, .sl 2 0), (6, .str x6)], [some (.box 27 [.str b0_0, .vsl none (.int .i64) b0_1, .vsl none (.named 53) b0_2, .vsl none (.named 55) b0_3, .vsl none (.int .i64) b0_4, .vsl none (.named 40) b0_5]), some (.box 30 [.int .i64 b1_0, .int .i64 b1_1, .vsl none (.int .i64) b1_2, .int .u64 b1_3, .int .i64 b1_4]), some (.row 0 0 9 .str r2)]⟩
noncomputable def j6_2 (k : Nat) (b0_0 : List UInt8) (b0_1 : List Int) (b0_2 : List S53) (b0_3 : List S55) (b0_4 : List Int) (b0_5 : List S40) (b1_0 : Int) (b1_1 : Int) (b1_2 : List Int) (b1_3 : Int) (b1_4 : Int) (r2 : List (List UInt8)) : Option (Ans N) := jn T 6 0 [1, 1, 1, 1, 1, 1, 1] k [] ⟨[(2, .bptr 0 0), (3, .bptr 1 0), (5, .sl 2 0)], [some (.box 27 [.str b0_0, .vsl none (.int .i64) b0_1, .vsl none (.named 53) b0_2, .vsl none (.named 55) b0_3, .vsl none (.int .i64) b0_4, .vsl none (.named 40) b0_5]), some (.box 30 [.int .i64 b1_0, .int .i64 b1_1, .vsl none (.int .i64) b1_2, .int .u64 b1_3, .int .i64 b1_4]), some (.row 0 0 9 .str r2)]⟩
noncomputable def j6_3 (k : Nat) (b0_0 : Int) (b0_1 : Int) (b0_2 : List Int) (b0_3 : Int) (b0_4 : Int) (r1 : List (List UInt8)) : Option (Ans N) := jn T 6 0 [1, 1, 1, 1, 1, 1, 1, 1] k [] ⟨[(3, .bptr 0 0), (5, .sl 1 0)], [some (.box 30 [.int .i64 b0_0, .int .i64 b0_1, .vsl none (.int .i64) b0_2, .int .u64 b0_3, .int .i64 b0_4]), some (.row 0 0 9 .str r1)]⟩
theorem j6_3_eq (k : Nat) (b0_0 : Int) (b0_1 : Int) (b0_2 : List Int) (b0_3 : Int) (b0_4 : Int) (r1 : List (List UInt8)) : j6_3 k  b0_0 b0_1 b0_2 b0_3 b0_4 r1 = (evF T k 14 [.vsl none (.int .i64) b0_2] []).bind fun r => res14 r fun y7 => chk ((r1.length + y7.length) * 16 ≤ 140737488355328) ((evF T k 13 [.vsl none .str (r1 ++ y7), .str [(32 : UInt8)]] []).bind fun r => res13 r fun y8 => some ([.str y8], [])) := by unfold j6_3; rw [jn_eq]; kernel_rfl
theorem j6_2_eq (k : Nat) (b0_0 : List UInt8) (b0_1 : List Int) (b0_2 : List S53) (b0_3 : List S55) (b0_4 : List Int) (b0_5 : List S40) (b1_0 : Int) (b1_1 : Int) (b1_2 : List Int) (b1_3 : Int) (b1_4 : Int) (r2 : List (List UInt8)) : j6_2 k  b0_0 b0_1 b0_2 b0_3 b0_4 b0_5 b1_0 b1_1 b1_2 b1_3 b1_4 r2 = (evF T k 12 [.agg [.str b0_0, .vsl none (.int .i64) b0_1, .vsl none (.named 53) b0_2, .vsl none (.named 55) b0_3, .vsl none (.int .i64) b0_4, .vsl none (.named 40) b0_5], .agg [.int .i64 b1_0, .int .i64 b1_1, .vsl none (.int .i64) b1_2, .int .u64 b1_3, .int .i64 b1_4]] []).bind fun r => res12 r fun y5 y6 => if y6 = true then chk ((r2.length + [y5].length) * 16 ≤ 140737488355328) (j6_3 k b1_0 b1_1 b1_2 b1_3 b1_4 (r2 ++ [y5])) else j6_3 k b1_0 b1_1 b1_2 b1_3 b1_4 r2 := by unfold j6_2; rw [jn_eq]; kernel_rfl
theorem j6_1_eq (k : Nat) (x6 : List UInt8) (b0_0 : List UInt8) (b0_1 : List Int) (b0_2 : List S53) (b0_3 : List S55) (b0_4 : List Int) (b0_5 : List S40) (b1_0 : Int) (b1_1 : Int) (b1_2 : List Int) (b1_3 : Int) (b1_4 : Int) (r2 : List (List UInt8)) : j6_1 k  x6 b0_0 b0_1 b0_2 b0_3 b0_4 b0_5 b1_0 b1_1 b1_2 b1_3 b1_4 r2 = chk ((r2.length + [x6].length) * 16 ≤ 140737488355328) (if b1_0 = (1 : Int) then (evF T k 11 [.int .u64 b1_3, .int .i64 (10 : Int)] []).bind fun r => res11 r fun y4 => chk (((r2 ++ [x6]).length + [y4].length) * 16 ≤ 140737488355328) (j6_2 k b0_0 b0_1 b0_2 b0_3 b0_4 b0_5 b1_0 b1_1 b1_2 b1_3 b1_4 ((r2 ++ [x6]) ++ [y4])) else j6_2 k b0_0 b0_1 b0_2 b0_3 b0_4 b0_5 b1_0 b1_1 b1_2 b1_3 b1_4 (r2 ++ [x6])) := by unfold j6_1; rw [jn_eq]; kernel_rfl
theorem j6_0_eq (k : Nat) (b0_0 : List UInt8) (b0_1 : List Int) (b0_2 : List S53) (b0_3 : List S55) (b0_4 : List Int) (b0_5 : List S40) (b1_0 : Int) (b1_1 : Int) (b1_2 : List Int) (b1_3 : Int) (b1_4 : Int) (r2 : List (List UInt8)) : j6_0 k  b0_0 b0_1 b0_2 b0_3 b0_4 b0_5 b1_0 b1_1 b1_2 b1_3 b1_4 r2 = (evF T k 10 [.int .i64 b1_0] []).bind fun r => res10 r fun y3 => if y3 = [] then j6_1 k [(63 : UInt8)] b0_0 b0_1 b0_2 b0_3 b0_4 b0_5 b1_0 b1_1 b1_2 b1_3 b1_4 r2 else j6_1 k y3 b0_0 b0_1 b0_2 b0_3 b0_4 b0_5 b1_0 b1_1 b1_2 b1_3 b1_4 r2 := by unfold j6_0; rw [jn_eq]; kernel_rfl
theorem f6_eq (k : Nat) (a0_0 : List UInt8) (a0_1 : List Int) (a0_2 : List S53) (a0_3 : List S55) (a0_4 : List Int) (a0_5 : List S40) (a1_0 : Int) (a1_1 : Int) (a1_2 : List Int) (a1_3 : Int) (a1_4 : Int) : evF T (k + 1) 6 [.agg [.str a0_0, .vsl none (.int .i64) a0_1, .vsl none (.named 53) a0_2, .vsl none (.named 55) a0_3, .vsl none (.int .i64) a0_4, .vsl none (.named 40) a0_5], .agg [.int .i64 a1_0, .int .i64 a1_1, .vsl none (.int .i64) a1_2, .int .u64 a1_3, .int .i64 a1_4]] [] = (evF T k 8 [.int .i64 a1_0] []).bind fun r => res8 r fun y1 => if (!y1) = true then (evF T k 9 [.int .i64 a1_1] []).bind fun r => res9 r fun y2 => chk ([y2, [(61 : UInt8)]].length * 16 ≤ 140737488355328) (j6_0 k a0_0 a0_1 a0_2 a0_3 a0_4 a0_5 a1_0 a1_1 a1_2 a1_3 a1_4 [y2, [(61 : UInt8)]]) else j6_0 k a0_0 a0_1 a0_2 a0_3 a0_4 a0_5 a1_0 a1_1 a1_2 a1_3 a1_4 [] := by kernel_rfl
theorem f4_eq (k : Nat)  : evF T (k + 1) 4 [] [] = (evF T k 6 [.agg [.str [], .vsl none (.int .i64) [], .vsl none (.named 53) [], .vsl none (.named 55) [], .vsl none (.int .i64) [], .vsl none (.named 40) []], .agg [.int .i64 (2 : Int), .int .i64 (2 : Int), .vsl none (.int .i64) [(0 : Int), (1 : Int)], .int .u64 (0 : Int), .int .i64 (0 : Int)]] []).bind fun r => res6 r fun y1 => some ([.bool (decide (y1 = [(50 : UInt8), (32 : UInt8), (61 : UInt8), (32 : UInt8), (97 : UInt8), (100 : UInt8), (100 : UInt8), (32 : UInt8), (48 : UInt8), (32 : UInt8), (49 : UInt8)]))], []) := by kernel_rfl
noncomputable def l5_0 (k m : Nat) (x3 : Int) (x4 : Int) (b0_0 : List UInt8) (b0_1 : List Int) (b0_2 : List S53) (b0_3 : List S55) (b0_4 : List Int) (b0_5 : List S40) : Option (Ans N) := lp T 5 0 [1, 1, 0, 1, 0] k [] m ⟨[(1, .bptr 0 0), (3, .int .i64 x3), (4, .int .i64 x4)], [some (.box 27 [.str b0_0, .vsl none (.int .i64) b0_1, .vsl none (.named 53) b0_2, .vsl none (.named 55) b0_3, .vsl none (.int .i64) b0_4, .vsl none (.named 40) b0_5])]⟩
theorem l5_0_eq (k m : Nat) (x3 : Int) (x4 : Int) (b0_0 : List UInt8) (b0_1 : List Int) (b0_2 : List S53) (b0_3 : List S55) (b0_4 : List Int) (b0_5 : List S40) : l5_0 k (m + 1) x3 x4 b0_0 b0_1 b0_2 b0_3 b0_4 b0_5 = if x4 < (b0_5.length : Int) then if 0 ≤ x4 then if x4 < (b0_5.length : Int) then if 0 ≤ x4 then if x4 < (b0_5.length : Int) then if (((b0_5.getD x4.toNat z40).f0).length : Int) > (100 : Int) then some ([.bool false], []) else l5_0 k m (wrap64 (x3 + (((b0_5.getD x4.toNat z40).f1).length : Int))) (wrap64 (x4 + (1 : Int))) b0_0 b0_1 b0_2 b0_3 b0_4 b0_5 else none else none else none else none else if (b0_5.length : Int) ≤ (30 : Int) then if x3 ≤ (300 : Int) then some ([.bool (decide ((b0_1.length : Int) ≤ (600 : Int)))], []) else some ([.bool false], []) else some ([.bool false], []) := by kernel_rfl
theorem f5_eq (k : Nat) (a0_0 : List UInt8) (a0_1 : List Int) (a0_2 : List S53) (a0_3 : List S55) (a0_4 : List Int) (a0_5 : List S40) : evF T (k + 1) 5 [.agg [.str a0_0, .vsl none (.int .i64) a0_1, .vsl none (.named 53) a0_2, .vsl none (.named 55) a0_3, .vsl none (.int .i64) a0_4, .vsl none (.named 40) a0_5]] [] = l5_0 k k (0 : Int) (0 : Int) a0_0 a0_1 a0_2 a0_3 a0_4 a0_5 := by kernel_rfl
theorem f26_eq (k : Nat)  : evF T (k + 1) 26 [] [] = some ([.vsl none .str [[], [(99 : UInt8), (111 : UInt8), (110 : UInt8), (115 : UInt8), (116 : UInt8)], [(97 : UInt8), (100 : UInt8), (100 : UInt8)], [(115 : UInt8), (117 : UInt8), (98 : UInt8)], [(109 : UInt8), (117 : UInt8), (108 : UInt8)], [(117 : UInt8), (100 : UInt8), (105 : UInt8), (118 : UInt8)], [(117 : UInt8), (114 : UInt8), (101 : UInt8), (109 : UInt8)], [(115 : UInt8), (100 : UInt8), (105 : UInt8), (118 : UInt8)], [(115 : UInt8), (114 : UInt8), (101 : UInt8), (109 : UInt8)], [(97 : UInt8), (110 : UInt8), (100 : UInt8)], [(111 : UInt8), (114 : UInt8)], [(120 : UInt8), (111 : UInt8), (114 : UInt8)], [(115 : UInt8), (104 : UInt8), (108 : UInt8)], [(108 : UInt8), (115 : UInt8), (104 : UInt8), (114 : UInt8)], [(97 : UInt8), (115 : UInt8), (104 : UInt8), (114 : UInt8)], [(101 : UInt8), (113 : UInt8)], [(110 : UInt8), (101 : UInt8)], [(117 : UInt8), (108 : UInt8), (116 : UInt8)], [(117 : UInt8), (108 : UInt8), (101 : UInt8)], [(115 : UInt8), (108 : UInt8), (116 : UInt8)], [(115 : UInt8), (108 : UInt8), (101 : UInt8)], [(115 : UInt8), (101 : UInt8), (108 : UInt8), (101 : UInt8), (99 : UInt8), (116 : UInt8)], [(122 : UInt8), (101 : UInt8), (120 : UInt8), (116 : UInt8)], [(115 : UInt8), (101 : UInt8), (120 : UInt8), (116 : UInt8)], [(116 : UInt8), (114 : UInt8), (117 : UInt8), (110 : UInt8), (99 : UInt8)], [(108 : UInt8), (111 : UInt8), (97 : UInt8), (100 : UInt8)], [(115 : UInt8), (116 : UInt8), (111 : UInt8), (114 : UInt8), (101 : UInt8)], [(114 : UInt8), (101 : UInt8), (99 : UInt8), (118 : UInt8)], [(115 : UInt8), (101 : UInt8), (110 : UInt8), (100 : UInt8)]]], []) := by kernel_rfl
theorem f15_eq (k : Nat) (a0 : Int) : evF T (k + 1) 15 [.int .i64 a0] [] = if a0 < (1 : Int) then some ([.str [(63 : UInt8)]], []) else if a0 > (28 : Int) then some ([.str [(63 : UInt8)]], []) else (evF T k 26 [] []).bind fun r => res26 r fun y1 => if 0 ≤ a0 then if a0 < (y1.length : Int) then some ([.str (y1.getD a0.toNat [])], []) else none else none := by kernel_rfl
noncomputable def l17_0 (k m : Nat) (x0 : Int) (x3 : List UInt8) : Option (Ans N) := lp T 17 0 [1, 1, 0, 0] k [] m ⟨[(0, .int .u64 x0), (3, .str x3)], []⟩
theorem l17_0_eq (k m : Nat) (x0 : Int) (x3 : List UInt8) : l17_0 k (m + 1) x0 x3 = if x0 ≥ (10 : Int) then if (10 : Int) = 0 then none else if (10 : Int) = 0 then none else if 0 ≤ (wr .u64 (((x0).tmod (10 : Int)) + (1 : Int))) then if (wr .u64 (((x0).tmod (10 : Int)) + (1 : Int))) ≤ ([(48 : UInt8), (49 : UInt8), (50 : UInt8), (51 : UInt8), (52 : UInt8), (53 : UInt8), (54 : UInt8), (55 : UInt8), (56 : UInt8), (57 : UInt8)].length : Int) then if 0 ≤ ((x0).tmod (10 : Int)) then if ((x0).tmod (10 : Int)) ≤ (wr .u64 (((x0).tmod (10 : Int)) + (1 : Int))) then chk (strOK (([(48 : UInt8), (49 : UInt8), (50 : UInt8), (51 : UInt8), (52 : UInt8), (53 : UInt8), (54 : UInt8), (55 : UInt8), (56 : UInt8), (57 : UInt8)].take (wr .u64 (((x0).tmod (10 : Int)) + (1 : Int))).toNat).drop ((x0).tmod (10 : Int)).toNat) x3) (if (10 : Int) = 0 then none else l17_0 k m (wr .u64 ((x0).tdiv (10 : Int))) ((([(48 : UInt8), (49 : UInt8), (50 : UInt8), (51 : UInt8), (52 : UInt8), (53 : UInt8), (54 : UInt8), (55 : UInt8), (56 : UInt8), (57 : UInt8)].take (wr .u64 (((x0).tmod (10 : Int)) + (1 : Int))).toNat).drop ((x0).tmod (10 : Int)).toNat) ++ x3)) else none else none else none else none else if 0 ≤ (wr .u64 (x0 + (1 : Int))) then if (wr .u64 (x0 + (1 : Int))) ≤ ([(48 : UInt8), (49 : UInt8), (50 : UInt8), (51 : UInt8), (52 : UInt8), (53 : UInt8), (54 : UInt8), (55 : UInt8), (56 : UInt8), (57 : UInt8)].length : Int) then if 0 ≤ x0 then if x0 ≤ (wr .u64 (x0 + (1 : Int))) then chk (strOK (([(48 : UInt8), (49 : UInt8), (50 : UInt8), (51 : UInt8), (52 : UInt8), (53 : UInt8), (54 : UInt8), (55 : UInt8), (56 : UInt8), (57 : UInt8)].take (wr .u64 (x0 + (1 : Int))).toNat).drop x0.toNat) x3) (some ([.str ((([(48 : UInt8), (49 : UInt8), (50 : UInt8), (51 : UInt8), (52 : UInt8), (53 : UInt8), (54 : UInt8), (55 : UInt8), (56 : UInt8), (57 : UInt8)].take (wr .u64 (x0 + (1 : Int))).toNat).drop x0.toNat) ++ x3)], [])) else none else none else none else none := by kernel_rfl
theorem f17_eq (k : Nat) (a0 : Int) : evF T (k + 1) 17 [.int .u64 a0] [] = l17_0 k k a0 [] := by kernel_rfl
theorem f16_eq (k : Nat) (a0 : Int) : evF T (k + 1) 16 [.int .i64 a0] [] = if a0 < (0 : Int) then (evF T k 17 [.int .u64 (wr .u64 ((wrap64 (0 - a0))))] []).bind fun r => res17 r fun y1 => chk (strOK [(45 : UInt8)] y1) (some ([.str ([(45 : UInt8)] ++ y1)], [])) else (evF T k 17 [.int .u64 (wr .u64 (a0))] []).bind fun r => res17 r fun y2 => some ([.str y2], []) := by kernel_rfl
theorem f18_eq (k : Nat) (a0_0 : List UInt8) (a0_1 : List Int) (a0_2 : List S53) (a0_3 : List S55) (a0_4 : List Int) (a0_5 : List S40) (a1_0 : Int) (a1_1 : Int) (a1_2 : List Int) (a1_3 : Int) (a1_4 : Int) : evF T (k + 1) 18 [.agg [.str a0_0, .vsl none (.int .i64) a0_1, .vsl none (.named 53) a0_2, .vsl none (.named 55) a0_3, .vsl none (.int .i64) a0_4, .vsl none (.named 40) a0_5], .agg [.int .i64 a1_0, .int .i64 a1_1, .vsl none (.int .i64) a1_2, .int .u64 a1_3, .int .i64 a1_4]] [] = if a1_0 = (25 : Int) then if a1_4 ≥ (0 : Int) then if a1_4 < (a0_2.length : Int) then if 0 ≤ a1_4 then if a1_4 < (a0_2.length : Int) then some ([.str ((a0_2.getD a1_4.toNat z53).f0)], []) else none else none else some ([.str [(63 : UInt8)]], []) else some ([.str [(63 : UInt8)]], []) else if a1_0 = (26 : Int) then if a1_4 ≥ (0 : Int) then if a1_4 < (a0_2.length : Int) then if 0 ≤ a1_4 then if a1_4 < (a0_2.length : Int) then some ([.str ((a0_2.getD a1_4.toNat z53).f0)], []) else none else none else some ([.str [(63 : UInt8)]], []) else some ([.str [(63 : UInt8)]], []) else if a1_4 ≥ (0 : Int) then if a1_4 < (a0_3.length : Int) then if 0 ≤ a1_4 then if a1_4 < (a0_3.length : Int) then some ([.str ((a0_3.getD a1_4.toNat z55).f0)], []) else none else none else some ([.str [(63 : UInt8)]], []) else some ([.str [(63 : UInt8)]], []) := by kernel_rfl
noncomputable def l19_0 (k m : Nat) (x0 : List Int) (x3 : List UInt8) (x4 : Int) : Option (Ans N) := lp T 19 0 [1, 1, 0, 1, 0] k [] m ⟨[(0, .vsl none (.int .i64) x0), (3, .str x3), (4, .int .i64 x4)], []⟩
theorem l19_0_eq (k m : Nat) (x0 : List Int) (x3 : List UInt8) (x4 : Int) : l19_0 k (m + 1) x0 x3 x4 = if x4 < (x0.length : Int) then if 0 ≤ x4 then if x4 < (x0.length : Int) then (evF T k 16 [.int .i64 (x0.getD x4.toNat (0 : Int))] []).bind fun r => res16 r fun y1 => chk (strOK [(32 : UInt8)] y1) (chk (strOK x3 ([(32 : UInt8)] ++ y1)) (l19_0 k m x0 (x3 ++ ([(32 : UInt8)] ++ y1)) (wrap64 (x4 + (1 : Int))))) else none else none else some ([.str x3], []) := by kernel_rfl
theorem f19_eq (k : Nat) (a0 : List Int) : evF T (k + 1) 19 [.vsl none (.int .i64) a0] [] = l19_0 k k a0 [] (0 : Int) := by kernel_rfl
noncomputable def j7_0 (k : Nat) (x5 : List UInt8) (b0_0 : List UInt8) (b0_1 : List Int) (b0_2 : List S53) (b0_3 : List S55) (b0_4 : List Int) (b0_5 : List S40) (b1_0 : Int) (b1_1 : Int) (b1_2 : List Int) (b1_3 : Int) (b1_4 : Int) : Option (Ans N) := jn T 7 0 [1, 1, 1] k [] ⟨[(2, .bptr 0 0), (3, .bptr 1 0), (5, .str x5)], [some (.box 27 [.str b0_0, .vsl none (.int .i64) b0_1, .vsl none (.named 53) b0_2, .vsl none (.named 55) b0_3, .vsl none (.int .i64) b0_4, .vsl none (.named 40) b0_5]), some (.box 30 [.int .i64 b1_0, .int .i64 b1_1, .vsl none (.int .i64) b1_2, .int .u64 b1_3, .int .i64 b1_4])]⟩
noncomputable def j7_1 (k : Nat) (x5 : List UInt8) (b0_0 : List UInt8) (b0_1 : List Int) (b0_2 : List S53) (b0_3 : List S55) (b0_4 : List Int) (b0_5 : List S40) (b1_0 : Int) (b1_1 : Int) (b1_2 : List Int) (b1_3 : Int) (b1_4 : Int) : Option (Ans N) := jn T 7 0 [1, 1, 1, 1] k [] ⟨[(2, .bptr 0 0), (3, .bptr 1 0), (5, .str x5)], [some (.box 27 [.str b0_0, .vsl none (.int .i64) b0_1, .vsl none (.named 53) b0_2, .vsl none (.named 55) b0_3, .vsl none (.int .i64) b0_4, .vsl none (.named 40) b0_5]), some (.box 30 [.int .i64 b1_0, .int .i64 b1_1, .vsl none (.int .i64) b1_2, .int .u64 b1_3, .int .i64 b1_4])]⟩
theorem j7_1_eq (k : Nat) (x5 : List UInt8) (b0_0 : List UInt8) (b0_1 : List Int) (b0_2 : List S53) (b0_3 : List S55) (b0_4 : List Int) (b0_5 : List S40) (b1_0 : Int) (b1_1 : Int) (b1_2 : List Int) (b1_3 : Int) (b1_4 : Int) : j7_1 k  x5 b0_0 b0_1 b0_2 b0_3 b0_4 b0_5 b1_0 b1_1 b1_2 b1_3 b1_4 = if b1_0 ≥ (25 : Int) then if b1_0 ≤ (28 : Int) then (evF T k 18 [.agg [.str b0_0, .vsl none (.int .i64) b0_1, .vsl none (.named 53) b0_2, .vsl none (.named 55) b0_3, .vsl none (.int .i64) b0_4, .vsl none (.named 40) b0_5], .agg [.int .i64 b1_0, .int .i64 b1_1, .vsl none (.int .i64) b1_2, .int .u64 b1_3, .int .i64 b1_4]] []).bind fun r => res18 r fun y4 => chk (strOK [(32 : UInt8)] y4) (chk (strOK x5 ([(32 : UInt8)] ++ y4)) ((evF T k 19 [.vsl none (.int .i64) b1_2] []).bind fun r => res19 r fun y5 => chk (strOK (x5 ++ ([(32 : UInt8)] ++ y4)) y5) (some ([.str ((x5 ++ ([(32 : UInt8)] ++ y4)) ++ y5)], [])))) else (evF T k 19 [.vsl none (.int .i64) b1_2] []).bind fun r => res19 r fun y6 => chk (strOK x5 y6) (some ([.str (x5 ++ y6)], [])) else (evF T k 19 [.vsl none (.int .i64) b1_2] []).bind fun r => res19 r fun y7 => chk (strOK x5 y7) (some ([.str (x5 ++ y7)], [])) := by unfold j7_1; rw [jn_eq]; kernel_rfl
theorem j7_0_eq (k : Nat) (x5 : List UInt8) (b0_0 : List UInt8) (b0_1 : List Int) (b0_2 : List S53) (b0_3 : List S55) (b0_4 : List Int) (b0_5 : List S40) (b1_0 : Int) (b1_1 : Int) (b1_2 : List Int) (b1_3 : Int) (b1_4 : Int) : j7_0 k  x5 b0_0 b0_1 b0_2 b0_3 b0_4 b0_5 b1_0 b1_1 b1_2 b1_3 b1_4 = if b1_0 = (1 : Int) then (evF T k 17 [.int .u64 b1_3] []).bind fun r => res17 r fun y3 => chk (strOK [(32 : UInt8)] y3) (chk (strOK x5 ([(32 : UInt8)] ++ y3)) (j7_1 k (x5 ++ ([(32 : UInt8)] ++ y3)) b0_0 b0_1 b0_2 b0_3 b0_4 b0_5 b1_0 b1_1 b1_2 b1_3 b1_4)) else j7_1 k x5 b0_0 b0_1 b0_2 b0_3 b0_4 b0_5 b1_0 b1_1 b1_2 b1_3 b1_4 := by unfold j7_0; rw [jn_eq]; kernel_rfl
theorem f7_eq (k : Nat) (a0_0 : List UInt8) (a0_1 : List Int) (a0_2 : List S53) (a0_3 : List S55) (a0_4 : List Int) (a0_5 : List S40) (a1_0 : Int) (a1_1 : Int) (a1_2 : List Int) (a1_3 : Int) (a1_4 : Int) : evF T (k + 1) 7 [.agg [.str a0_0, .vsl none (.int .i64) a0_1, .vsl none (.named 53) a0_2, .vsl none (.named 55) a0_3, .vsl none (.int .i64) a0_4, .vsl none (.named 40) a0_5], .agg [.int .i64 a1_0, .int .i64 a1_1, .vsl none (.int .i64) a1_2, .int .u64 a1_3, .int .i64 a1_4]] [] = (evF T k 15 [.int .i64 a1_0] []).bind fun r => res15 r fun y1 => if a1_0 ≠ (26 : Int) then if a1_0 ≠ (28 : Int) then (evF T k 16 [.int .i64 a1_1] []).bind fun r => res16 r fun y2 => chk (strOK y2 [(32 : UInt8), (61 : UInt8), (32 : UInt8)]) (chk (strOK (y2 ++ [(32 : UInt8), (61 : UInt8), (32 : UInt8)]) y1) (j7_0 k ((y2 ++ [(32 : UInt8), (61 : UInt8), (32 : UInt8)]) ++ y1) a0_0 a0_1 a0_2 a0_3 a0_4 a0_5 a1_0 a1_1 a1_2 a1_3 a1_4)) else j7_0 k y1 a0_0 a0_1 a0_2 a0_3 a0_4 a0_5 a1_0 a1_1 a1_2 a1_3 a1_4 else j7_0 k y1 a0_0 a0_1 a0_2 a0_3 a0_4 a0_5 a1_0 a1_1 a1_2 a1_3 a1_4 := by kernel_rfl
noncomputable def l3_0 (k m : Nat) (x5 : Int) (b0_0 : List UInt8) (b0_1 : List Int) (b0_2 : List S53) (b0_3 : List S55) (b0_4 : List Int) (b0_5 : List S40) (b1_0 : Int) (b1_1 : Int) (b1_2 : List Int) (b1_3 : Int) (b1_4 : Int) : Option (Ans N) := lp T 3 0 [1, 1, 0, 1, 0] k [] m ⟨[(2, .bptr 0 0), (3, .bptr 1 0), (5, .int .i64 x5)], [some (.box 27 [.str b0_0, .vsl none (.int .i64) b0_1, .vsl none (.named 53) b0_2, .vsl none (.named 55) b0_3, .vsl none (.int .i64) b0_4, .vsl none (.named 40) b0_5]), some (.box 30 [.int .i64 b1_0, .int .i64 b1_1, .vsl none (.int .i64) b1_2, .int .u64 b1_3, .int .i64 b1_4])]⟩
theorem l3_0_eq (k m : Nat) (x5 : Int) (b0_0 : List UInt8) (b0_1 : List Int) (b0_2 : List S53) (b0_3 : List S55) (b0_4 : List Int) (b0_5 : List S40) (b1_0 : Int) (b1_1 : Int) (b1_2 : List Int) (b1_3 : Int) (b1_4 : Int) : l3_0 k (m + 1) x5 b0_0 b0_1 b0_2 b0_3 b0_4 b0_5 b1_0 b1_1 b1_2 b1_3 b1_4 = if x5 < (b1_2.length : Int) then if 0 ≤ x5 then if x5 < (b1_2.length : Int) then if (b1_2.getD x5.toNat (0 : Int)) < (0 : Int) then some ([.bool true], []) else l3_0 k m (wrap64 (x5 + (1 : Int))) b0_0 b0_1 b0_2 b0_3 b0_4 b0_5 b1_0 b1_1 b1_2 b1_3 b1_4 else none else none else (evF T k 6 [.agg [.str b0_0, .vsl none (.int .i64) b0_1, .vsl none (.named 53) b0_2, .vsl none (.named 55) b0_3, .vsl none (.int .i64) b0_4, .vsl none (.named 40) b0_5], .agg [.int .i64 b1_0, .int .i64 b1_1, .vsl none (.int .i64) b1_2, .int .u64 b1_3, .int .i64 b1_4]] []).bind fun r => res6 r fun y7 => (evF T k 7 [.agg [.str b0_0, .vsl none (.int .i64) b0_1, .vsl none (.named 53) b0_2, .vsl none (.named 55) b0_3, .vsl none (.int .i64) b0_4, .vsl none (.named 40) b0_5], .agg [.int .i64 b1_0, .int .i64 b1_1, .vsl none (.int .i64) b1_2, .int .u64 b1_3, .int .i64 b1_4]] []).bind fun r => res7 r fun y8 => some ([.bool (decide (y7 = y8))], []) := by kernel_rfl
theorem f3_eq (k : Nat) (a0_0 : List UInt8) (a0_1 : List Int) (a0_2 : List S53) (a0_3 : List S55) (a0_4 : List Int) (a0_5 : List S40) (a1_0 : Int) (a1_1 : Int) (a1_2 : List Int) (a1_3 : Int) (a1_4 : Int) : evF T (k + 1) 3 [.agg [.str a0_0, .vsl none (.int .i64) a0_1, .vsl none (.named 53) a0_2, .vsl none (.named 55) a0_3, .vsl none (.int .i64) a0_4, .vsl none (.named 40) a0_5], .agg [.int .i64 a1_0, .int .i64 a1_1, .vsl none (.int .i64) a1_2, .int .u64 a1_3, .int .i64 a1_4]] [] = (evF T k 4 [] []).bind fun r => res4 r fun y1 => if (!y1) = true then (evF T k 4 [] []).bind fun r => res4 r fun y2 => some ([.bool y2], []) else (evF T k 5 [.agg [.str a0_0, .vsl none (.int .i64) a0_1, .vsl none (.named 53) a0_2, .vsl none (.named 55) a0_3, .vsl none (.int .i64) a0_4, .vsl none (.named 40) a0_5]] []).bind fun r => res5 r fun y3 => if (!y3) = true then (evF T k 4 [] []).bind fun r => res4 r fun y4 => some ([.bool y4], []) else if (a1_2.length : Int) > (20 : Int) then (evF T k 4 [] []).bind fun r => res4 r fun y5 => some ([.bool y5], []) else if a1_1 < (-1 : Int) then (evF T k 4 [] []).bind fun r => res4 r fun y6 => some ([.bool y6], []) else l3_0 k k (0 : Int) a0_0 a0_1 a0_2 a0_3 a0_4 a0_5 a1_0 a1_1 a1_2 a1_3 a1_4 := by kernel_rfl
end Go.Proofs.YtflgegjljcpedaaDoor
