import Derived.Test.YtpcieagmnllimaaDoorVm2
import Derived.Test.YtpcieagmnllimaaDoorProg
import Derived.Test.YtpcieagmnllimaaDoorD
import Derived.Lib.Bytealg
import Derived.Lib.AtoiAll
import Derived.Lib.ItoaNum
import Derived.Lib.Strings
import Derived.Lib.Join
set_option linter.all false
namespace Go.Proofs.YtpcieagmnllimaaDoor
open Go Go.RowKit Go.Vm
/-! printed by gen3.py -/
structure S29 where
  f0 : Int
  f1 : List UInt8
  f2 : Int
  f3 : Int
  f4 : Int
def z29 : S29 := ⟨(0 : Int), [], (0 : Int), (0 : Int), (0 : Int)⟩
def N : Nat → Type := fun i => match i with
  | 29 => S29
  | _ => Unit
def enc29 (x : S29) : List (PV N) := [.int .i64 x.f0, .str x.f1, .int .u64 x.f2, .int .i64 x.f3, .int .i64 x.f4]
def dec29 : List (PV N) → Option S29
  | [v0, v1, v2, v3, v4] => (decI .i64 v0).bind fun x0 => (decS v1).bind fun x1 => (decI .u64 v2).bind fun x2 => (decI .i64 v3).bind fun x3 => (decI .i64 v4).bind fun x4 => some ⟨x0, x1, x2, x3, x4⟩
  | _ => none
theorem dec29_ok {x : S29} {cs : List (PV N)} (h : dec29 cs = some x) {E : Enc N} {S : Stab} {w : World} {ρ : Rho} {vs : List Value} (hv : VRs E S w ρ cs vs) : VRs E S w noRho (enc29 x) vs := by
  unfold dec29 at h
  split at h
  · obtain ⟨x0, h0, h⟩ := Option.bind_eq_some_iff.1 h
    obtain ⟨x1, h1, h⟩ := Option.bind_eq_some_iff.1 h
    obtain ⟨x2, h2, h⟩ := Option.bind_eq_some_iff.1 h
    obtain ⟨x3, h3, h⟩ := Option.bind_eq_some_iff.1 h
    obtain ⟨x4, h4, h⟩ := Option.bind_eq_some_iff.1 h
    injection h with h; subst h
    rcases hv with _ | ⟨_, _, _, _, g0, hv⟩; rcases hv with _ | ⟨_, _, _, _, g1, hv⟩; rcases hv with _ | ⟨_, _, _, _, g2, hv⟩; rcases hv with _ | ⟨_, _, _, _, g3, hv⟩; rcases hv with _ | ⟨_, _, _, _, g4, hv⟩; cases hv
    exact .cons _ _ _ _ (decI_VR h0 g0) (.cons _ _ _ _ (decS_VR h1 g1) (.cons _ _ _ _ (decI_VR h2 g2) (.cons _ _ _ _ (decI_VR h3 g3) (.cons _ _ _ _ (decI_VR h4 g4) (.nil)))))
  · exact absurd h (by simp)
theorem neN (i : Nat) : Nonempty (N i) := by
  unfold N; split <;> first | exact ⟨z29⟩ | exact ⟨()⟩
noncomputable def zN : (i : Nat) → N i
  | 29 => z29
  | n => Classical.choice (neN n)
noncomputable def E : Enc N where
  enc := fun i => match i with
    | 29 => fun x => enc29 x
    | _ => fun _ => []
  dec := fun i cs => if h : i = 29 then @Eq.rec Nat 29 (fun j _ => Option (N j)) (dec29 cs) i h.symm else none
  z := zN
  size := fun i => match i with
    | 29 => 5
    | _ => 0
theorem E_dec (i : Nat) (n29 : i ≠ 29) (cs : List (PV N)) : E.dec i cs = none := by
  unfold E; dsimp only; rw [dif_neg n29]
theorem E_enc (i : Nat) (n29 : i ≠ 29) (x : N i) : E.enc i x = [] ∧ E.size i = 0 := by
  unfold E; dsimp only; refine ⟨?_, ?_⟩ <;> split <;> first | contradiction | rfl
theorem encOK : EncOK E where
  dec := by
    intro i cs x h S w ρ vs hv
    by_cases n29 : i = 29
    · subst n29; exact dec29_ok h hv
    rw [E_dec i n29] at h; exact absurd h (by simp)
  size := by
    intro i x
    by_cases n29 : i = 29
    · subst n29; exact rfl
    rw [(E_enc i n29 x).1, (E_enc i n29 x).2]; rfl
  cell := by
    intro i x
    by_cases n29 : i = 29
    · subst n29; exact rfl
    rw [(E_enc i n29 x).1]; rfl
def tcT : TypeId → Option TC := fun t => match t with
  | 3 => some (.int .i64)
  | 4 => some .bool
  | 5 => some (.int .u8)
  | 9 => some .str
  | 27 => some (.int .u64)
  | 29 => some (.named 29)
  | 32 => some (.list .str)
  | _ => none
def zvT : TypeId → List (PV N) := fun t => match t with
  | 3 => [.int .i64 (0 : Int)]
  | 5 => [.int .u8 (0 : Int)]
  | 9 => [.str []]
  | 27 => [.int .u64 (0 : Int)]
  | 29 => [.int .i64 (0 : Int), .str [], .int .u64 (0 : Int), .int .i64 (0 : Int), .int .i64 (0 : Int)]
  | 43 => [.int .i64 (0 : Int), .bool false]
  | _ => []
def annT : FuncId → Nat → Option Ann := fun f r => match f, r with
  | 3, 8 => some ⟨[3, 6, 9], [], []⟩
  | 4, 8 => some ⟨[0, 3, 6, 7, 8], [], []⟩
  | 4, 13 => some ⟨[0, 3, 6, 7, 8, 9], [], []⟩
  | 5, 8 => some ⟨[1, 5, 8, 9], [], []⟩
  | 5, 15 => some ⟨[1, 5, 8, 9, 10], [], []⟩
  | 6, 5 => some ⟨[0, 1, 2, 7, 8], [], []⟩
  | 6, 9 => some ⟨[0, 2, 7, 32, 33, 34], [], []⟩
  | 6, 13 => some ⟨[0, 2, 7, 10, 11, 12, 32, 33, 34], [], []⟩
  | 6, 18 => some ⟨[0, 2, 7, 10, 11, 32, 33, 34], [], []⟩
  | 6, 21 => some ⟨[0, 2, 7, 10, 13, 32, 33, 34], [], []⟩
  | 6, 23 => some ⟨[0, 2, 7, 13, 32, 33, 34], [], []⟩
  | 7, 4 => some ⟨[0, 3], [], []⟩
  | 7, 14 => some ⟨[0, 4, 6, 7], [], []⟩
  | 8, 5 => some ⟨[0, 1, 5, 30, 31], [], []⟩
  | 12, 6 => some ⟨[0, 5, 6, 7, 8], [], []⟩
  | 13, 6 => some ⟨[0, 5, 6, 7, 8], [], []⟩
  | 13, 8 => some ⟨[0, 5, 6, 7, 8], [], []⟩
  | 13, 15 => some ⟨[0, 5, 6, 7, 8, 9, 10], [], []⟩
  | 13, 34 => some ⟨[0, 5, 6, 7, 8, 9, 10], [], []⟩
  | 14, 1 => some ⟨[0, 1], [], []⟩
  | 14, 6 => some ⟨[0, 1], [], []⟩
  | 15, 3 => some ⟨[0, 3, 4], [], []⟩
  | 16, 4 => some ⟨[0, 1, 5], [], []⟩
  | 18, 4 => some ⟨[0, 1, 5], [], []⟩
  | 18, 6 => some ⟨[0, 1, 5], [], []⟩
  | 21, 4 => some ⟨[0, 2, 3], [], []⟩
  | 21, 7 => some ⟨[0, 2, 3, 4], [], []⟩
  | 25, 3 => some ⟨[3, 6, 7, 8], [], []⟩
  | 26, 3 => some ⟨[0, 3, 4], [], []⟩
  | 26, 7 => some ⟨[0, 3, 4], [], []⟩
  | 27, 1 => some ⟨[0, 1], [], []⟩
  | 31, 7 => some ⟨[0, 1, 7, 8], [], []⟩
  | 31, 8 => some ⟨[0, 1, 7, 8, 9, 10, 11], [], []⟩
  | 31, 12 => some ⟨[0, 1, 7, 8, 9, 10, 11, 12], [], []⟩
  | 32, 2 => some ⟨[0, 1, 5], [], []⟩
  | 38, 2 => some ⟨[0, 3], [], []⟩
  | 42, 1 => some ⟨[0, 1, 2], [], []⟩
  | 55, 2 => some ⟨[0, 1, 7, 8], [], []⟩
  | _, _ => none
def finT : FuncId → Ann := fun f => match f with
  | 3 => ⟨[], [0], []⟩
  | 4 => ⟨[], [0], []⟩
  | 5 => ⟨[], [0], []⟩
  | 6 => ⟨[], [0], []⟩
  | 7 => ⟨[], [0], []⟩
  | 8 => ⟨[], [0], []⟩
  | 9 => ⟨[], [0], []⟩
  | 10 => ⟨[], [0], []⟩
  | 11 => ⟨[], [0], []⟩
  | 12 => ⟨[], [0, 1, 2], []⟩
  | 13 => ⟨[], [0, 1, 2], []⟩
  | 14 => ⟨[], [0], []⟩
  | 15 => ⟨[], [0], []⟩
  | 16 => ⟨[], [0], []⟩
  | 17 => ⟨[], [0], []⟩
  | 18 => ⟨[], [0], []⟩
  | 19 => ⟨[], [0], []⟩
  | 20 => ⟨[], [0, 1], []⟩
  | 21 => ⟨[], [0], []⟩
  | 22 => ⟨[], [0], []⟩
  | 23 => ⟨[], [0], []⟩
  | 24 => ⟨[], [0], []⟩
  | 25 => ⟨[], [0], []⟩
  | 26 => ⟨[], [0], []⟩
  | 27 => ⟨[], [0], []⟩
  | 28 => ⟨[], [0, 1], []⟩
  | 30 => ⟨[], [0], []⟩
  | 31 => ⟨[], [0, 1, 2], []⟩
  | 32 => ⟨[], [0], []⟩
  | 33 => ⟨[], [0], []⟩
  | 34 => ⟨[], [0], []⟩
  | 37 => ⟨[], [0], []⟩
  | 38 => ⟨[], [0], []⟩
  | 42 => ⟨[], [0], []⟩
  | 43 => ⟨[], [0], []⟩
  | 44 => ⟨[], [0], []⟩
  | 45 => ⟨[], [0], []⟩
  | 46 => ⟨[], [0], []⟩
  | 47 => ⟨[], [0, 1, 2], []⟩
  | 48 => ⟨[], [0], []⟩
  | 55 => ⟨[], [0], []⟩
  | 61 => ⟨[], [0, 1], []⟩
  | 62 => ⟨[], [0], []⟩
  | _ => ⟨[], [], []⟩
def ownT : FuncId → List Nat := fun f => match f with
  | _ => []
def sigT : FuncId → Nat → Option Sig := fun f n => match f, n with
  | 3, 0 => some ⟨[.val .bool], []⟩
  | 4, 0 => some ⟨[.val .bool], []⟩
  | 5, 0 => some ⟨[.val .bool], []⟩
  | 6, 0 => some ⟨[.val .bool], []⟩
  | 7, 0 => some ⟨[.val .bool], []⟩
  | 8, 0 => some ⟨[.val .bool], []⟩
  | 9, 0 => some ⟨[.val .bool], []⟩
  | 10, 0 => some ⟨[.val .bool], []⟩
  | 11, 0 => some ⟨[.val .bool], []⟩
  | 12, 0 => some ⟨[.val (.list (.named 29)), .val (.int .i64), .val (.int .i64)], []⟩
  | 13, 0 => some ⟨[.val (.list (.named 29)), .val (.int .i64), .val (.int .i64)], []⟩
  | 14, 0 => some ⟨[.val (.int .i64)], []⟩
  | 15, 0 => some ⟨[.val .str], []⟩
  | 16, 0 => some ⟨[.val .bool], []⟩
  | 17, 0 => some ⟨[.val .bool], []⟩
  | 18, 0 => some ⟨[.val (.int .i64)], []⟩
  | 19, 0 => some ⟨[.val .bool], []⟩
  | 20, 0 => some ⟨[.agg [.int .i64, .bool], .val .bool], []⟩
  | 21, 0 => some ⟨[.agg [.int .i64, .bool]], []⟩
  | 22, 0 => some ⟨[.val .bool], []⟩
  | 23, 0 => some ⟨[.val .str], []⟩
  | 24, 0 => some ⟨[.val .str], []⟩
  | 25, 0 => some ⟨[.val .str], []⟩
  | 26, 0 => some ⟨[.val .str], []⟩
  | 27, 0 => some ⟨[.val (.int .i64)], []⟩
  | 28, 0 => some ⟨[.agg [.int .i64, .str, .int .u64, .int .i64, .int .i64], .val (.int .i64)], []⟩
  | 29, 0 => some ⟨[.val (.int .i64)], []⟩
  | 30, 0 => some ⟨[.val .bool], []⟩
  | 31, 0 => some ⟨[.val (.int .u64), .val (.int .i64), .val (.int .i64)], []⟩
  | 32, 0 => some ⟨[.val .bool], []⟩
  | 33, 0 => some ⟨[.val .bool], []⟩
  | 34, 0 => some ⟨[.val (.list .str)], []⟩
  | 35, 0 => some ⟨[.val (.int .i64), .err], []⟩
  | 36, 0 => some ⟨[.val .str], []⟩
  | 37, 0 => some ⟨[.val .bool], []⟩
  | 38, 0 => some ⟨[.val .str], []⟩
  | 39, 0 => some ⟨[.val .str], []⟩
  | 40, 0 => some ⟨[.val (.int .i64)], []⟩
  | 41, 0 => some ⟨[.val .bool], []⟩
  | 42, 0 => some ⟨[.val (.int .i64)], []⟩
  | 42, 1 => some ⟨[.val (.int .i64)], [.box [.val (.int .i64)]]⟩
  | 43, 0 => some ⟨[.val .bool], []⟩
  | 44, 0 => some ⟨[.val .bool], []⟩
  | 45, 0 => some ⟨[.val .bool], []⟩
  | 46, 0 => some ⟨[.val .bool], []⟩
  | 47, 0 => some ⟨[.val (.int .i64), .val (.int .u64), .val (.int .i64)], []⟩
  | 48, 0 => some ⟨[.val (.int .i64)], []⟩
  | 55, 0 => some ⟨[.val (.int .i64)], []⟩
  | 61, 0 => some ⟨[.val (.int .i64), .val (.int .i64)], []⟩
  | 62, 1 => some ⟨[.val .bool], [.box [.val (.int .i64)]]⟩
  | 63, 0 => some ⟨[.val (.int .u64), .err], []⟩
  | _, _ => none
def cutT : FuncId → Nat → Bool := fun f r => match f, r with
  | 5, 15 => true
  | 6, 18 => true
  | 6, 21 => true
  | 6, 23 => true
  | 7, 14 => true
  | 13, 34 => true
  | 18, 4 => true
  | 18, 6 => true
  | 26, 7 => true
  | 31, 7 => true
  | 31, 12 => true
  | _, _ => false
def inpT : FuncId → Option (Inp N) := fun f => match f with
  | _ => none
/-! ### what the library's functions answer -/
def digitsOk (b : Nat) (l : List UInt8) : Bool := !l.isEmpty && l.all (fun c => Nat.blt (dv c.toNat) b) && Nat.ble l.length 281474976710656
def xCount (args : List (PV N)) (hp : Heap N) : Option (Ans N) :=
  match args, hp with
  | [.str s, .str [c]], [] => some ([.int .i64 (Lib.countByte s c : Nat)], [])
  | _, _ => none
def xAtoi (args : List (PV N)) (hp : Heap N) : Option (Ans N) :=
  match args, hp with
  | [.str s], [] => bif Nat.ble s.length 281474976710656 then
      (match Lib.atoiAll s with
      | .ok v => some ([.int .i64 v, .nilif], [])
      | .range => some ([.int .i64 (Lib.atoiSat s), .iface 0 .bad], [])
      | _ => some ([.int .i64 0, .iface 0 .bad], [])) else none
  | _, _ => none
def xItoa (args : List (PV N)) (hp : Heap N) : Option (Ans N) :=
  match args, hp with
  | [.int .i64 n], [] => if 0 ≤ n ∧ n < 100 then some ([.str (Lib.decDigits n.toNat)], []) else none
  | _, _ => none
def xIndexByte (args : List (PV N)) (hp : Heap N) : Option (Ans N) :=
  match args, hp with
  | [.str s, .int .u8 c], [] => some ([.int .i64 (Lib.indexByte s c.toNat.toUInt8)], [])
  | _, _ => none
def xHasPrefix (args : List (PV N)) (hp : Heap N) : Option (Ans N) :=
  match args, hp with
  | [.str s, .str p], [] => some ([.bool (Lib.hasPrefix s p)], [])
  | _, _ => none
def xParse (args : List (PV N)) (hp : Heap N) : Option (Ans N) :=
  match args, hp with
  | [.str s, .int .i64 b, .int .i64 k], [] => if (b = 2 ∨ b = 10 ∨ b = 16) ∧ k = 64 ∧ digitsOk b.toNat s = true then
      (if valB b.toNat 0 s < 18446744073709551616 then some ([.int .u64 (valB b.toNat 0 s : Nat), .nilif], []) else some ([.int .u64 18446744073709551615, .iface 0 .bad], [])) else none
  | _, _ => none
def xJoin (args : List (PV N)) (hp : Heap N) : Option (Ans N) :=
  match args, hp with
  | [.vsl _ .str l, .str sep], [] => bif Nat.ble (List.length l) 140737488355328 && Nat.ble (Lib.join l sep).length 140737488355328 then some ([.str (Lib.join l sep)], []) else none
  | _, _ => none
def extT : FuncId → Option (List (PV N) → Heap N → Option (List (PV N) × Heap N)) := fun f => match f with
  | 29 => some xCount
  | 35 => some xAtoi
  | 36 => some xItoa
  | 39 => some xJoin
  | 40 => some xIndexByte
  | 41 => some xHasPrefix
  | 63 => some xParse
  | _ => none
/-- Package variables: strconv.ErrSyntax, strconv.ErrRange. -/
def glT : List (Nat × (Value → Prop)) := [(1, fun v => v = .nilIface ∨ ∃ te pe, v = .iface te pe), (2, fun v => v = .nilIface ∨ ∃ te pe, v = .iface te pe)]
noncomputable def T : Tbl N := ⟨Go.Proofs.Tryd.prog, E, tcT, zvT, annT, finT, ownT, sigT, extT, inpT, cutT, glT⟩
def res11 {R : Type} (r : Ans N) (K : Bool → Option R) : Option R := nilR r.2 (consR r.1 (fun v1 q2 => asB v1 (fun x3 => nilR q2 (K x3))))
theorem res11_eq {R : Type} (x0 : Bool) (K : Bool → Option R) : res11 ([.bool x0], []) K = K x0 := rfl
def res12 {R : Type} (r : Ans N) (K : List S29 → Int → Int → Option R) : Option R := nilR r.2 (consR r.1 (fun v1 q2 => asL (.named 29) v1 (fun x3 => consR q2 (fun v4 q5 => asI .i64 v4 (fun x6 => consR q5 (fun v7 q8 => asI .i64 v7 (fun x9 => nilR q8 (K x3 x6 x9))))))))
theorem res12_eq {R : Type} (x0 : List S29) (x1 : Int) (x2 : Int) (K : List S29 → Int → Int → Option R) : res12 ([.vsl none (.named 29) x0, .int .i64 x1, .int .i64 x2], []) K = K x0 x1 x2 := rfl
def res13 {R : Type} (r : Ans N) (K : List S29 → Int → Int → Option R) : Option R := nilR r.2 (consR r.1 (fun v1 q2 => asL (.named 29) v1 (fun x3 => consR q2 (fun v4 q5 => asI .i64 v4 (fun x6 => consR q5 (fun v7 q8 => asI .i64 v7 (fun x9 => nilR q8 (K x3 x6 x9))))))))
theorem res13_eq {R : Type} (x0 : List S29) (x1 : Int) (x2 : Int) (K : List S29 → Int → Int → Option R) : res13 ([.vsl none (.named 29) x0, .int .i64 x1, .int .i64 x2], []) K = K x0 x1 x2 := rfl
def res14 {R : Type} (r : Ans N) (K : Int → Option R) : Option R := nilR r.2 (consR r.1 (fun v1 q2 => asI .i64 v1 (fun x3 => nilR q2 (K x3))))
theorem res14_eq {R : Type} (x0 : Int) (K : Int → Option R) : res14 ([.int .i64 x0], []) K = K x0 := rfl
def res15 {R : Type} (r : Ans N) (K : List UInt8 → Option R) : Option R := nilR r.2 (consR r.1 (fun v1 q2 => asS v1 (fun x3 => nilR q2 (K x3))))
theorem res15_eq {R : Type} (x0 : List UInt8) (K : List UInt8 → Option R) : res15 ([.str x0], []) K = K x0 := rfl
def res16 {R : Type} (r : Ans N) (K : Bool → Option R) : Option R := nilR r.2 (consR r.1 (fun v1 q2 => asB v1 (fun x3 => nilR q2 (K x3))))
theorem res16_eq {R : Type} (x0 : Bool) (K : Bool → Option R) : res16 ([.bool x0], []) K = K x0 := rfl
def res17 {R : Type} (r : Ans N) (K : Bool → Option R) : Option R := nilR r.2 (consR r.1 (fun v1 q2 => asB v1 (fun x3 => nilR q2 (K x3))))
theorem res17_eq {R : Type} (x0 : Bool) (K : Bool → Option R) : res17 ([.bool x0], []) K = K x0 := rfl
def res18 {R : Type} (r : Ans N) (K : Int → Option R) : Option R := nilR r.2 (consR r.1 (fun v1 q2 => asI .i64 v1 (fun x3 => nilR q2 (K x3))))
theorem res18_eq {R : Type} (x0 : Int) (K : Int → Option R) : res18 ([.int .i64 x0], []) K = K x0 := rfl
def res19 {R : Type} (r : Ans N) (K : Bool → Option R) : Option R := nilR r.2 (consR r.1 (fun v1 q2 => asB v1 (fun x3 => nilR q2 (K x3))))
theorem res19_eq {R : Type} (x0 : Bool) (K : Bool → Option R) : res19 ([.bool x0], []) K = K x0 := rfl
def res20 {R : Type} (r : Ans N) (K : Int → Bool → Bool → Option R) : Option R := nilR r.2 (consR r.1 (fun v1 q2 => asA v1 (fun q3 => consR q3 (fun v4 q5 => asI .i64 v4 (fun x6 => consR q5 (fun v7 q8 => asB v7 (fun x9 => nilR q8 (consR q2 (fun v10 q11 => asB v10 (fun x12 => nilR q11 (K x6 x9 x12)))))))))))
theorem res20_eq {R : Type} (x0 : Int) (x1 : Bool) (x2 : Bool) (K : Int → Bool → Bool → Option R) : res20 ([.agg [.int .i64 x0, .bool x1], .bool x2], []) K = K x0 x1 x2 := rfl
def res21 {R : Type} (r : Ans N) (K : Int → Bool → Option R) : Option R := nilR r.2 (consR r.1 (fun v1 q2 => asA v1 (fun q3 => consR q3 (fun v4 q5 => asI .i64 v4 (fun x6 => consR q5 (fun v7 q8 => asB v7 (fun x9 => nilR q8 (nilR q2 (K x6 x9)))))))))
theorem res21_eq {R : Type} (x0 : Int) (x1 : Bool) (K : Int → Bool → Option R) : res21 ([.agg [.int .i64 x0, .bool x1]], []) K = K x0 x1 := rfl
def res22 {R : Type} (r : Ans N) (K : Bool → Option R) : Option R := nilR r.2 (consR r.1 (fun v1 q2 => asB v1 (fun x3 => nilR q2 (K x3))))
theorem res22_eq {R : Type} (x0 : Bool) (K : Bool → Option R) : res22 ([.bool x0], []) K = K x0 := rfl
def res23 {R : Type} (r : Ans N) (K : List UInt8 → Option R) : Option R := nilR r.2 (consR r.1 (fun v1 q2 => asS v1 (fun x3 => nilR q2 (K x3))))
theorem res23_eq {R : Type} (x0 : List UInt8) (K : List UInt8 → Option R) : res23 ([.str x0], []) K = K x0 := rfl
def res24 {R : Type} (r : Ans N) (K : List UInt8 → Option R) : Option R := nilR r.2 (consR r.1 (fun v1 q2 => asS v1 (fun x3 => nilR q2 (K x3))))
theorem res24_eq {R : Type} (x0 : List UInt8) (K : List UInt8 → Option R) : res24 ([.str x0], []) K = K x0 := rfl
def res25 {R : Type} (r : Ans N) (K : List UInt8 → Option R) : Option R := nilR r.2 (consR r.1 (fun v1 q2 => asS v1 (fun x3 => nilR q2 (K x3))))
theorem res25_eq {R : Type} (x0 : List UInt8) (K : List UInt8 → Option R) : res25 ([.str x0], []) K = K x0 := rfl
def res26 {R : Type} (r : Ans N) (K : List UInt8 → Option R) : Option R := nilR r.2 (consR r.1 (fun v1 q2 => asS v1 (fun x3 => nilR q2 (K x3))))
theorem res26_eq {R : Type} (x0 : List UInt8) (K : List UInt8 → Option R) : res26 ([.str x0], []) K = K x0 := rfl
def res27 {R : Type} (r : Ans N) (K : Int → Option R) : Option R := nilR r.2 (consR r.1 (fun v1 q2 => asI .i64 v1 (fun x3 => nilR q2 (K x3))))
theorem res27_eq {R : Type} (x0 : Int) (K : Int → Option R) : res27 ([.int .i64 x0], []) K = K x0 := rfl
def res28 {R : Type} (r : Ans N) (K : Int → List UInt8 → Int → Int → Int → Int → Option R) : Option R := nilR r.2 (consR r.1 (fun v1 q2 => asA v1 (fun q3 => consR q3 (fun v4 q5 => asI .i64 v4 (fun x6 => consR q5 (fun v7 q8 => asS v7 (fun x9 => consR q8 (fun v10 q11 => asI .u64 v10 (fun x12 => consR q11 (fun v13 q14 => asI .i64 v13 (fun x15 => consR q14 (fun v16 q17 => asI .i64 v16 (fun x18 => nilR q17 (consR q2 (fun v19 q20 => asI .i64 v19 (fun x21 => nilR q20 (K x6 x9 x12 x15 x18 x21)))))))))))))))))
theorem res28_eq {R : Type} (x0 : Int) (x1 : List UInt8) (x2 : Int) (x3 : Int) (x4 : Int) (x5 : Int) (K : Int → List UInt8 → Int → Int → Int → Int → Option R) : res28 ([.agg [.int .i64 x0, .str x1, .int .u64 x2, .int .i64 x3, .int .i64 x4], .int .i64 x5], []) K = K x0 x1 x2 x3 x4 x5 := rfl
def res29 {R : Type} (r : Ans N) (K : Int → Option R) : Option R := nilR r.2 (consR r.1 (fun v1 q2 => asI .i64 v1 (fun x3 => nilR q2 (K x3))))
theorem res29_eq {R : Type} (x0 : Int) (K : Int → Option R) : res29 ([.int .i64 x0], []) K = K x0 := rfl
def res30 {R : Type} (r : Ans N) (K : Bool → Option R) : Option R := nilR r.2 (consR r.1 (fun v1 q2 => asB v1 (fun x3 => nilR q2 (K x3))))
theorem res30_eq {R : Type} (x0 : Bool) (K : Bool → Option R) : res30 ([.bool x0], []) K = K x0 := rfl
def res31 {R : Type} (r : Ans N) (K : Int → Int → Int → Option R) : Option R := nilR r.2 (consR r.1 (fun v1 q2 => asI .u64 v1 (fun x3 => consR q2 (fun v4 q5 => asI .i64 v4 (fun x6 => consR q5 (fun v7 q8 => asI .i64 v7 (fun x9 => nilR q8 (K x3 x6 x9))))))))
theorem res31_eq {R : Type} (x0 : Int) (x1 : Int) (x2 : Int) (K : Int → Int → Int → Option R) : res31 ([.int .u64 x0, .int .i64 x1, .int .i64 x2], []) K = K x0 x1 x2 := rfl
def res32 {R : Type} (r : Ans N) (K : Bool → Option R) : Option R := nilR r.2 (consR r.1 (fun v1 q2 => asB v1 (fun x3 => nilR q2 (K x3))))
theorem res32_eq {R : Type} (x0 : Bool) (K : Bool → Option R) : res32 ([.bool x0], []) K = K x0 := rfl
def res33 {R : Type} (r : Ans N) (K : Bool → Option R) : Option R := nilR r.2 (consR r.1 (fun v1 q2 => asB v1 (fun x3 => nilR q2 (K x3))))
theorem res33_eq {R : Type} (x0 : Bool) (K : Bool → Option R) : res33 ([.bool x0], []) K = K x0 := rfl
def res34 {R : Type} (r : Ans N) (K : List (List UInt8) → Option R) : Option R := nilR r.2 (consR r.1 (fun v1 q2 => asL .str v1 (fun x3 => nilR q2 (K x3))))
theorem res34_eq {R : Type} (x0 : List (List UInt8)) (K : List (List UInt8) → Option R) : res34 ([.vsl none .str x0], []) K = K x0 := rfl
def res35 {R : Type} (r : Ans N) (K : Int → Bool → Option R) : Option R := nilR r.2 (consR r.1 (fun v1 q2 => asI .i64 v1 (fun x3 => consR q2 (fun v4 q5 => asErr v4 (nilR q5 (K x3 true)) (nilR q5 (K x3 false))))))
theorem res35_eq0 {R : Type} (x0 : Int) (K : Int → Bool → Option R) : res35 ([.int .i64 x0, .iface 0 .bad], []) K = K x0 false := rfl
theorem res35_eq1 {R : Type} (x0 : Int) (K : Int → Bool → Option R) : res35 ([.int .i64 x0, .nilif], []) K = K x0 true := rfl
def res36 {R : Type} (r : Ans N) (K : List UInt8 → Option R) : Option R := nilR r.2 (consR r.1 (fun v1 q2 => asS v1 (fun x3 => nilR q2 (K x3))))
theorem res36_eq {R : Type} (x0 : List UInt8) (K : List UInt8 → Option R) : res36 ([.str x0], []) K = K x0 := rfl
def res37 {R : Type} (r : Ans N) (K : Bool → Option R) : Option R := nilR r.2 (consR r.1 (fun v1 q2 => asB v1 (fun x3 => nilR q2 (K x3))))
theorem res37_eq {R : Type} (x0 : Bool) (K : Bool → Option R) : res37 ([.bool x0], []) K = K x0 := rfl
def res38 {R : Type} (r : Ans N) (K : List UInt8 → Option R) : Option R := nilR r.2 (consR r.1 (fun v1 q2 => asS v1 (fun x3 => nilR q2 (K x3))))
theorem res38_eq {R : Type} (x0 : List UInt8) (K : List UInt8 → Option R) : res38 ([.str x0], []) K = K x0 := rfl
def res39 {R : Type} (r : Ans N) (K : List UInt8 → Option R) : Option R := nilR r.2 (consR r.1 (fun v1 q2 => asS v1 (fun x3 => nilR q2 (K x3))))
theorem res39_eq {R : Type} (x0 : List UInt8) (K : List UInt8 → Option R) : res39 ([.str x0], []) K = K x0 := rfl
def res40 {R : Type} (r : Ans N) (K : Int → Option R) : Option R := nilR r.2 (consR r.1 (fun v1 q2 => asI .i64 v1 (fun x3 => nilR q2 (K x3))))
theorem res40_eq {R : Type} (x0 : Int) (K : Int → Option R) : res40 ([.int .i64 x0], []) K = K x0 := rfl
def res41 {R : Type} (r : Ans N) (K : Bool → Option R) : Option R := nilR r.2 (consR r.1 (fun v1 q2 => asB v1 (fun x3 => nilR q2 (K x3))))
theorem res41_eq {R : Type} (x0 : Bool) (K : Bool → Option R) : res41 ([.bool x0], []) K = K x0 := rfl
def res42 {R : Type} (r : Ans N) (K : Int → Option R) : Option R := nilR r.2 (consR r.1 (fun v1 q2 => asI .i64 v1 (fun x3 => nilR q2 (K x3))))
theorem res42_eq {R : Type} (x0 : Int) (K : Int → Option R) : res42 ([.int .i64 x0], []) K = K x0 := rfl
def res42_1 {R : Type} (r : Ans N) (K : Int → Int → Option R) : Option R := consR r.2 (fun v1 q2 => asBox v1 (fun q3 => consR q3 (fun v4 q5 => asI .i64 v4 (fun x6 => nilR q5 (nilR q2 (consR r.1 (fun v7 q8 => asI .i64 v7 (fun x9 => nilR q8 (K x6 x9)))))))))
theorem res42_1_eq {R : Type} (x0 : Int) (x1 : Int) (K : Int → Int → Option R) : res42_1 ([.int .i64 x1], [some (.box [.int .i64 x0])]) K = K x0 x1 := rfl
def res43 {R : Type} (r : Ans N) (K : Bool → Option R) : Option R := nilR r.2 (consR r.1 (fun v1 q2 => asB v1 (fun x3 => nilR q2 (K x3))))
theorem res43_eq {R : Type} (x0 : Bool) (K : Bool → Option R) : res43 ([.bool x0], []) K = K x0 := rfl
def res44 {R : Type} (r : Ans N) (K : Bool → Option R) : Option R := nilR r.2 (consR r.1 (fun v1 q2 => asB v1 (fun x3 => nilR q2 (K x3))))
theorem res44_eq {R : Type} (x0 : Bool) (K : Bool → Option R) : res44 ([.bool x0], []) K = K x0 := rfl
def res45 {R : Type} (r : Ans N) (K : Bool → Option R) : Option R := nilR r.2 (consR r.1 (fun v1 q2 => asB v1 (fun x3 => nilR q2 (K x3))))
theorem res45_eq {R : Type} (x0 : Bool) (K : Bool → Option R) : res45 ([.bool x0], []) K = K x0 := rfl
def res46 {R : Type} (r : Ans N) (K : Bool → Option R) : Option R := nilR r.2 (consR r.1 (fun v1 q2 => asB v1 (fun x3 => nilR q2 (K x3))))
theorem res46_eq {R : Type} (x0 : Bool) (K : Bool → Option R) : res46 ([.bool x0], []) K = K x0 := rfl
def res47 {R : Type} (r : Ans N) (K : Int → Int → Int → Option R) : Option R := nilR r.2 (consR r.1 (fun v1 q2 => asI .i64 v1 (fun x3 => consR q2 (fun v4 q5 => asI .u64 v4 (fun x6 => consR q5 (fun v7 q8 => asI .i64 v7 (fun x9 => nilR q8 (K x3 x6 x9))))))))
theorem res47_eq {R : Type} (x0 : Int) (x1 : Int) (x2 : Int) (K : Int → Int → Int → Option R) : res47 ([.int .i64 x0, .int .u64 x1, .int .i64 x2], []) K = K x0 x1 x2 := rfl
def res48 {R : Type} (r : Ans N) (K : Int → Option R) : Option R := nilR r.2 (consR r.1 (fun v1 q2 => asI .i64 v1 (fun x3 => nilR q2 (K x3))))
theorem res48_eq {R : Type} (x0 : Int) (K : Int → Option R) : res48 ([.int .i64 x0], []) K = K x0 := rfl
def res55 {R : Type} (r : Ans N) (K : Int → Option R) : Option R := nilR r.2 (consR r.1 (fun v1 q2 => asI .i64 v1 (fun x3 => nilR q2 (K x3))))
theorem res55_eq {R : Type} (x0 : Int) (K : Int → Option R) : res55 ([.int .i64 x0], []) K = K x0 := rfl
def res61 {R : Type} (r : Ans N) (K : Int → Int → Option R) : Option R := nilR r.2 (consR r.1 (fun v1 q2 => asI .i64 v1 (fun x3 => consR q2 (fun v4 q5 => asI .i64 v4 (fun x6 => nilR q5 (K x3 x6))))))
theorem res61_eq {R : Type} (x0 : Int) (x1 : Int) (K : Int → Int → Option R) : res61 ([.int .i64 x0, .int .i64 x1], []) K = K x0 x1 := rfl
def res62_1 {R : Type} (r : Ans N) (K : Int → Bool → Option R) : Option R := consR r.2 (fun v1 q2 => asBox v1 (fun q3 => consR q3 (fun v4 q5 => asI .i64 v4 (fun x6 => nilR q5 (nilR q2 (consR r.1 (fun v7 q8 => asB v7 (fun x9 => nilR q8 (K x6 x9)))))))))
theorem res62_1_eq {R : Type} (x0 : Int) (x1 : Bool) (K : Int → Bool → Option R) : res62_1 ([.bool x1], [some (.box [.int .i64 x0])]) K = K x0 x1 := rfl
def res63 {R : Type} (r : Ans N) (K : Int → Bool → Option R) : Option R := nilR r.2 (consR r.1 (fun v1 q2 => asI .u64 v1 (fun x3 => consR q2 (fun v4 q5 => asErr v4 (nilR q5 (K x3 true)) (nilR q5 (K x3 false))))))
theorem res63_eq0 {R : Type} (x0 : Int) (K : Int → Bool → Option R) : res63 ([.int .u64 x0, .iface 0 .bad], []) K = K x0 false := rfl
theorem res63_eq1 {R : Type} (x0 : Int) (K : Int → Bool → Option R) : res63 ([.int .u64 x0, .nilif], []) K = K x0 true := rfl
theorem f43_eq (k : Nat) (a0 : Int) : evF T (k + 1) 43 [.int .u8 a0] [] = some ([.bool (decide (a0 ≠ (10 : Int)))], []) := by kernel_rfl
noncomputable def l42_0 (k m : Nat) (x0 : List UInt8) (x1 : Int) : Option (Ans N) := lp T 42 0 [1, 0, 0] k [] m ⟨[(0, .str x0), (1, .int .i64 x1), (2, .fn 43 [])], []⟩
theorem l42_0_eq (k m : Nat) (x0 : List UInt8) (x1 : Int) : l42_0 k (m + 1) x0 x1 = if x1 < (x0.length : Int) then if 0 ≤ x1 then if x1 < (x0.length : Int) then (evF T k 43 [.int .u8 (((x0.getD x1.toNat 0).toNat : Nat) : Int)] []).bind fun r => res43 r fun y1 => if y1 = true then l42_0 k m x0 (wrap64 (x1 + (1 : Int))) else some ([.int .i64 x1], []) else none else none else some ([.int .i64 x1], []) := by kernel_rfl
theorem f42_eq (k : Nat) (a0 : List UInt8) (a1 : Int) : evF T (k + 1) 42 [.str a0, .int .i64 a1, .fn 43 []] [] = l42_0 k k a0 a1 := by kernel_rfl
noncomputable def l27_0 (k m : Nat) (x0 : List UInt8) (x1 : Int) : Option (Ans N) := lp T 27 0 [1, 0, 1, 0, 0] k [] m ⟨[(0, .str x0), (1, .int .i64 x1)], []⟩
theorem l27_0_eq (k m : Nat) (x0 : List UInt8) (x1 : Int) : l27_0 k (m + 1) x0 x1 = if x1 < (x0.length : Int) then if 0 ≤ x1 then if x1 < (x0.length : Int) then (evF T k 40 [.str [(32 : UInt8), (9 : UInt8), (13 : UInt8), (10 : UInt8)], .int .u8 (((x0.getD x1.toNat 0).toNat : Nat) : Int)] []).bind fun r => res40 r fun y1 => if y1 ≥ (0 : Int) then l27_0 k m x0 (wrap64 (x1 + (1 : Int))) else if 0 ≤ (x0.length : Int) then if (x0.length : Int) ≤ (x0.length : Int) then if 0 ≤ x1 then if x1 ≤ (x0.length : Int) then (evF T k 41 [.str ((x0.take (x0.length : Int).toNat).drop x1.toNat), .str [(47 : UInt8), (47 : UInt8)]] []).bind fun r => res41 r fun y2 => if y2 = true then (evF T k 42 [.str x0, .int .i64 x1, .fn 43 []] []).bind fun r => res42 r fun y3 => l27_0 k m x0 y3 else some ([.int .i64 x1], []) else none else none else none else none else none else none else some ([.int .i64 x1], []) := by kernel_rfl
theorem f27_eq (k : Nat) (a0 : List UInt8) (a1 : Int) : evF T (k + 1) 27 [.str a0, .int .i64 a1] [] = l27_0 k k a0 a1 := by kernel_rfl
theorem f44_eq (k : Nat) (a0 : Int) : evF T (k + 1) 44 [.int .u8 a0] [] = if a0 ≥ (97 : Int) then if a0 ≤ (122 : Int) then some ([.bool true], []) else if a0 ≥ (65 : Int) then if a0 ≤ (90 : Int) then some ([.bool true], []) else some ([.bool (decide (a0 = (95 : Int)))], []) else some ([.bool (decide (a0 = (95 : Int)))], []) else if a0 ≥ (65 : Int) then if a0 ≤ (90 : Int) then some ([.bool true], []) else some ([.bool (decide (a0 = (95 : Int)))], []) else some ([.bool (decide (a0 = (95 : Int)))], []) := by kernel_rfl
theorem f46_eq (k : Nat) (a0 : Int) : evF T (k + 1) 46 [.int .u8 a0] [] = if a0 ≥ (48 : Int) then some ([.bool (decide (a0 ≤ (57 : Int)))], []) else some ([.bool false], []) := by kernel_rfl
theorem f45_eq (k : Nat) (a0 : Int) : evF T (k + 1) 45 [.int .u8 a0] [] = (evF T k 44 [.int .u8 a0] []).bind fun r => res44 r fun y1 => if y1 = true then some ([.bool true], []) else (evF T k 46 [.int .u8 a0] []).bind fun r => res46 r fun y2 => some ([.bool y2], []) := by kernel_rfl
noncomputable def l42v1_0 (k m : Nat) (x0 : List UInt8) (x1 : Int) : Option (Ans N) := lp T 42 0 [1, 0, 0] k [] m ⟨[(0, .str x0), (1, .int .i64 x1), (2, .fn 45 [])], []⟩
theorem l42v1_0_eq (k m : Nat) (x0 : List UInt8) (x1 : Int) : l42v1_0 k (m + 1) x0 x1 = if x1 < (x0.length : Int) then if 0 ≤ x1 then if x1 < (x0.length : Int) then (evF T k 45 [.int .u8 (((x0.getD x1.toNat 0).toNat : Nat) : Int)] []).bind fun r => res45 r fun y1 => if y1 = true then l42v1_0 k m x0 (wrap64 (x1 + (1 : Int))) else some ([.int .i64 x1], []) else none else none else some ([.int .i64 x1], []) := by kernel_rfl
theorem f42v1_eq (k : Nat) (a0 : List UInt8) (a1 : Int) : evF T (k + 1) 42 [.str a0, .int .i64 a1, .fn 45 []] [] = l42v1_0 k k a0 a1 := by kernel_rfl
theorem f20_eq (k : Nat) (a0 : List UInt8) : evF T (k + 1) 20 [.str a0] [] = if a0 = [(98 : UInt8), (111 : UInt8), (111 : UInt8), (108 : UInt8)] then some ([.agg [.int .i64 (1 : Int), .bool false], .bool true], []) else if (a0.length : Int) < (2 : Int) then some ([.agg [.int .i64 (0 : Int), .bool false], .bool false], []) else if 0 ≤ (0 : Int) then if (0 : Int) < (a0.length : Int) then if (((a0.getD (0 : Int).toNat 0).toNat : Nat) : Int) ≠ (117 : Int) then if 0 ≤ (0 : Int) then if (0 : Int) < (a0.length : Int) then if (((a0.getD (0 : Int).toNat 0).toNat : Nat) : Int) ≠ (115 : Int) then some ([.agg [.int .i64 (0 : Int), .bool false], .bool false], []) else if 0 ≤ (a0.length : Int) then if (a0.length : Int) ≤ (a0.length : Int) then if 0 ≤ (1 : Int) then if (1 : Int) ≤ (a0.length : Int) then (evF T k 35 [.str ((a0.take (a0.length : Int).toNat).drop (1 : Int).toNat)] []).bind fun r => res35 r fun y1 y2 => if y2 = true then if y1 < (1 : Int) then some ([.agg [.int .i64 (0 : Int), .bool false], .bool false], []) else if y1 > (64 : Int) then some ([.agg [.int .i64 (0 : Int), .bool false], .bool false], []) else (evF T k 36 [.int .i64 y1] []).bind fun r => res36 r fun y3 => if 0 ≤ (a0.length : Int) then if (a0.length : Int) ≤ (a0.length : Int) then if 0 ≤ (1 : Int) then if (1 : Int) ≤ (a0.length : Int) then if y3 ≠ ((a0.take (a0.length : Int).toNat).drop (1 : Int).toNat) then some ([.agg [.int .i64 (0 : Int), .bool false], .bool false], []) else if 0 ≤ (0 : Int) then if (0 : Int) < (a0.length : Int) then some ([.agg [.int .i64 y1, .bool (decide ((((a0.getD (0 : Int).toNat 0).toNat : Nat) : Int) = (115 : Int)))], .bool true], []) else none else none else none else none else none else none else some ([.agg [.int .i64 (0 : Int), .bool false], .bool false], []) else none else none else none else none else none else none else if 0 ≤ (a0.length : Int) then if (a0.length : Int) ≤ (a0.length : Int) then if 0 ≤ (1 : Int) then if (1 : Int) ≤ (a0.length : Int) then (evF T k 35 [.str ((a0.take (a0.length : Int).toNat).drop (1 : Int).toNat)] []).bind fun r => res35 r fun y4 y5 => if y5 = true then if y4 < (1 : Int) then some ([.agg [.int .i64 (0 : Int), .bool false], .bool false], []) else if y4 > (64 : Int) then some ([.agg [.int .i64 (0 : Int), .bool false], .bool false], []) else (evF T k 36 [.int .i64 y4] []).bind fun r => res36 r fun y6 => if 0 ≤ (a0.length : Int) then if (a0.length : Int) ≤ (a0.length : Int) then if 0 ≤ (1 : Int) then if (1 : Int) ≤ (a0.length : Int) then if y6 ≠ ((a0.take (a0.length : Int).toNat).drop (1 : Int).toNat) then some ([.agg [.int .i64 (0 : Int), .bool false], .bool false], []) else if 0 ≤ (0 : Int) then if (0 : Int) < (a0.length : Int) then some ([.agg [.int .i64 y4, .bool (decide ((((a0.getD (0 : Int).toNat 0).toNat : Nat) : Int) = (115 : Int)))], .bool true], []) else none else none else none else none else none else none else some ([.agg [.int .i64 (0 : Int), .bool false], .bool false], []) else none else none else none else none else none else none := by kernel_rfl
noncomputable def l55_0 (k m : Nat) (x0 : List (List UInt8)) (x1 : List UInt8) (x7 : Int) (x8 : Int) : Option (Ans N) := lp T 55 0 [1, 0, 1, 0] k [] m ⟨[(0, .vsl none .str x0), (1, .str x1), (7, .int .i64 x7), (8, .int .i64 x8)], []⟩
theorem l55_0_eq (k m : Nat) (x0 : List (List UInt8)) (x1 : List UInt8) (x7 : Int) (x8 : Int) : l55_0 k (m + 1) x0 x1 x7 x8 = if x8 < x7 then if 0 ≤ x8 then if x8 < (x0.length : Int) then if x1 = (x0.getD x8.toNat []) then some ([.int .i64 x8], []) else l55_0 k m x0 x1 x7 (wrap64 (x8 + (1 : Int))) else none else none else some ([.int .i64 (-1 : Int)], []) := by kernel_rfl
theorem f55_eq (k : Nat) (a0 : List (List UInt8)) (a1 : List UInt8) : evF T (k + 1) 55 [.vsl none .str a0, .str a1] [] = l55_0 k k a0 a1 (a0.length : Int) (0 : Int) := by kernel_rfl
theorem f37_eq (k : Nat) (a0 : List (List UInt8)) (a1 : List UInt8) : evF T (k + 1) 37 [.vsl none .str a0, .str a1] [] = (evF T k 55 [.vsl none .str a0, .str a1] []).bind fun r => res55 r fun y1 => some ([.bool (decide (y1 ≥ (0 : Int)))], []) := by kernel_rfl
theorem f22_eq (k : Nat) (a0 : List UInt8) : evF T (k + 1) 22 [.str a0] [] = (evF T k 20 [.str a0] []).bind fun r => res20 r fun y1 y2 y3 => if y3 = true then some ([.bool true], []) else (evF T k 37 [.vsl none .str [[(97 : UInt8), (115 : UInt8)], [(98 : UInt8), (108 : UInt8), (111 : UInt8), (99 : UInt8), (107 : UInt8), (115 : UInt8)], [(99 : UInt8), (111 : UInt8), (109 : UInt8), (112 : UInt8), (108 : UInt8), (101 : UInt8), (116 : UInt8), (101 : UInt8)], [(99 : UInt8), (121 : UInt8), (99 : UInt8), (108 : UInt8), (105 : UInt8), (99 : UInt8)], [(101 : UInt8), (108 : UInt8), (115 : UInt8), (101 : UInt8)], [(102 : UInt8), (97 : UInt8), (108 : UInt8), (115 : UInt8), (101 : UInt8)], [(102 : UInt8), (110 : UInt8)], [(102 : UInt8), (111 : UInt8), (114 : UInt8)], [(105 : UInt8), (102 : UInt8)], [(105 : UInt8), (110 : UInt8)], [(107 : UInt8), (101 : UInt8), (114 : UInt8), (110 : UInt8), (101 : UInt8), (108 : UInt8)], [(108 : UInt8), (101 : UInt8), (116 : UInt8)], [(111 : UInt8), (117 : UInt8), (116 : UInt8)], [(114 : UInt8), (101 : UInt8), (99 : UInt8), (118 : UInt8)], [(114 : UInt8), (101 : UInt8), (116 : UInt8), (117 : UInt8), (114 : UInt8), (110 : UInt8)], [(115 : UInt8), (101 : UInt8), (110 : UInt8), (100 : UInt8)], [(116 : UInt8), (114 : UInt8), (117 : UInt8), (101 : UInt8)], [(118 : UInt8), (97 : UInt8), (114 : UInt8)], [(119 : UInt8), (104 : UInt8), (105 : UInt8), (108 : UInt8), (101 : UInt8)]], .str a0] []).bind fun r => res37 r fun y4 => some ([.bool y4], []) := by kernel_rfl
theorem f61_eq (k : Nat) (a0 : List UInt8) (a1 : Int) : evF T (k + 1) 61 [.str a0, .int .i64 a1] [] = if 0 ≤ (a0.length : Int) then if (a0.length : Int) ≤ (a0.length : Int) then if 0 ≤ a1 then if a1 ≤ (a0.length : Int) then (evF T k 41 [.str ((a0.take (a0.length : Int).toNat).drop a1.toNat), .str [(48 : UInt8), (120 : UInt8)]] []).bind fun r => res41 r fun y1 => if y1 = true then some ([.int .i64 (16 : Int), .int .i64 (wrap64 (a1 + (2 : Int)))], []) else if 0 ≤ (a0.length : Int) then if (a0.length : Int) ≤ (a0.length : Int) then if 0 ≤ a1 then if a1 ≤ (a0.length : Int) then (evF T k 41 [.str ((a0.take (a0.length : Int).toNat).drop a1.toNat), .str [(48 : UInt8), (98 : UInt8)]] []).bind fun r => res41 r fun y2 => if y2 = true then some ([.int .i64 (2 : Int), .int .i64 (wrap64 (a1 + (2 : Int)))], []) else some ([.int .i64 (10 : Int), .int .i64 a1], []) else none else none else none else none else none else none else none else none := by kernel_rfl
theorem f62_eq (k : Nat) (a0 : Int) (b0_0 : Int) : evF T (k + 1) 62 [.int .u8 a0, .bptr 0 0] [some (.box [.int .i64 b0_0])] = if b0_0 = (16 : Int) then (evF T k 46 [.int .u8 a0] []).bind fun r => res46 r fun y1 => if y1 = true then some ([.bool true], [some (.box [.int .i64 b0_0])]) else if a0 ≥ (97 : Int) then if a0 ≤ (102 : Int) then some ([.bool true], [some (.box [.int .i64 b0_0])]) else if a0 ≥ (65 : Int) then some ([.bool (decide (a0 ≤ (70 : Int)))], [some (.box [.int .i64 b0_0])]) else some ([.bool false], [some (.box [.int .i64 b0_0])]) else if a0 ≥ (65 : Int) then some ([.bool (decide (a0 ≤ (70 : Int)))], [some (.box [.int .i64 b0_0])]) else some ([.bool false], [some (.box [.int .i64 b0_0])]) else if b0_0 = (2 : Int) then if a0 = (48 : Int) then some ([.bool true], [some (.box [.int .i64 b0_0])]) else some ([.bool (decide (a0 = (49 : Int)))], [some (.box [.int .i64 b0_0])]) else (evF T k 46 [.int .u8 a0] []).bind fun r => res46 r fun y2 => some ([.bool y2], [some (.box [.int .i64 b0_0])]) := by kernel_rfl
noncomputable def l42v2_0 (k m : Nat) (x0 : List UInt8) (x1 : Int) (b0_0 : Int) : Option (Ans N) := lp T 42 1 [1, 0, 0] k [] m ⟨[(0, .str x0), (1, .int .i64 x1), (2, .fn 62 [.bptr 0 0])], [some (.box [.int .i64 b0_0])]⟩
theorem l42v2_0_eq (k m : Nat) (x0 : List UInt8) (x1 : Int) (b0_0 : Int) : l42v2_0 k (m + 1) x0 x1 b0_0 = if x1 < (x0.length : Int) then if 0 ≤ x1 then if x1 < (x0.length : Int) then (evF T k 62 [.int .u8 (((x0.getD x1.toNat 0).toNat : Nat) : Int), .bptr 0 0] [some (.box [.int .i64 b0_0])]).bind fun r => res62_1 r fun y1 y2 => if y2 = true then l42v2_0 k m x0 (wrap64 (x1 + (1 : Int))) y1 else some ([.int .i64 x1], [some (.box [.int .i64 y1])]) else none else none else some ([.int .i64 x1], [some (.box [.int .i64 b0_0])]) := by kernel_rfl
theorem f42v2_eq (k : Nat) (a0 : List UInt8) (a1 : Int) (b0_0 : Int) : evF T (k + 1) 42 [.str a0, .int .i64 a1, .fn 62 [.bptr 0 0]] [some (.box [.int .i64 b0_0])] = l42v2_0 k k a0 a1 b0_0 := by kernel_rfl
theorem f47_eq (k : Nat) (a0 : List UInt8) (a1 : Int) : evF T (k + 1) 47 [.str a0, .int .i64 a1] [] = (evF T k 61 [.str a0, .int .i64 a1] []).bind fun r => res61 r fun y1 y2 => (evF T k 42 [.str a0, .int .i64 y2, .fn 62 [.bptr 0 0]] [some (.box [.int .i64 y1])]).bind fun r => res42_1 r fun y3 y4 => if y4 = y2 then some ([.int .i64 a1, .int .u64 (0 : Int), .int .i64 (4 : Int)], []) else if y4 < (a0.length : Int) then if 0 ≤ y4 then if y4 < (a0.length : Int) then (evF T k 45 [.int .u8 (((a0.getD y4.toNat 0).toNat : Nat) : Int)] []).bind fun r => res45 r fun y5 => if y5 = true then some ([.int .i64 a1, .int .u64 (0 : Int), .int .i64 (4 : Int)], []) else if 0 ≤ y4 then if y4 ≤ (a0.length : Int) then if 0 ≤ y2 then if y2 ≤ y4 then (evF T k 63 [.str ((a0.take y4.toNat).drop y2.toNat), .int .i64 y3, .int .i64 (64 : Int)] []).bind fun r => res63 r fun y6 y7 => if y7 = true then some ([.int .i64 y4, .int .u64 y6, .int .i64 (0 : Int)], []) else some ([.int .i64 a1, .int .u64 (0 : Int), .int .i64 (5 : Int)], []) else none else none else none else none else none else none else if 0 ≤ y4 then if y4 ≤ (a0.length : Int) then if 0 ≤ y2 then if y2 ≤ y4 then (evF T k 63 [.str ((a0.take y4.toNat).drop y2.toNat), .int .i64 y3, .int .i64 (64 : Int)] []).bind fun r => res63 r fun y8 y9 => if y9 = true then some ([.int .i64 y4, .int .u64 y8, .int .i64 (0 : Int)], []) else some ([.int .i64 a1, .int .u64 (0 : Int), .int .i64 (5 : Int)], []) else none else none else none else none := by kernel_rfl
theorem f48_eq (k : Nat) (a0 : List UInt8) : evF T (k + 1) 48 [.str a0] [] = if (a0.length : Int) > (1 : Int) then if 0 ≤ (2 : Int) then if (2 : Int) ≤ (a0.length : Int) then if 0 ≤ (0 : Int) then if (0 : Int) ≤ (2 : Int) then (evF T k 37 [.vsl none .str [[(45 : UInt8), (62 : UInt8)], [(46 : UInt8), (46 : UInt8)], [(60 : UInt8), (60 : UInt8)], [(62 : UInt8), (62 : UInt8)], [(61 : UInt8), (61 : UInt8)], [(33 : UInt8), (61 : UInt8)], [(60 : UInt8), (61 : UInt8)], [(62 : UInt8), (61 : UInt8)], [(38 : UInt8), (38 : UInt8)], [(124 : UInt8), (124 : UInt8)]], .str ((a0.take (2 : Int).toNat).drop (0 : Int).toNat)] []).bind fun r => res37 r fun y1 => if y1 = true then some ([.int .i64 (2 : Int)], []) else if 0 ≤ (0 : Int) then if (0 : Int) < (a0.length : Int) then (evF T k 40 [.str [(40 : UInt8), (41 : UInt8), (123 : UInt8), (125 : UInt8), (91 : UInt8), (93 : UInt8), (44 : UInt8), (59 : UInt8), (58 : UInt8), (61 : UInt8), (43 : UInt8), (45 : UInt8), (42 : UInt8), (47 : UInt8), (37 : UInt8), (38 : UInt8), (124 : UInt8), (94 : UInt8), (126 : UInt8), (33 : UInt8), (60 : UInt8), (62 : UInt8), (63 : UInt8), (35 : UInt8)], .int .u8 (((a0.getD (0 : Int).toNat 0).toNat : Nat) : Int)] []).bind fun r => res40 r fun y2 => if y2 ≥ (0 : Int) then some ([.int .i64 (1 : Int)], []) else some ([.int .i64 (0 : Int)], []) else none else none else none else none else none else none else if 0 ≤ (0 : Int) then if (0 : Int) < (a0.length : Int) then (evF T k 40 [.str [(40 : UInt8), (41 : UInt8), (123 : UInt8), (125 : UInt8), (91 : UInt8), (93 : UInt8), (44 : UInt8), (59 : UInt8), (58 : UInt8), (61 : UInt8), (43 : UInt8), (45 : UInt8), (42 : UInt8), (47 : UInt8), (37 : UInt8), (38 : UInt8), (124 : UInt8), (94 : UInt8), (126 : UInt8), (33 : UInt8), (60 : UInt8), (62 : UInt8), (63 : UInt8), (35 : UInt8)], .int .u8 (((a0.getD (0 : Int).toNat 0).toNat : Nat) : Int)] []).bind fun r => res40 r fun y3 => if y3 ≥ (0 : Int) then some ([.int .i64 (1 : Int)], []) else some ([.int .i64 (0 : Int)], []) else none else none := by kernel_rfl
theorem f28_eq (k : Nat) (a0 : List UInt8) (a1 : Int) : evF T (k + 1) 28 [.str a0, .int .i64 a1] [] = if 0 ≤ a1 then if a1 < (a0.length : Int) then (evF T k 44 [.int .u8 (((a0.getD a1.toNat 0).toNat : Nat) : Int)] []).bind fun r => res44 r fun y1 => if y1 = true then (evF T k 42 [.str a0, .int .i64 a1, .fn 45 []] []).bind fun r => res42 r fun y2 => if (wrap64 (y2 - a1)) > (64 : Int) then some ([.agg [.int .i64 (0 : Int), .str [], .int .u64 (0 : Int), .int .i64 a1, .int .i64 (0 : Int)], .int .i64 (5 : Int)], []) else if 0 ≤ y2 then if y2 ≤ (a0.length : Int) then if 0 ≤ a1 then if a1 ≤ y2 then (evF T k 22 [.str ((a0.take y2.toNat).drop a1.toNat)] []).bind fun r => res22 r fun y3 => if y3 = true then some ([.agg [.int .i64 (2 : Int), .str ((a0.take y2.toNat).drop a1.toNat), .int .u64 (0 : Int), .int .i64 a1, .int .i64 (0 : Int)], .int .i64 (0 : Int)], []) else some ([.agg [.int .i64 (1 : Int), .str ((a0.take y2.toNat).drop a1.toNat), .int .u64 (0 : Int), .int .i64 a1, .int .i64 (0 : Int)], .int .i64 (0 : Int)], []) else none else none else none else none else if 0 ≤ a1 then if a1 < (a0.length : Int) then (evF T k 46 [.int .u8 (((a0.getD a1.toNat 0).toNat : Nat) : Int)] []).bind fun r => res46 r fun y4 => if y4 = true then (evF T k 47 [.str a0, .int .i64 a1] []).bind fun r => res47 r fun y5 y6 y7 => if 0 ≤ y5 then if y5 ≤ (a0.length : Int) then if 0 ≤ a1 then if a1 ≤ y5 then some ([.agg [.int .i64 (3 : Int), .str ((a0.take y5.toNat).drop a1.toNat), .int .u64 y6, .int .i64 a1, .int .i64 (0 : Int)], .int .i64 y7], []) else none else none else none else none else if 0 ≤ (a0.length : Int) then if (a0.length : Int) ≤ (a0.length : Int) then if 0 ≤ a1 then if a1 ≤ (a0.length : Int) then (evF T k 48 [.str ((a0.take (a0.length : Int).toNat).drop a1.toNat)] []).bind fun r => res48 r fun y8 => if 0 ≤ (wrap64 (a1 + y8)) then if (wrap64 (a1 + y8)) ≤ (a0.length : Int) then if 0 ≤ a1 then if a1 ≤ (wrap64 (a1 + y8)) then if y8 = (0 : Int) then some ([.agg [.int .i64 (4 : Int), .str ((a0.take (wrap64 (a1 + y8)).toNat).drop a1.toNat), .int .u64 (0 : Int), .int .i64 a1, .int .i64 (0 : Int)], .int .i64 (4 : Int)], []) else some ([.agg [.int .i64 (4 : Int), .str ((a0.take (wrap64 (a1 + y8)).toNat).drop a1.toNat), .int .u64 (0 : Int), .int .i64 a1, .int .i64 (0 : Int)], .int .i64 (0 : Int)], []) else none else none else none else none else none else none else none else none else none else none else none else none := by kernel_rfl
noncomputable def l12_0 (k m : Nat) (x0 : List UInt8) (x6 : Int) (x7 : Int) (x8 : Int) (r0 : List S29) : Option (Ans N) := lp T 12 0 [1, 1, 1, 1, 0, 1, 0] k [] m ⟨[(0, .str x0), (5, .sl 0 0), (6, .int .i64 x6), (7, .int .i64 x7), (8, .int .i64 x8)], [some (.row 0 0 29 (.named 29) r0)]⟩
theorem l12_0_eq (k m : Nat) (x0 : List UInt8) (x6 : Int) (x7 : Int) (x8 : Int) (r0 : List S29) : l12_0 k (m + 1) x0 x6 x7 x8 r0 = if x8 < (x0.length : Int) then (evF T k 28 [.str x0, .int .i64 x8] []).bind fun r => res28 r fun y2 y3 y4 y5 y6 y7 => if y7 ≠ (0 : Int) then some ([.vsl none (.named 29) [], .int .i64 x8, .int .i64 y7], []) else if 0 ≤ x8 then if x8 ≤ (x0.length : Int) then if 0 ≤ x7 then if x7 ≤ x8 then (evF T k 29 [.str ((x0.take x8.toNat).drop x7.toNat), .str [(10 : UInt8)]] []).bind fun r => res29 r fun y8 => chk ((r0.length + [(⟨y2, y3, y4, y5, (wrap64 (x6 + y8))⟩ : S29)].length) * 48 ≤ 140737488355328) ((evF T k 27 [.str x0, .int .i64 (wrap64 (x8 + (y3.length : Int)))] []).bind fun r => res27 r fun y9 => l12_0 k m x0 (wrap64 (x6 + y8)) x8 y9 (r0 ++ [(⟨y2, y3, y4, y5, (wrap64 (x6 + y8))⟩ : S29)])) else none else none else none else none else some ([.vsl none (.named 29) r0, .int .i64 (x0.length : Int), .int .i64 (0 : Int)], []) := by kernel_rfl
theorem f12_eq (k : Nat) (a0 : List UInt8) : evF T (k + 1) 12 [.str a0] [] = if (a0.length : Int) > (65536 : Int) then some ([.vsl none (.named 29) [], .int .i64 (65536 : Int), .int .i64 (5 : Int)], []) else (evF T k 27 [.str a0, .int .i64 (0 : Int)] []).bind fun r => res27 r fun y1 => l12_0 k k a0 (1 : Int) (0 : Int) y1 [] := by kernel_rfl
theorem f11_eq (k : Nat)  : evF T (k + 1) 11 [] [] = (evF T k 12 [.str [(97 : UInt8), (60 : UInt8), (60 : UInt8)]] []).bind fun r => res12 r fun y1 y2 y3 => if y3 = (0 : Int) then if y2 = (3 : Int) then if (y1.length : Int) = (2 : Int) then if 0 ≤ (1 : Int) then if (1 : Int) < (y1.length : Int) then some ([.bool (decide ((y1.getD (1 : Int).toNat z29).f1 = [(60 : UInt8), (60 : UInt8)]))], []) else none else none else some ([.bool false], []) else some ([.bool false], []) else some ([.bool false], []) := by kernel_rfl
theorem f33_eq (k : Nat) (a0 : Int) : evF T (k + 1) 33 [.int .u8 a0] [] = if a0 = (32 : Int) then some ([.bool true], []) else if a0 = (9 : Int) then some ([.bool true], []) else if a0 = (13 : Int) then some ([.bool true], []) else some ([.bool (decide (a0 = (10 : Int)))], []) := by kernel_rfl
noncomputable def l14_0 (k m : Nat) (x0 : List UInt8) (x1 : Int) : Option (Ans N) := lp T 14 0 [1, 0, 0] k [] m ⟨[(0, .str x0), (1, .int .i64 x1)], []⟩
noncomputable def l14_1 (k m0 m : Nat) (x0 : List UInt8) (x1 : Int) : Option (Ans N) := lp T 14 0 [1, 0, 0, 0, 1, 0, 1, 1, 0] k [m0] m ⟨[(0, .str x0), (1, .int .i64 x1)], []⟩
theorem l14_1_eq (k m0 m : Nat) (x0 : List UInt8) (x1 : Int) : l14_1 k m0 (m + 1) x0 x1 = if x1 < (x0.length : Int) then if 0 ≤ x1 then if x1 < (x0.length : Int) then if (((x0.getD x1.toNat 0).toNat : Nat) : Int) ≠ (10 : Int) then l14_1 k m0 m x0 (wrap64 (x1 + (1 : Int))) else l14_0 k m0 x0 x1 else none else none else l14_0 k m0 x0 x1 := by kernel_rfl
theorem l14_0_eq (k m : Nat) (x0 : List UInt8) (x1 : Int) : l14_0 k (m + 1) x0 x1 = if x1 < (x0.length : Int) then if 0 ≤ x1 then if x1 < (x0.length : Int) then (evF T k 33 [.int .u8 (((x0.getD x1.toNat 0).toNat : Nat) : Int)] []).bind fun r => res33 r fun y1 => if y1 = true then l14_0 k m x0 (wrap64 (x1 + (1 : Int))) else if 0 ≤ x1 then if x1 < (x0.length : Int) then if (((x0.getD x1.toNat 0).toNat : Nat) : Int) ≠ (47 : Int) then some ([.int .i64 x1], []) else if (wrap64 (x1 + (1 : Int))) ≥ (x0.length : Int) then some ([.int .i64 x1], []) else if 0 ≤ (wrap64 (x1 + (1 : Int))) then if (wrap64 (x1 + (1 : Int))) < (x0.length : Int) then if (((x0.getD (wrap64 (x1 + (1 : Int))).toNat 0).toNat : Nat) : Int) ≠ (47 : Int) then some ([.int .i64 x1], []) else l14_1 k m k x0 x1 else none else none else none else none else none else none else some ([.int .i64 x1], []) := by kernel_rfl
theorem f14_eq (k : Nat) (a0 : List UInt8) (a1 : Int) : evF T (k + 1) 14 [.str a0, .int .i64 a1] [] = l14_0 k k a0 a1 := by kernel_rfl
theorem f17_eq (k : Nat) (a0 : Int) : evF T (k + 1) 17 [.int .u8 a0] [] = if a0 ≥ (97 : Int) then if a0 ≤ (122 : Int) then some ([.bool true], []) else if a0 ≥ (65 : Int) then if a0 ≤ (90 : Int) then some ([.bool true], []) else some ([.bool (decide (a0 = (95 : Int)))], []) else some ([.bool (decide (a0 = (95 : Int)))], []) else if a0 ≥ (65 : Int) then if a0 ≤ (90 : Int) then some ([.bool true], []) else some ([.bool (decide (a0 = (95 : Int)))], []) else some ([.bool (decide (a0 = (95 : Int)))], []) := by kernel_rfl
noncomputable def j18_0 (k : Nat) (x0 : Int) (x1 : Int) (x5 : Int) : Option (Ans N) := jn T 18 0 [1, 1, 1] k [] ⟨[(0, .int .u8 x0), (1, .int .i64 x1), (5, .int .i64 x5)], []⟩
noncomputable def j18_1 (k : Nat) (x0 : Int) (x1 : Int) (x5 : Int) : Option (Ans N) := jn T 18 0 [1, 1, 1, 1] k [] ⟨[(0, .int .u8 x0), (1, .int .i64 x1), (5, .int .i64 x5)], []⟩
theorem j18_1_eq (k : Nat) (x0 : Int) (x1 : Int) (x5 : Int) : j18_1 k  x0 x1 x5 = if x0 ≥ (65 : Int) then if x0 ≤ (70 : Int) then if (wrap64 ((wrap64 ((wr .u8 (x0 - (65 : Int))))) + (10 : Int))) ≥ x1 then some ([.int .i64 (-1 : Int)], []) else some ([.int .i64 (wrap64 ((wrap64 ((wr .u8 (x0 - (65 : Int))))) + (10 : Int)))], []) else if x5 ≥ x1 then some ([.int .i64 (-1 : Int)], []) else some ([.int .i64 x5], []) else if x5 ≥ x1 then some ([.int .i64 (-1 : Int)], []) else some ([.int .i64 x5], []) := by unfold j18_1; rw [jn_eq]; kernel_rfl
theorem j18_0_eq (k : Nat) (x0 : Int) (x1 : Int) (x5 : Int) : j18_0 k  x0 x1 x5 = if x0 ≥ (97 : Int) then if x0 ≤ (102 : Int) then j18_1 k x0 x1 (wrap64 ((wrap64 ((wr .u8 (x0 - (97 : Int))))) + (10 : Int))) else j18_1 k x0 x1 x5 else j18_1 k x0 x1 x5 := by unfold j18_0; rw [jn_eq]; kernel_rfl
theorem f18_eq (k : Nat) (a0 : Int) (a1 : Int) : evF T (k + 1) 18 [.int .u8 a0, .int .i64 a1] [] = if a0 ≥ (48 : Int) then if a0 ≤ (57 : Int) then j18_0 k a0 a1 (wrap64 ((wr .u8 (a0 - (48 : Int))))) else j18_0 k a0 a1 (-1 : Int) else j18_0 k a0 a1 (-1 : Int) := by kernel_rfl
theorem f30_eq (k : Nat) (a0 : Int) : evF T (k + 1) 30 [.int .u8 a0] [] = (evF T k 17 [.int .u8 a0] []).bind fun r => res17 r fun y1 => if y1 = true then some ([.bool true], []) else (evF T k 18 [.int .u8 a0, .int .i64 (10 : Int)] []).bind fun r => res18 r fun y2 => some ([.bool (decide (y2 ≥ (0 : Int)))], []) := by kernel_rfl
theorem f34_eq (k : Nat)  : evF T (k + 1) 34 [] [] = some ([.vsl none .str [[(97 : UInt8), (115 : UInt8)], [(98 : UInt8), (108 : UInt8), (111 : UInt8), (99 : UInt8), (107 : UInt8), (115 : UInt8)], [(99 : UInt8), (111 : UInt8), (109 : UInt8), (112 : UInt8), (108 : UInt8), (101 : UInt8), (116 : UInt8), (101 : UInt8)], [(99 : UInt8), (121 : UInt8), (99 : UInt8), (108 : UInt8), (105 : UInt8), (99 : UInt8)], [(101 : UInt8), (108 : UInt8), (115 : UInt8), (101 : UInt8)], [(102 : UInt8), (97 : UInt8), (108 : UInt8), (115 : UInt8), (101 : UInt8)], [(102 : UInt8), (110 : UInt8)], [(102 : UInt8), (111 : UInt8), (114 : UInt8)], [(105 : UInt8), (102 : UInt8)], [(105 : UInt8), (110 : UInt8)], [(107 : UInt8), (101 : UInt8), (114 : UInt8), (110 : UInt8), (101 : UInt8), (108 : UInt8)], [(108 : UInt8), (101 : UInt8), (116 : UInt8)], [(111 : UInt8), (117 : UInt8), (116 : UInt8)], [(114 : UInt8), (101 : UInt8), (99 : UInt8), (118 : UInt8)], [(114 : UInt8), (101 : UInt8), (116 : UInt8), (117 : UInt8), (114 : UInt8), (110 : UInt8)], [(115 : UInt8), (101 : UInt8), (110 : UInt8), (100 : UInt8)], [(116 : UInt8), (114 : UInt8), (117 : UInt8), (101 : UInt8)], [(118 : UInt8), (97 : UInt8), (114 : UInt8)], [(119 : UInt8), (104 : UInt8), (105 : UInt8), (108 : UInt8), (101 : UInt8)]]], []) := by kernel_rfl
noncomputable def l32_0 (k m : Nat) (x0 : List UInt8) (x1 : List (List UInt8)) (x5 : Int) : Option (Ans N) := lp T 32 0 [1, 0, 1, 0] k [] m ⟨[(0, .str x0), (1, .vsl none .str x1), (5, .int .i64 x5)], []⟩
theorem l32_0_eq (k m : Nat) (x0 : List UInt8) (x1 : List (List UInt8)) (x5 : Int) : l32_0 k (m + 1) x0 x1 x5 = if x5 < (x1.length : Int) then if 0 ≤ x5 then if x5 < (x1.length : Int) then if (x1.getD x5.toNat []) = x0 then some ([.bool true], []) else l32_0 k m x0 x1 (wrap64 (x5 + (1 : Int))) else none else none else some ([.bool false], []) := by kernel_rfl
theorem f32_eq (k : Nat) (a0 : List UInt8) (a1 : List (List UInt8)) : evF T (k + 1) 32 [.str a0, .vsl none .str a1] [] = l32_0 k k a0 a1 (0 : Int) := by kernel_rfl
noncomputable def l38_0 (k m : Nat) (x0 : Int) (x3 : List UInt8) : Option (Ans N) := lp T 38 0 [1, 1, 0, 0] k [] m ⟨[(0, .int .u64 x0), (3, .str x3)], []⟩
theorem l38_0_eq (k m : Nat) (x0 : Int) (x3 : List UInt8) : l38_0 k (m + 1) x0 x3 = if x0 ≥ (10 : Int) then if (10 : Int) = 0 then none else if (10 : Int) = 0 then none else if 0 ≤ (wr .u64 (((x0).tmod (10 : Int)) + (1 : Int))) then if (wr .u64 (((x0).tmod (10 : Int)) + (1 : Int))) ≤ ([(48 : UInt8), (49 : UInt8), (50 : UInt8), (51 : UInt8), (52 : UInt8), (53 : UInt8), (54 : UInt8), (55 : UInt8), (56 : UInt8), (57 : UInt8)].length : Int) then if 0 ≤ ((x0).tmod (10 : Int)) then if ((x0).tmod (10 : Int)) ≤ (wr .u64 (((x0).tmod (10 : Int)) + (1 : Int))) then chk (strOK (([(48 : UInt8), (49 : UInt8), (50 : UInt8), (51 : UInt8), (52 : UInt8), (53 : UInt8), (54 : UInt8), (55 : UInt8), (56 : UInt8), (57 : UInt8)].take (wr .u64 (((x0).tmod (10 : Int)) + (1 : Int))).toNat).drop ((x0).tmod (10 : Int)).toNat) x3) (if (10 : Int) = 0 then none else l38_0 k m (wr .u64 ((x0).tdiv (10 : Int))) ((([(48 : UInt8), (49 : UInt8), (50 : UInt8), (51 : UInt8), (52 : UInt8), (53 : UInt8), (54 : UInt8), (55 : UInt8), (56 : UInt8), (57 : UInt8)].take (wr .u64 (((x0).tmod (10 : Int)) + (1 : Int))).toNat).drop ((x0).tmod (10 : Int)).toNat) ++ x3)) else none else none else none else none else if 0 ≤ (wr .u64 (x0 + (1 : Int))) then if (wr .u64 (x0 + (1 : Int))) ≤ ([(48 : UInt8), (49 : UInt8), (50 : UInt8), (51 : UInt8), (52 : UInt8), (53 : UInt8), (54 : UInt8), (55 : UInt8), (56 : UInt8), (57 : UInt8)].length : Int) then if 0 ≤ x0 then if x0 ≤ (wr .u64 (x0 + (1 : Int))) then chk (strOK (([(48 : UInt8), (49 : UInt8), (50 : UInt8), (51 : UInt8), (52 : UInt8), (53 : UInt8), (54 : UInt8), (55 : UInt8), (56 : UInt8), (57 : UInt8)].take (wr .u64 (x0 + (1 : Int))).toNat).drop x0.toNat) x3) (some ([.str ((([(48 : UInt8), (49 : UInt8), (50 : UInt8), (51 : UInt8), (52 : UInt8), (53 : UInt8), (54 : UInt8), (55 : UInt8), (56 : UInt8), (57 : UInt8)].take (wr .u64 (x0 + (1 : Int))).toNat).drop x0.toNat) ++ x3)], [])) else none else none else none else none := by kernel_rfl
theorem f38_eq (k : Nat) (a0 : Int) : evF T (k + 1) 38 [.int .u64 a0] [] = l38_0 k k a0 [] := by kernel_rfl
theorem f24_eq (k : Nat) (a0_0 : Int) (a0_1 : Bool) : evF T (k + 1) 24 [.agg [.int .i64 a0_0, .bool a0_1]] [] = if a0_0 < (1 : Int) then some ([.str []], []) else if a0_0 > (64 : Int) then some ([.str []], []) else if a0_1 = true then (evF T k 38 [.int .u64 (wr .u64 (a0_0))] []).bind fun r => res38 r fun y1 => chk (strOK [(115 : UInt8)] y1) (some ([.str ([(115 : UInt8)] ++ y1)], [])) else (evF T k 38 [.int .u64 (wr .u64 (a0_0))] []).bind fun r => res38 r fun y2 => chk (strOK [(117 : UInt8)] y2) (some ([.str ([(117 : UInt8)] ++ y2)], [])) := by kernel_rfl
noncomputable def l21_0 (k m : Nat) (x0 : List UInt8) (x3 : Int) (b0_0 : Int) (b0_1 : Bool) : Option (Ans N) := lp T 21 0 [1, 1, 0, 1, 0] k [] m ⟨[(0, .str x0), (2, .bptr 0 0), (3, .int .i64 x3)], [some (.box [.int .i64 b0_0, .bool b0_1])]⟩
noncomputable def l21_1 (k m0 m : Nat) (x0 : List UInt8) (x3 : Int) (x4 : Int) (b0_0 : Int) (b0_1 : Bool) : Option (Ans N) := lp T 21 0 [1, 1, 0, 1, 0, 0, 1, 0, 0, 1, 0] k [m0] m ⟨[(0, .str x0), (2, .bptr 0 0), (3, .int .i64 x3), (4, .int .i64 x4)], [some (.box [.int .i64 b0_0, .bool b0_1])]⟩
theorem l21_1_eq (k m0 m : Nat) (x0 : List UInt8) (x3 : Int) (x4 : Int) (b0_0 : Int) (b0_1 : Bool) : l21_1 k m0 (m + 1) x0 x3 x4 b0_0 b0_1 = if x4 < (2 : Int) then (evF T k 24 [.agg [.int .i64 x3, .bool (decide (x4 = (1 : Int)))]] []).bind fun r => res24 r fun y1 => if y1 = x0 then some ([.agg [.int .i64 x3, .bool (decide (x4 = (1 : Int)))]], []) else l21_1 k m0 m x0 x3 (wrap64 (x4 + (1 : Int))) b0_0 b0_1 else l21_0 k m0 x0 (wrap64 (x3 + (1 : Int))) b0_0 b0_1 := by kernel_rfl
theorem l21_0_eq (k m : Nat) (x0 : List UInt8) (x3 : Int) (b0_0 : Int) (b0_1 : Bool) : l21_0 k (m + 1) x0 x3 b0_0 b0_1 = if x3 ≤ (64 : Int) then l21_1 k m k x0 x3 (0 : Int) b0_0 b0_1 else some ([.agg [.int .i64 (0 : Int), .bool false]], []) := by kernel_rfl
theorem f21_eq (k : Nat) (a0 : List UInt8) : evF T (k + 1) 21 [.str a0] [] = if a0 = [(98 : UInt8), (111 : UInt8), (111 : UInt8), (108 : UInt8)] then some ([.agg [.int .i64 (1 : Int), .bool false]], []) else l21_0 k k a0 (1 : Int) (0 : Int) false := by kernel_rfl
theorem f19_eq (k : Nat) (a0 : List UInt8) : evF T (k + 1) 19 [.str a0] [] = (evF T k 34 [] []).bind fun r => res34 r fun y1 => (evF T k 32 [.str a0, .vsl none .str y1] []).bind fun r => res32 r fun y2 => if y2 = true then some ([.bool true], []) else (evF T k 21 [.str a0] []).bind fun r => res21 r fun y3 y4 => some ([.bool (decide (y3 > (0 : Int)))], []) := by kernel_rfl
noncomputable def j31_0 (k : Nat) (x0 : List UInt8) (x1 : Int) (x7 : Int) (x8 : Int) : Option (Ans N) := jn T 31 0 [1, 1, 1] k [] ⟨[(0, .str x0), (1, .int .i64 x1), (7, .int .i64 x7), (8, .int .i64 x8)], []⟩
noncomputable def l31_0 (k m : Nat) (x0 : List UInt8) (x1 : Int) (x7 : Int) (x8 : Int) (x9 : Int) (x10 : Int) (x11 : Bool) : Option (Ans N) := lp T 31 0 [1, 1, 1, 1, 0, 0] k [] m ⟨[(0, .str x0), (1, .int .i64 x1), (7, .int .i64 x7), (8, .int .i64 x8), (9, .int .i64 x9), (10, .int .u64 x10), (11, .bool x11)], []⟩
noncomputable def j31_1 (k m0 : Nat) (x0 : List UInt8) (x1 : Int) (x7 : Int) (x8 : Int) (x9 : Int) (x10 : Int) (x11 : Bool) (x12 : Int) : Option (Ans N) := jn T 31 0 [1, 1, 1, 1, 0, 0, 0, 1, 0, 1, 1] k [m0] ⟨[(0, .str x0), (1, .int .i64 x1), (7, .int .i64 x7), (8, .int .i64 x8), (9, .int .i64 x9), (10, .int .u64 x10), (11, .bool x11), (12, .int .u64 x12)], []⟩
theorem j31_1_eq (k m0 : Nat) (x0 : List UInt8) (x1 : Int) (x7 : Int) (x8 : Int) (x9 : Int) (x10 : Int) (x11 : Bool) (x12 : Int) : j31_1 k m0 x0 x1 x7 x8 x9 x10 x11 x12 = l31_0 k m0 x0 x1 x7 (wrap64 (x8 + (1 : Int))) x9 (wr .u64 ((wr .u64 (x10 * (wr .u64 (x7)))) + x12)) x11 := by unfold j31_1; rw [jn_eq]; kernel_rfl
theorem l31_0_eq (k m : Nat) (x0 : List UInt8) (x1 : Int) (x7 : Int) (x8 : Int) (x9 : Int) (x10 : Int) (x11 : Bool) : l31_0 k (m + 1) x0 x1 x7 x8 x9 x10 x11 = if x8 < (x0.length : Int) then if 0 ≤ x8 then if x8 < (x0.length : Int) then (evF T k 18 [.int .u8 (((x0.getD x8.toNat 0).toNat : Nat) : Int), .int .i64 x7] []).bind fun r => res18 r fun y1 => if y1 ≥ (0 : Int) then if 0 ≤ x8 then if x8 < (x0.length : Int) then (evF T k 18 [.int .u8 (((x0.getD x8.toNat 0).toNat : Nat) : Int), .int .i64 x7] []).bind fun r => res18 r fun y2 => if (wr .u64 (x7)) = 0 then none else if x10 > (wr .u64 (((wr .u64 ((18446744073709551615 : Int) - (wr .u64 (y2))))).tdiv (wr .u64 (x7)))) then j31_1 k m x0 x1 x7 x8 x9 x10 true (wr .u64 (y2)) else j31_1 k m x0 x1 x7 x8 x9 x10 x11 (wr .u64 (y2)) else none else none else if x8 = x9 then some ([.int .u64 (0 : Int), .int .i64 x1, .int .i64 (4 : Int)], []) else if x8 < (x0.length : Int) then if 0 ≤ x8 then if x8 < (x0.length : Int) then (evF T k 30 [.int .u8 (((x0.getD x8.toNat 0).toNat : Nat) : Int)] []).bind fun r => res30 r fun y3 => if y3 = true then some ([.int .u64 (0 : Int), .int .i64 x1, .int .i64 (4 : Int)], []) else if x11 = true then some ([.int .u64 (0 : Int), .int .i64 x1, .int .i64 (5 : Int)], []) else some ([.int .u64 x10, .int .i64 x8, .int .i64 (0 : Int)], []) else none else none else if x11 = true then some ([.int .u64 (0 : Int), .int .i64 x1, .int .i64 (5 : Int)], []) else some ([.int .u64 x10, .int .i64 x8, .int .i64 (0 : Int)], []) else none else none else if x8 = x9 then some ([.int .u64 (0 : Int), .int .i64 x1, .int .i64 (4 : Int)], []) else if x8 < (x0.length : Int) then if 0 ≤ x8 then if x8 < (x0.length : Int) then (evF T k 30 [.int .u8 (((x0.getD x8.toNat 0).toNat : Nat) : Int)] []).bind fun r => res30 r fun y4 => if y4 = true then some ([.int .u64 (0 : Int), .int .i64 x1, .int .i64 (4 : Int)], []) else if x11 = true then some ([.int .u64 (0 : Int), .int .i64 x1, .int .i64 (5 : Int)], []) else some ([.int .u64 x10, .int .i64 x8, .int .i64 (0 : Int)], []) else none else none else if x11 = true then some ([.int .u64 (0 : Int), .int .i64 x1, .int .i64 (5 : Int)], []) else some ([.int .u64 x10, .int .i64 x8, .int .i64 (0 : Int)], []) := by kernel_rfl
theorem j31_0_eq (k : Nat) (x0 : List UInt8) (x1 : Int) (x7 : Int) (x8 : Int) : j31_0 k  x0 x1 x7 x8 = l31_0 k k x0 x1 x7 x8 x8 (0 : Int) false := by unfold j31_0; rw [jn_eq]; kernel_rfl
theorem f31_eq (k : Nat) (a0 : List UInt8) (a1 : Int) : evF T (k + 1) 31 [.str a0, .int .i64 a1] [] = if 0 ≤ a1 then if a1 < (a0.length : Int) then if (((a0.getD a1.toNat 0).toNat : Nat) : Int) = (48 : Int) then if (wrap64 (a1 + (1 : Int))) < (a0.length : Int) then if 0 ≤ (wrap64 (a1 + (1 : Int))) then if (wrap64 (a1 + (1 : Int))) < (a0.length : Int) then if (((a0.getD (wrap64 (a1 + (1 : Int))).toNat 0).toNat : Nat) : Int) = (120 : Int) then if 0 ≤ (wrap64 (a1 + (1 : Int))) then if (wrap64 (a1 + (1 : Int))) < (a0.length : Int) then if (((a0.getD (wrap64 (a1 + (1 : Int))).toNat 0).toNat : Nat) : Int) = (98 : Int) then j31_0 k a0 a1 (2 : Int) (wrap64 (a1 + (2 : Int))) else j31_0 k a0 a1 (16 : Int) (wrap64 (a1 + (2 : Int))) else none else none else if 0 ≤ (wrap64 (a1 + (1 : Int))) then if (wrap64 (a1 + (1 : Int))) < (a0.length : Int) then if (((a0.getD (wrap64 (a1 + (1 : Int))).toNat 0).toNat : Nat) : Int) = (98 : Int) then if 0 ≤ (wrap64 (a1 + (1 : Int))) then if (wrap64 (a1 + (1 : Int))) < (a0.length : Int) then if (((a0.getD (wrap64 (a1 + (1 : Int))).toNat 0).toNat : Nat) : Int) = (98 : Int) then j31_0 k a0 a1 (2 : Int) (wrap64 (a1 + (2 : Int))) else j31_0 k a0 a1 (16 : Int) (wrap64 (a1 + (2 : Int))) else none else none else j31_0 k a0 a1 (10 : Int) a1 else none else none else none else none else j31_0 k a0 a1 (10 : Int) a1 else j31_0 k a0 a1 (10 : Int) a1 else none else none := by kernel_rfl
noncomputable def l13_0 (k m : Nat) (x0 : List UInt8) (x6 : Int) (x7 : Int) (x8 : Int) (r0 : List S29) : Option (Ans N) := lp T 13 0 [1, 1, 1, 1, 0, 1, 0] k [] m ⟨[(0, .str x0), (5, .sl 0 0), (6, .int .i64 x6), (7, .int .i64 x7), (8, .int .i64 x8)], [some (.row 0 0 29 (.named 29) r0)]⟩
noncomputable def l13_1 (k m0 m : Nat) (x0 : List UInt8) (x6 : Int) (x7 : Int) (x8 : Int) (r0 : List S29) : Option (Ans N) := lp T 13 0 [1, 1, 1, 1, 0, 1, 0, 0, 1, 0, 0, 0, 0] k [m0] m ⟨[(0, .str x0), (5, .sl 0 0), (6, .int .i64 x6), (7, .int .i64 x7), (8, .int .i64 x8)], [some (.row 0 0 29 (.named 29) r0)]⟩
noncomputable def l13_2 (k m0 m : Nat) (x0 : List UInt8) (x6 : Int) (x7 : Int) (x8 : Int) (x10 : Int) (r0 : List S29) (b1_0 : Int) (b1_1 : List UInt8) (b1_2 : Int) (b1_3 : Int) (b1_4 : Int) : Option (Ans N) := lp T 13 0 [1, 1, 1, 1, 0, 1, 0, 0, 1, 0, 0, 1, 1, 1, 0, 1, 0, 0, 0] k [m0] m ⟨[(0, .str x0), (5, .sl 0 0), (6, .int .i64 x6), (7, .int .i64 x7), (8, .int .i64 x8), (9, .bptr 1 0), (10, .int .i64 x10)], [some (.row 0 0 29 (.named 29) r0), some (.box [.int .i64 b1_0, .str b1_1, .int .u64 b1_2, .int .i64 b1_3, .int .i64 b1_4])]⟩
noncomputable def j13_0 (k m0 : Nat) (x0 : List UInt8) (x6 : Int) (x7 : Int) (x8 : Int) (x10 : Int) (r0 : List S29) (b1_0 : Int) (b1_1 : List UInt8) (b1_2 : Int) (b1_3 : Int) (b1_4 : Int) : Option (Ans N) := jn T 13 0 [1, 1, 1, 1, 0, 1, 0, 0, 1, 0, 0, 1, 1, 1, 1] k [m0] ⟨[(0, .str x0), (5, .sl 0 0), (6, .int .i64 x6), (7, .int .i64 x7), (8, .int .i64 x8), (9, .bptr 1 0), (10, .int .i64 x10)], [some (.row 0 0 29 (.named 29) r0), some (.box [.int .i64 b1_0, .str b1_1, .int .u64 b1_2, .int .i64 b1_3, .int .i64 b1_4])]⟩
theorem j13_0_eq (k m0 : Nat) (x0 : List UInt8) (x6 : Int) (x7 : Int) (x8 : Int) (x10 : Int) (r0 : List S29) (b1_0 : Int) (b1_1 : List UInt8) (b1_2 : Int) (b1_3 : Int) (b1_4 : Int) : j13_0 k m0 x0 x6 x7 x8 x10 r0 b1_0 b1_1 b1_2 b1_3 b1_4 = if 0 ≤ x10 then if x10 ≤ (x0.length : Int) then if 0 ≤ x8 then if x8 ≤ x10 then chk ((r0.length + [(⟨b1_0, ((x0.take x10.toNat).drop x8.toNat), b1_2, b1_3, b1_4⟩ : S29)].length) * 48 ≤ 140737488355328) ((evF T k 14 [.str x0, .int .i64 x10] []).bind fun r => res14 r fun y5 => l13_0 k m0 x0 x6 x7 y5 (r0 ++ [(⟨b1_0, ((x0.take x10.toNat).drop x8.toNat), b1_2, b1_3, b1_4⟩ : S29)])) else none else none else none else none := by unfold j13_0; rw [jn_eq]; kernel_rfl
theorem l13_2_eq (k m0 m : Nat) (x0 : List UInt8) (x6 : Int) (x7 : Int) (x8 : Int) (x10 : Int) (r0 : List S29) (b1_0 : Int) (b1_1 : List UInt8) (b1_2 : Int) (b1_3 : Int) (b1_4 : Int) : l13_2 k m0 (m + 1) x0 x6 x7 x8 x10 r0 b1_0 b1_1 b1_2 b1_3 b1_4 = if x10 < (x0.length : Int) then if 0 ≤ x10 then if x10 < (x0.length : Int) then (evF T k 30 [.int .u8 (((x0.getD x10.toNat 0).toNat : Nat) : Int)] []).bind fun r => res30 r fun y3 => if y3 = true then l13_2 k m0 m x0 x6 x7 x8 (wrap64 (x10 + (1 : Int))) r0 b1_0 b1_1 b1_2 b1_3 b1_4 else if (wrap64 (x10 - x8)) > (64 : Int) then some ([.vsl none (.named 29) [], .int .i64 x8, .int .i64 (5 : Int)], []) else if 0 ≤ x10 then if x10 ≤ (x0.length : Int) then if 0 ≤ x8 then if x8 ≤ x10 then (evF T k 19 [.str ((x0.take x10.toNat).drop x8.toNat)] []).bind fun r => res19 r fun y4 => if y4 = true then j13_0 k m0 x0 x6 x7 x8 x10 r0 (2 : Int) b1_1 b1_2 b1_3 b1_4 else j13_0 k m0 x0 x6 x7 x8 x10 r0 (1 : Int) b1_1 b1_2 b1_3 b1_4 else none else none else none else none else none else none else if (wrap64 (x10 - x8)) > (64 : Int) then some ([.vsl none (.named 29) [], .int .i64 x8, .int .i64 (5 : Int)], []) else if 0 ≤ x10 then if x10 ≤ (x0.length : Int) then if 0 ≤ x8 then if x8 ≤ x10 then (evF T k 19 [.str ((x0.take x10.toNat).drop x8.toNat)] []).bind fun r => res19 r fun y6 => if y6 = true then j13_0 k m0 x0 x6 x7 x8 x10 r0 (2 : Int) b1_1 b1_2 b1_3 b1_4 else j13_0 k m0 x0 x6 x7 x8 x10 r0 (1 : Int) b1_1 b1_2 b1_3 b1_4 else none else none else none else none := by kernel_rfl
theorem l13_1_eq (k m0 m : Nat) (x0 : List UInt8) (x6 : Int) (x7 : Int) (x8 : Int) (r0 : List S29) : l13_1 k m0 (m + 1) x0 x6 x7 x8 r0 = if x7 < x8 then if 0 ≤ x7 then if x7 < (x0.length : Int) then if (((x0.getD x7.toNat 0).toNat : Nat) : Int) = (10 : Int) then l13_1 k m0 m x0 (wrap64 (x6 + (1 : Int))) (wrap64 (x7 + (1 : Int))) x8 r0 else l13_1 k m0 m x0 x6 (wrap64 (x7 + (1 : Int))) x8 r0 else none else none else if 0 ≤ x8 then if x8 < (x0.length : Int) then (evF T k 17 [.int .u8 (((x0.getD x8.toNat 0).toNat : Nat) : Int)] []).bind fun r => res17 r fun y2 => if y2 = true then l13_2 k m0 k x0 x6 x7 x8 (wrap64 (x8 + (1 : Int))) r0 (0 : Int) [] (0 : Int) x8 x6 else if 0 ≤ x8 then if x8 < (x0.length : Int) then (evF T k 18 [.int .u8 (((x0.getD x8.toNat 0).toNat : Nat) : Int), .int .i64 (10 : Int)] []).bind fun r => res18 r fun y7 => if y7 ≥ (0 : Int) then (evF T k 31 [.str x0, .int .i64 x8] []).bind fun r => res31 r fun y8 y9 y10 => if y10 ≠ (0 : Int) then some ([.vsl none (.named 29) [], .int .i64 x8, .int .i64 y10], []) else j13_0 k m0 x0 x6 x7 x8 y9 r0 (3 : Int) [] y8 x8 x6 else if (wrap64 (x8 + (1 : Int))) < (x0.length : Int) then if 0 ≤ (wrap64 (x8 + (2 : Int))) then if (wrap64 (x8 + (2 : Int))) ≤ (x0.length : Int) then if 0 ≤ x8 then if x8 ≤ (wrap64 (x8 + (2 : Int))) then (evF T k 32 [.str ((x0.take (wrap64 (x8 + (2 : Int))).toNat).drop x8.toNat), .vsl none .str [[(45 : UInt8), (62 : UInt8)], [(46 : UInt8), (46 : UInt8)], [(60 : UInt8), (60 : UInt8)], [(62 : UInt8), (62 : UInt8)], [(61 : UInt8), (61 : UInt8)], [(33 : UInt8), (61 : UInt8)], [(60 : UInt8), (61 : UInt8)], [(62 : UInt8), (61 : UInt8)], [(38 : UInt8), (38 : UInt8)], [(124 : UInt8), (124 : UInt8)]]] []).bind fun r => res32 r fun y11 => if y11 = true then j13_0 k m0 x0 x6 x7 x8 (wrap64 (x8 + (2 : Int))) r0 (4 : Int) [] (0 : Int) x8 x6 else if 0 ≤ (wrap64 (x8 + (1 : Int))) then if (wrap64 (x8 + (1 : Int))) ≤ (x0.length : Int) then if 0 ≤ x8 then if x8 ≤ (wrap64 (x8 + (1 : Int))) then (evF T k 32 [.str ((x0.take (wrap64 (x8 + (1 : Int))).toNat).drop x8.toNat), .vsl none .str [[(40 : UInt8)], [(41 : UInt8)], [(123 : UInt8)], [(125 : UInt8)], [(91 : UInt8)], [(93 : UInt8)], [(44 : UInt8)], [(59 : UInt8)], [(58 : UInt8)], [(61 : UInt8)], [(43 : UInt8)], [(45 : UInt8)], [(42 : UInt8)], [(47 : UInt8)], [(37 : UInt8)], [(38 : UInt8)], [(124 : UInt8)], [(94 : UInt8)], [(126 : UInt8)], [(33 : UInt8)], [(60 : UInt8)], [(62 : UInt8)], [(63 : UInt8)], [(35 : UInt8)]]] []).bind fun r => res32 r fun y12 => if (!y12) = true then some ([.vsl none (.named 29) [], .int .i64 x8, .int .i64 (4 : Int)], []) else j13_0 k m0 x0 x6 x7 x8 (wrap64 (x8 + (1 : Int))) r0 (4 : Int) [] (0 : Int) x8 x6 else none else none else none else none else none else none else none else none else if 0 ≤ (wrap64 (x8 + (1 : Int))) then if (wrap64 (x8 + (1 : Int))) ≤ (x0.length : Int) then if 0 ≤ x8 then if x8 ≤ (wrap64 (x8 + (1 : Int))) then (evF T k 32 [.str ((x0.take (wrap64 (x8 + (1 : Int))).toNat).drop x8.toNat), .vsl none .str [[(40 : UInt8)], [(41 : UInt8)], [(123 : UInt8)], [(125 : UInt8)], [(91 : UInt8)], [(93 : UInt8)], [(44 : UInt8)], [(59 : UInt8)], [(58 : UInt8)], [(61 : UInt8)], [(43 : UInt8)], [(45 : UInt8)], [(42 : UInt8)], [(47 : UInt8)], [(37 : UInt8)], [(38 : UInt8)], [(124 : UInt8)], [(94 : UInt8)], [(126 : UInt8)], [(33 : UInt8)], [(60 : UInt8)], [(62 : UInt8)], [(63 : UInt8)], [(35 : UInt8)]]] []).bind fun r => res32 r fun y13 => if (!y13) = true then some ([.vsl none (.named 29) [], .int .i64 x8, .int .i64 (4 : Int)], []) else j13_0 k m0 x0 x6 x7 x8 (wrap64 (x8 + (1 : Int))) r0 (4 : Int) [] (0 : Int) x8 x6 else none else none else none else none else none else none else none else none := by kernel_rfl
theorem l13_0_eq (k m : Nat) (x0 : List UInt8) (x6 : Int) (x7 : Int) (x8 : Int) (r0 : List S29) : l13_0 k (m + 1) x0 x6 x7 x8 r0 = if x8 < (x0.length : Int) then l13_1 k m k x0 x6 x7 x8 r0 else some ([.vsl none (.named 29) r0, .int .i64 (x0.length : Int), .int .i64 (0 : Int)], []) := by kernel_rfl
theorem f13_eq (k : Nat) (a0 : List UInt8) : evF T (k + 1) 13 [.str a0] [] = if (a0.length : Int) > (65536 : Int) then some ([.vsl none (.named 29) [], .int .i64 (65536 : Int), .int .i64 (5 : Int)], []) else (evF T k 14 [.str a0, .int .i64 (0 : Int)] []).bind fun r => res14 r fun y1 => l13_0 k k a0 (1 : Int) (0 : Int) y1 [] := by kernel_rfl
noncomputable def l3_0 (k m : Nat) (x3 : List S29) (x6 : List S29) (x9 : Int) : Option (Ans N) := lp T 3 0 [1, 1, 1, 1, 1, 0, 1, 0] k [] m ⟨[(3, .vsl none (.named 29) x3), (6, .vsl none (.named 29) x6), (9, .int .i64 x9)], []⟩
theorem l3_0_eq (k m : Nat) (x3 : List S29) (x6 : List S29) (x9 : Int) : l3_0 k (m + 1) x3 x6 x9 = if x9 < (x3.length : Int) then if 0 ≤ x9 then if x9 < (x3.length : Int) then if 0 ≤ x9 then if x9 < (x6.length : Int) then if ¬ ((x3.getD x9.toNat z29).f0 = (x6.getD x9.toNat z29).f0 ∧ (x3.getD x9.toNat z29).f1 = (x6.getD x9.toNat z29).f1 ∧ (x3.getD x9.toNat z29).f2 = (x6.getD x9.toNat z29).f2 ∧ (x3.getD x9.toNat z29).f3 = (x6.getD x9.toNat z29).f3 ∧ (x3.getD x9.toNat z29).f4 = (x6.getD x9.toNat z29).f4 ∧ True) then some ([.bool false], []) else l3_0 k m x3 x6 (wrap64 (x9 + (1 : Int))) else none else none else none else none else some ([.bool true], []) := by kernel_rfl
theorem f3_eq (k : Nat) (a0 : List UInt8) : evF T (k + 1) 3 [.str a0] [] = (evF T k 11 [] []).bind fun r => res11 r fun y1 => if (!y1) = true then (evF T k 11 [] []).bind fun r => res11 r fun y2 => some ([.bool y2], []) else if (a0.length : Int) > (2000 : Int) then (evF T k 11 [] []).bind fun r => res11 r fun y3 => some ([.bool y3], []) else (evF T k 12 [.str a0] []).bind fun r => res12 r fun y4 y5 y6 => (evF T k 13 [.str a0] []).bind fun r => res13 r fun y7 y8 y9 => if y6 ≠ y9 then some ([.bool false], []) else if y5 ≠ y8 then some ([.bool false], []) else if (y4.length : Int) ≠ (y7.length : Int) then some ([.bool false], []) else l3_0 k k y4 y7 (0 : Int) := by kernel_rfl
noncomputable def l4_0 (k m : Nat) (x0 : List UInt8) (x3 : List S29) (x6 : Int) (x7 : Int) (x8 : Int) : Option (Ans N) := lp T 4 0 [1, 1, 1, 1, 1, 0, 1, 0] k [] m ⟨[(0, .str x0), (3, .vsl none (.named 29) x3), (6, .int .i64 x6), (7, .int .i64 x7), (8, .int .i64 x8)], []⟩
noncomputable def l4_1 (k m0 m : Nat) (x0 : List UInt8) (x3 : List S29) (x6 : Int) (x7 : Int) (x8 : Int) (b0_0 : Int) (b0_1 : List UInt8) (b0_2 : Int) (b0_3 : Int) (b0_4 : Int) : Option (Ans N) := lp T 4 0 [1, 1, 1, 1, 1, 0, 1, 0, 0, 1, 0, 0, 1, 1, 0, 0] k [m0] m ⟨[(0, .str x0), (3, .vsl none (.named 29) x3), (6, .int .i64 x6), (7, .int .i64 x7), (8, .int .i64 x8), (9, .bptr 0 0)], [some (.box [.int .i64 b0_0, .str b0_1, .int .u64 b0_2, .int .i64 b0_3, .int .i64 b0_4])]⟩
theorem l4_1_eq (k m0 m : Nat) (x0 : List UInt8) (x3 : List S29) (x6 : Int) (x7 : Int) (x8 : Int) (b0_0 : Int) (b0_1 : List UInt8) (b0_2 : Int) (b0_3 : Int) (b0_4 : Int) : l4_1 k m0 (m + 1) x0 x3 x6 x7 x8 b0_0 b0_1 b0_2 b0_3 b0_4 = if x6 < b0_3 then if 0 ≤ x6 then if x6 < (x0.length : Int) then if (((x0.getD x6.toNat 0).toNat : Nat) : Int) = (10 : Int) then l4_1 k m0 m x0 x3 (wrap64 (x6 + (1 : Int))) (wrap64 (x7 + (1 : Int))) x8 b0_0 b0_1 b0_2 b0_3 b0_4 else l4_1 k m0 m x0 x3 (wrap64 (x6 + (1 : Int))) x7 x8 b0_0 b0_1 b0_2 b0_3 b0_4 else none else none else if b0_4 ≠ x7 then some ([.bool false], []) else l4_0 k m0 x0 x3 (wrap64 (b0_3 + (b0_1.length : Int))) x7 (wrap64 (x8 + (1 : Int))) := by kernel_rfl
theorem l4_0_eq (k m : Nat) (x0 : List UInt8) (x3 : List S29) (x6 : Int) (x7 : Int) (x8 : Int) : l4_0 k (m + 1) x0 x3 x6 x7 x8 = if x8 < (x3.length : Int) then if 0 ≤ x8 then if x8 < (x3.length : Int) then if (x3.getD x8.toNat z29).f3 < x6 then some ([.bool false], []) else if (wrap64 ((x3.getD x8.toNat z29).f3 + (((x3.getD x8.toNat z29).f1).length : Int))) > (x0.length : Int) then some ([.bool false], []) else if (x3.getD x8.toNat z29).f1 = [] then some ([.bool false], []) else if 0 ≤ (wrap64 ((x3.getD x8.toNat z29).f3 + (((x3.getD x8.toNat z29).f1).length : Int))) then if (wrap64 ((x3.getD x8.toNat z29).f3 + (((x3.getD x8.toNat z29).f1).length : Int))) ≤ (x0.length : Int) then if 0 ≤ (x3.getD x8.toNat z29).f3 then if (x3.getD x8.toNat z29).f3 ≤ (wrap64 ((x3.getD x8.toNat z29).f3 + (((x3.getD x8.toNat z29).f1).length : Int))) then if ((x0.take (wrap64 ((x3.getD x8.toNat z29).f3 + (((x3.getD x8.toNat z29).f1).length : Int))).toNat).drop ((x3.getD x8.toNat z29).f3).toNat) ≠ (x3.getD x8.toNat z29).f1 then some ([.bool false], []) else (evF T k 14 [.str x0, .int .i64 x6] []).bind fun r => res14 r fun y7 => if y7 ≠ (x3.getD x8.toNat z29).f3 then some ([.bool false], []) else l4_1 k m k x0 x3 x6 x7 x8 ((x3.getD x8.toNat z29).f0) ((x3.getD x8.toNat z29).f1) ((x3.getD x8.toNat z29).f2) ((x3.getD x8.toNat z29).f3) ((x3.getD x8.toNat z29).f4) else none else none else none else none else none else none else (evF T k 14 [.str x0, .int .i64 x6] []).bind fun r => res14 r fun y8 => some ([.bool (decide (y8 = (x0.length : Int)))], []) := by kernel_rfl
theorem f4_eq (k : Nat) (a0 : List UInt8) : evF T (k + 1) 4 [.str a0] [] = (evF T k 11 [] []).bind fun r => res11 r fun y1 => if (!y1) = true then (evF T k 11 [] []).bind fun r => res11 r fun y2 => some ([.bool y2], []) else if (a0.length : Int) > (2000 : Int) then (evF T k 11 [] []).bind fun r => res11 r fun y3 => some ([.bool y3], []) else (evF T k 12 [.str a0] []).bind fun r => res12 r fun y4 y5 y6 => if y6 ≠ (0 : Int) then some ([.bool true], []) else l4_0 k k a0 y4 (0 : Int) (1 : Int) (0 : Int) := by kernel_rfl
noncomputable def l15_0 (k m : Nat) (x0 : List UInt8) (x3 : List UInt8) (x4 : Int) : Option (Ans N) := lp T 15 0 [1, 1, 0, 1, 0] k [] m ⟨[(0, .str x0), (3, .str x3), (4, .int .i64 x4)], []⟩
theorem l15_0_eq (k m : Nat) (x0 : List UInt8) (x3 : List UInt8) (x4 : Int) : l15_0 k (m + 1) x0 x3 x4 = if x4 < (x0.length : Int) then if 0 ≤ x4 then if x4 < (x0.length : Int) then if (((x0.getD x4.toNat 0).toNat : Nat) : Int) ≠ (10 : Int) then if 0 ≤ (wrap64 (x4 + (1 : Int))) then if (wrap64 (x4 + (1 : Int))) ≤ (x0.length : Int) then if 0 ≤ x4 then if x4 ≤ (wrap64 (x4 + (1 : Int))) then chk (strOK x3 ((x0.take (wrap64 (x4 + (1 : Int))).toNat).drop x4.toNat)) (l15_0 k m x0 (x3 ++ ((x0.take (wrap64 (x4 + (1 : Int))).toNat).drop x4.toNat)) (wrap64 (x4 + (1 : Int)))) else none else none else none else none else l15_0 k m x0 x3 (wrap64 (x4 + (1 : Int))) else none else none else chk (strOK x3 [(10 : UInt8)]) (some ([.str (x3 ++ [(10 : UInt8)])], [])) := by kernel_rfl
theorem f15_eq (k : Nat) (a0 : List UInt8) : evF T (k + 1) 15 [.str a0] [] = l15_0 k k a0 [(47 : UInt8), (47 : UInt8)] (0 : Int) := by kernel_rfl
noncomputable def l16_0 (k m : Nat) (x0 : List S29) (x1 : List S29) (x5 : Int) : Option (Ans N) := lp T 16 0 [1, 1, 0, 1, 0] k [] m ⟨[(0, .vsl none (.named 29) x0), (1, .vsl none (.named 29) x1), (5, .int .i64 x5)], []⟩
theorem l16_0_eq (k m : Nat) (x0 : List S29) (x1 : List S29) (x5 : Int) : l16_0 k (m + 1) x0 x1 x5 = if x5 < (x0.length : Int) then if 0 ≤ x5 then if x5 < (x0.length : Int) then if 0 ≤ x5 then if x5 < (x1.length : Int) then if (x0.getD x5.toNat z29).f0 ≠ (x1.getD x5.toNat z29).f0 then some ([.bool false], []) else if 0 ≤ x5 then if x5 < (x0.length : Int) then if 0 ≤ x5 then if x5 < (x1.length : Int) then if (x0.getD x5.toNat z29).f1 ≠ (x1.getD x5.toNat z29).f1 then some ([.bool false], []) else if 0 ≤ x5 then if x5 < (x0.length : Int) then if 0 ≤ x5 then if x5 < (x1.length : Int) then if (x0.getD x5.toNat z29).f2 ≠ (x1.getD x5.toNat z29).f2 then some ([.bool false], []) else l16_0 k m x0 x1 (wrap64 (x5 + (1 : Int))) else none else none else none else none else none else none else none else none else none else none else none else none else some ([.bool true], []) := by kernel_rfl
theorem f16_eq (k : Nat) (a0 : List S29) (a1 : List S29) : evF T (k + 1) 16 [.vsl none (.named 29) a0, .vsl none (.named 29) a1] [] = if (a0.length : Int) ≠ (a1.length : Int) then some ([.bool false], []) else l16_0 k k a0 a1 (0 : Int) := by kernel_rfl
noncomputable def l5_0 (k m : Nat) (x1 : List (List UInt8)) (x5 : List S29) (x8 : List UInt8) (x9 : Int) : Option (Ans N) := lp T 5 0 [1, 1, 1, 1, 1, 0, 1, 0] k [] m ⟨[(1, .vsl none .str x1), (5, .vsl none (.named 29) x5), (8, .str x8), (9, .int .i64 x9)], []⟩
noncomputable def j5_0 (k m0 : Nat) (x1 : List (List UInt8)) (x5 : List S29) (x8 : List UInt8) (x9 : Int) (x10 : List UInt8) : Option (Ans N) := jn T 5 0 [1, 1, 1, 1, 1, 0, 1, 0, 0, 1, 0, 0, 1, 1] k [m0] ⟨[(1, .vsl none .str x1), (5, .vsl none (.named 29) x5), (8, .str x8), (9, .int .i64 x9), (10, .str x10)], []⟩
theorem j5_0_eq (k m0 : Nat) (x1 : List (List UInt8)) (x5 : List S29) (x8 : List UInt8) (x9 : Int) (x10 : List UInt8) : j5_0 k m0 x1 x5 x8 x9 x10 = if 0 ≤ x9 then if x9 < (x5.length : Int) then chk (strOK x10 ((x5.getD x9.toNat z29).f1)) (chk (strOK x8 (x10 ++ (x5.getD x9.toNat z29).f1)) (l5_0 k m0 x1 x5 (x8 ++ (x10 ++ (x5.getD x9.toNat z29).f1)) (wrap64 (x9 + (1 : Int))))) else none else none := by unfold j5_0; rw [jn_eq]; kernel_rfl
theorem l5_0_eq (k m : Nat) (x1 : List (List UInt8)) (x5 : List S29) (x8 : List UInt8) (x9 : Int) : l5_0 k (m + 1) x1 x5 x8 x9 = if x9 < (x5.length : Int) then if x9 < (x1.length : Int) then if 0 ≤ x9 then if x9 < (x1.length : Int) then if ((x1.getD x9.toNat []).length : Int) > (20 : Int) then some ([.bool true], []) else if 0 ≤ x9 then if x9 < (x1.length : Int) then (evF T k 15 [.str (x1.getD x9.toNat [])] []).bind fun r => res15 r fun y8 => chk (strOK [(9 : UInt8), (10 : UInt8)] y8) (chk (strOK ([(9 : UInt8), (10 : UInt8)] ++ y8) [(32 : UInt8)]) (j5_0 k m x1 x5 x8 x9 (([(9 : UInt8), (10 : UInt8)] ++ y8) ++ [(32 : UInt8)]))) else none else none else none else none else j5_0 k m x1 x5 x8 x9 [(32 : UInt8)] else chk (strOK x8 [(32 : UInt8), (47 : UInt8), (47 : UInt8), (32 : UInt8), (101 : UInt8), (110 : UInt8), (100 : UInt8)]) ((evF T k 12 [.str (x8 ++ [(32 : UInt8), (47 : UInt8), (47 : UInt8), (32 : UInt8), (101 : UInt8), (110 : UInt8), (100 : UInt8)])] []).bind fun r => res12 r fun y9 y10 y11 => if y11 = (0 : Int) then (evF T k 16 [.vsl none (.named 29) x5, .vsl none (.named 29) y9] []).bind fun r => res16 r fun y12 => some ([.bool y12], []) else some ([.bool false], [])) := by kernel_rfl
theorem f5_eq (k : Nat) (a0 : List UInt8) (a1 : List (List UInt8)) : evF T (k + 1) 5 [.str a0, .vsl none .str a1] [] = (evF T k 11 [] []).bind fun r => res11 r fun y1 => if (!y1) = true then (evF T k 11 [] []).bind fun r => res11 r fun y2 => some ([.bool y2], []) else if (a0.length : Int) > (2000 : Int) then (evF T k 11 [] []).bind fun r => res11 r fun y3 => some ([.bool y3], []) else if (a1.length : Int) > (50 : Int) then (evF T k 11 [] []).bind fun r => res11 r fun y4 => some ([.bool y4], []) else (evF T k 12 [.str a0] []).bind fun r => res12 r fun y5 y6 y7 => if y7 ≠ (0 : Int) then some ([.bool true], []) else l5_0 k k a1 y5 [] (0 : Int) := by kernel_rfl
noncomputable def l6_0 (k m : Nat) (x0 : Int) (x1 : Int) (x2 : Int) (x7 : List UInt8) (x8 : Int) : Option (Ans N) := lp T 6 0 [1, 1, 1, 0, 1, 0] k [] m ⟨[(0, .int .u64 x0), (1, .int .u8 x1), (2, .int .u8 x2), (7, .str x7), (8, .int .i64 x8)], []⟩
noncomputable def l6_1 (k m : Nat) (x0 : Int) (x2 : Int) (x7 : List UInt8) (x33 : Int) (x34 : Int) (r0 : List Int) : Option (Ans N) := lp T 6 0 [1, 1, 1, 1, 0, 1, 0] k [] m ⟨[(0, .int .u64 x0), (2, .int .u8 x2), (7, .str x7), (32, .sl 0 0), (33, .int .i64 x33), (34, .int .i64 x34)], [some (.row 0 0 27 (.int .u64) r0)]⟩
noncomputable def l6_2 (k m0 m : Nat) (x0 : Int) (x2 : Int) (x7 : List UInt8) (x10 : Int) (x11 : List UInt8) (x12 : Int) (x33 : Int) (x34 : Int) (r0 : List Int) : Option (Ans N) := lp T 6 0 [1, 1, 1, 1, 0, 1, 0, 0, 1, 1, 0, 0, 1, 1, 0, 1, 0] k [m0] m ⟨[(0, .int .u64 x0), (2, .int .u8 x2), (7, .str x7), (10, .int .u64 x10), (11, .str x11), (12, .int .u64 x12), (32, .sl 0 0), (33, .int .i64 x33), (34, .int .i64 x34)], [some (.row 0 0 27 (.int .u64) r0)]⟩
noncomputable def j6_0 (k m0 : Nat) (x0 : Int) (x2 : Int) (x7 : List UInt8) (x10 : Int) (x11 : List UInt8) (x33 : Int) (x34 : Int) (r0 : List Int) : Option (Ans N) := jn T 6 0 [1, 1, 1, 1, 0, 1, 0, 0, 1, 1, 0, 0, 1, 1, 1, 1] k [m0] ⟨[(0, .int .u64 x0), (2, .int .u8 x2), (7, .str x7), (10, .int .u64 x10), (11, .str x11), (32, .sl 0 0), (33, .int .i64 x33), (34, .int .i64 x34)], [some (.row 0 0 27 (.int .u64) r0)]⟩
noncomputable def j6_1 (k m0 : Nat) (x0 : Int) (x2 : Int) (x7 : List UInt8) (x10 : Int) (x13 : List UInt8) (x33 : Int) (x34 : Int) (r0 : List Int) : Option (Ans N) := jn T 6 0 [1, 1, 1, 1, 0, 1, 0, 0, 1, 1, 0, 0, 1, 1, 1, 1, 1, 1] k [m0] ⟨[(0, .int .u64 x0), (2, .int .u8 x2), (7, .str x7), (10, .int .u64 x10), (13, .str x13), (32, .sl 0 0), (33, .int .i64 x33), (34, .int .i64 x34)], [some (.row 0 0 27 (.int .u64) r0)]⟩
noncomputable def j6_2 (k m0 : Nat) (x0 : Int) (x2 : Int) (x7 : List UInt8) (x13 : List UInt8) (x33 : Int) (x34 : Int) (r0 : List Int) : Option (Ans N) := jn T 6 0 [1, 1, 1, 1, 0, 1, 0, 0, 1, 1, 0, 0, 1, 1, 1, 1, 1, 1, 1] k [m0] ⟨[(0, .int .u64 x0), (2, .int .u8 x2), (7, .str x7), (13, .str x13), (32, .sl 0 0), (33, .int .i64 x33), (34, .int .i64 x34)], [some (.row 0 0 27 (.int .u64) r0)]⟩
theorem j6_2_eq (k m0 : Nat) (x0 : Int) (x2 : Int) (x7 : List UInt8) (x13 : List UInt8) (x33 : Int) (x34 : Int) (r0 : List Int) : j6_2 k m0 x0 x2 x7 x13 x33 x34 r0 = chk (strOK x13 [(59 : UInt8)]) ((evF T k 12 [.str (x13 ++ [(59 : UInt8)])] []).bind fun r => res12 r fun y2 y3 y4 => if y4 ≠ (0 : Int) then some ([.bool false], []) else if (y2.length : Int) ≠ (2 : Int) then some ([.bool false], []) else if 0 ≤ (0 : Int) then if (0 : Int) < (y2.length : Int) then if (y2.getD (0 : Int).toNat z29).f0 ≠ (3 : Int) then some ([.bool false], []) else if 0 ≤ (0 : Int) then if (0 : Int) < (y2.length : Int) then if (y2.getD (0 : Int).toNat z29).f2 ≠ x0 then some ([.bool false], []) else if 0 ≤ (0 : Int) then if (0 : Int) < (y2.length : Int) then if (y2.getD (0 : Int).toNat z29).f1 ≠ x13 then some ([.bool false], []) else if 0 ≤ (1 : Int) then if (1 : Int) < (y2.length : Int) then if (y2.getD (1 : Int).toNat z29).f2 ≠ (0 : Int) then some ([.bool false], []) else if (20 : Int) = 0 then none else chk (strOK [(43 : UInt8)] x13) (chk (strOK ([(43 : UInt8)] ++ x13) (ofBytes [(wr .u8 ((103 : Int) + ((x2).tmod (20 : Int))))])) ((evF T k 12 [.str (([(43 : UInt8)] ++ x13) ++ (ofBytes [(wr .u8 ((103 : Int) + ((x2).tmod (20 : Int))))]))] []).bind fun r => res12 r fun y5 y6 y7 => if y7 ≠ (4 : Int) then some ([.bool false], []) else if y6 ≠ (1 : Int) then some ([.bool false], []) else if (y5.length : Int) ≠ (0 : Int) then some ([.bool false], []) else l6_1 k m0 x0 x2 x7 x33 (wrap64 (x34 + (1 : Int))) r0)) else none else none else none else none else none else none else none else none) := by unfold j6_2; rw [jn_eq]; kernel_rfl
theorem j6_1_eq (k m0 : Nat) (x0 : Int) (x2 : Int) (x7 : List UInt8) (x10 : Int) (x13 : List UInt8) (x33 : Int) (x34 : Int) (r0 : List Int) : j6_1 k m0 x0 x2 x7 x10 x13 x33 x34 r0 = if x10 = (2 : Int) then chk (strOK [(48 : UInt8), (98 : UInt8)] x13) (j6_2 k m0 x0 x2 x7 ([(48 : UInt8), (98 : UInt8)] ++ x13) x33 x34 r0) else j6_2 k m0 x0 x2 x7 x13 x33 x34 r0 := by unfold j6_1; rw [jn_eq]; kernel_rfl
theorem j6_0_eq (k m0 : Nat) (x0 : Int) (x2 : Int) (x7 : List UInt8) (x10 : Int) (x11 : List UInt8) (x33 : Int) (x34 : Int) (r0 : List Int) : j6_0 k m0 x0 x2 x7 x10 x11 x33 x34 r0 = chk (strOK x7 x11) (if x10 = (16 : Int) then chk (strOK [(48 : UInt8), (120 : UInt8)] (x7 ++ x11)) (j6_1 k m0 x0 x2 x7 x10 ([(48 : UInt8), (120 : UInt8)] ++ (x7 ++ x11)) x33 x34 r0) else j6_1 k m0 x0 x2 x7 x10 (x7 ++ x11) x33 x34 r0) := by unfold j6_0; rw [jn_eq]; kernel_rfl
theorem l6_2_eq (k m0 m : Nat) (x0 : Int) (x2 : Int) (x7 : List UInt8) (x10 : Int) (x11 : List UInt8) (x12 : Int) (x33 : Int) (x34 : Int) (r0 : List Int) : l6_2 k m0 (m + 1) x0 x2 x7 x10 x11 x12 x33 x34 r0 = if x12 > (0 : Int) then if x10 = 0 then none else if x10 = 0 then none else if 0 ≤ (wr .u64 (((x12).tmod x10) + (1 : Int))) then if (wr .u64 (((x12).tmod x10) + (1 : Int))) ≤ ([(48 : UInt8), (49 : UInt8), (50 : UInt8), (51 : UInt8), (52 : UInt8), (53 : UInt8), (54 : UInt8), (55 : UInt8), (56 : UInt8), (57 : UInt8), (97 : UInt8), (98 : UInt8), (99 : UInt8), (100 : UInt8), (101 : UInt8), (102 : UInt8)].length : Int) then if 0 ≤ ((x12).tmod x10) then if ((x12).tmod x10) ≤ (wr .u64 (((x12).tmod x10) + (1 : Int))) then chk (strOK (([(48 : UInt8), (49 : UInt8), (50 : UInt8), (51 : UInt8), (52 : UInt8), (53 : UInt8), (54 : UInt8), (55 : UInt8), (56 : UInt8), (57 : UInt8), (97 : UInt8), (98 : UInt8), (99 : UInt8), (100 : UInt8), (101 : UInt8), (102 : UInt8)].take (wr .u64 (((x12).tmod x10) + (1 : Int))).toNat).drop ((x12).tmod x10).toNat) x11) (if x10 = 0 then none else l6_2 k m0 m x0 x2 x7 x10 ((([(48 : UInt8), (49 : UInt8), (50 : UInt8), (51 : UInt8), (52 : UInt8), (53 : UInt8), (54 : UInt8), (55 : UInt8), (56 : UInt8), (57 : UInt8), (97 : UInt8), (98 : UInt8), (99 : UInt8), (100 : UInt8), (101 : UInt8), (102 : UInt8)].take (wr .u64 (((x12).tmod x10) + (1 : Int))).toNat).drop ((x12).tmod x10).toNat) ++ x11) (wr .u64 ((x12).tdiv x10)) x33 x34 r0) else none else none else none else none else if x11 = [] then j6_0 k m0 x0 x2 x7 x10 [(48 : UInt8)] x33 x34 r0 else j6_0 k m0 x0 x2 x7 x10 x11 x33 x34 r0 := by kernel_rfl
theorem l6_1_eq (k m : Nat) (x0 : Int) (x2 : Int) (x7 : List UInt8) (x33 : Int) (x34 : Int) (r0 : List Int) : l6_1 k (m + 1) x0 x2 x7 x33 x34 r0 = if x34 < x33 then if 0 ≤ x34 then if x34 < (r0.length : Int) then if x34.toNat < r0.length then l6_2 k m k x0 x2 x7 (r0.getD x34.toNat (0 : Int)) [] x0 x33 x34 r0 else none else none else none else some ([.bool true], []) := by kernel_rfl
theorem l6_0_eq (k m : Nat) (x0 : Int) (x1 : Int) (x2 : Int) (x7 : List UInt8) (x8 : Int) : l6_0 k (m + 1) x0 x1 x2 x7 x8 = if (20 : Int) = 0 then none else if x8 < (wrap64 (((x1).tmod (20 : Int)))) then chk (strOK x7 [(48 : UInt8)]) (l6_0 k m x0 x1 x2 (x7 ++ [(48 : UInt8)]) (wrap64 (x8 + (1 : Int)))) else l6_1 k k x0 x2 x7 ([(10 : Int), (16 : Int), (2 : Int)].length : Int) (0 : Int) [(10 : Int), (16 : Int), (2 : Int)] := by kernel_rfl
theorem f6_eq (k : Nat) (a0 : Int) (a1 : Int) (a2 : Int) : evF T (k + 1) 6 [.int .u64 a0, .int .u8 a1, .int .u8 a2] [] = (evF T k 11 [] []).bind fun r => res11 r fun y1 => if (!y1) = true then some ([.bool false], []) else l6_0 k k a0 a1 a2 [] (0 : Int) := by kernel_rfl
noncomputable def l7_0 (k m : Nat) (x0 : List UInt8) (x3 : Int) : Option (Ans N) := lp T 7 0 [1, 1, 0, 1, 0] k [] m ⟨[(0, .str x0), (3, .int .i64 x3)], []⟩
noncomputable def j7_0 (k : Nat) (x0 : List UInt8) (x4 : List S29) (x6 : Int) (x7 : Int) : Option (Ans N) := jn T 7 0 [1, 1, 1, 1, 1, 1, 1] k [] ⟨[(0, .str x0), (4, .vsl none (.named 29) x4), (6, .int .i64 x6), (7, .int .i64 x7)], []⟩
theorem j7_0_eq (k : Nat) (x0 : List UInt8) (x4 : List S29) (x6 : Int) (x7 : Int) : j7_0 k  x0 x4 x6 x7 = if x6 = (0 : Int) then if (x4.length : Int) = (1 : Int) then if 0 ≤ (0 : Int) then if (0 : Int) < (x4.length : Int) then some ([.bool (decide ((x4.getD (0 : Int).toNat z29).f0 = x7 ∧ (x4.getD (0 : Int).toNat z29).f1 = x0 ∧ (x4.getD (0 : Int).toNat z29).f2 = (0 : Int) ∧ (x4.getD (0 : Int).toNat z29).f3 = (1 : Int) ∧ (x4.getD (0 : Int).toNat z29).f4 = (1 : Int) ∧ True))], []) else none else none else some ([.bool false], []) else some ([.bool false], []) := by unfold j7_0; rw [jn_eq]; kernel_rfl
theorem l7_0_eq (k m : Nat) (x0 : List UInt8) (x3 : Int) : l7_0 k (m + 1) x0 x3 = if x3 < (x0.length : Int) then if 0 ≤ x3 then if x3 < (x0.length : Int) then (evF T k 17 [.int .u8 (((x0.getD x3.toNat 0).toNat : Nat) : Int)] []).bind fun r => res17 r fun y5 => if (!y5) = true then if x3 = (0 : Int) then some ([.bool true], []) else if 0 ≤ x3 then if x3 < (x0.length : Int) then (evF T k 18 [.int .u8 (((x0.getD x3.toNat 0).toNat : Nat) : Int), .int .i64 (10 : Int)] []).bind fun r => res18 r fun y6 => if y6 < (0 : Int) then some ([.bool true], []) else l7_0 k m x0 (wrap64 (x3 + (1 : Int))) else none else none else l7_0 k m x0 (wrap64 (x3 + (1 : Int))) else none else none else chk (strOK [(32 : UInt8)] x0) (chk (strOK ([(32 : UInt8)] ++ x0) [(32 : UInt8)]) ((evF T k 12 [.str (([(32 : UInt8)] ++ x0) ++ [(32 : UInt8)])] []).bind fun r => res12 r fun y7 y8 y9 => if (x0.length : Int) > (64 : Int) then if y9 = (5 : Int) then if y8 = (1 : Int) then some ([.bool (decide ((y7.length : Int) = (0 : Int)))], []) else some ([.bool false], []) else some ([.bool false], []) else (evF T k 19 [.str x0] []).bind fun r => res19 r fun y10 => if y10 = true then j7_0 k x0 y7 y9 (2 : Int) else j7_0 k x0 y7 y9 (1 : Int))) := by kernel_rfl
theorem f7_eq (k : Nat) (a0 : List UInt8) : evF T (k + 1) 7 [.str a0] [] = (evF T k 11 [] []).bind fun r => res11 r fun y1 => if (!y1) = true then (evF T k 11 [] []).bind fun r => res11 r fun y2 => some ([.bool y2], []) else if (a0.length : Int) = (0 : Int) then (evF T k 11 [] []).bind fun r => res11 r fun y3 => some ([.bool y3], []) else if (a0.length : Int) > (100 : Int) then (evF T k 11 [] []).bind fun r => res11 r fun y4 => some ([.bool y4], []) else l7_0 k k a0 (0 : Int) := by kernel_rfl
noncomputable def l8_0 (k m : Nat) (x0 : List UInt8) (x1 : Int) (x30 : Int) (x31 : Int) (r0 : List Int) : Option (Ans N) := lp T 8 0 [1, 1, 1, 0, 1, 0] k [] m ⟨[(0, .str x0), (1, .int .u8 x1), (5, .sl 0 0), (30, .int .i64 x30), (31, .int .i64 x31)], [some (.row 0 0 5 (.int .u8) r0)]⟩
theorem l8_0_eq (k m : Nat) (x0 : List UInt8) (x1 : Int) (x30 : Int) (x31 : Int) (r0 : List Int) : l8_0 k (m + 1) x0 x1 x30 x31 r0 = if x31 < x30 then if 0 ≤ x31 then if x31 < (r0.length : Int) then l8_0 k m x0 x1 x30 (wrap64 (x31 + (1 : Int))) (r0.set x31.toNat (32 : Int)) else none else none else chk (strOK x0 (ofBytes r0)) ((evF T k 12 [.str (x0 ++ (ofBytes r0))] []).bind fun r => res12 r fun y4 y5 y6 => (evF T k 12 [.str x0] []).bind fun r => res12 r fun y7 y8 y9 => chk (0 ≤ (wrap64 ((wrap64 (x1)) + (1 : Int)))) (chk ((wrap64 ((wrap64 (x1)) + (1 : Int))) ≤ (wrap64 ((wrap64 (x1)) + (1 : Int)))) (chk (((1 : Nat) : Int) * (wrap64 ((wrap64 (x1)) + (1 : Int))) ≤ 281474976710656) (chk ((wrap64 ((wrap64 (x1)) + (1 : Int))) ≤ 9223372036854775807) (chk (strOK x0 (ofBytes r0)) (chk (strOK (x0 ++ (ofBytes r0)) (ofBytes (List.replicate (wrap64 ((wrap64 (x1)) + (1 : Int))).toNat (0 : Int)))) ((evF T k 12 [.str ((x0 ++ (ofBytes r0)) ++ (ofBytes (List.replicate (wrap64 ((wrap64 (x1)) + (1 : Int))).toNat (0 : Int))))] []).bind fun r => res12 r fun y10 y11 y12 => if y6 = y9 then if y6 ≠ (0 : Int) then if (y10.length : Int) = (0 : Int) then if y11 = (65536 : Int) then some ([.bool (decide (y12 = (5 : Int)))], []) else some ([.bool false], []) else some ([.bool false], []) else if y5 = (65536 : Int) then if (y10.length : Int) = (0 : Int) then if y11 = (65536 : Int) then some ([.bool (decide (y12 = (5 : Int)))], []) else some ([.bool false], []) else some ([.bool false], []) else some ([.bool false], []) else some ([.bool false], [])))))))) := by kernel_rfl
theorem f8_eq (k : Nat) (a0 : List UInt8) (a1 : Int) : evF T (k + 1) 8 [.str a0, .int .u8 a1] [] = (evF T k 11 [] []).bind fun r => res11 r fun y1 => if (!y1) = true then (evF T k 11 [] []).bind fun r => res11 r fun y2 => some ([.bool y2], []) else if (a0.length : Int) > (100 : Int) then (evF T k 11 [] []).bind fun r => res11 r fun y3 => some ([.bool y3], []) else chk (0 ≤ (wrap64 ((65536 : Int) - (a0.length : Int)))) (chk ((wrap64 ((65536 : Int) - (a0.length : Int))) ≤ (wrap64 ((65536 : Int) - (a0.length : Int)))) (chk (((1 : Nat) : Int) * (wrap64 ((65536 : Int) - (a0.length : Int))) ≤ 281474976710656) (chk ((wrap64 ((65536 : Int) - (a0.length : Int))) ≤ 9223372036854775807) (l8_0 k k a0 a1 ((List.replicate (wrap64 ((65536 : Int) - (a0.length : Int))).toNat (0 : Int)).length : Int) (0 : Int) (List.replicate (wrap64 ((65536 : Int) - (a0.length : Int))).toNat (0 : Int)))))) := by kernel_rfl
theorem f23_eq (k : Nat) (a0_0 : Int) (a0_1 : Bool) : evF T (k + 1) 23 [.agg [.int .i64 a0_0, .bool a0_1]] [] = if a0_0 < (1 : Int) then some ([.str []], []) else if a0_0 > (64 : Int) then some ([.str []], []) else if a0_1 = true then (evF T k 36 [.int .i64 a0_0] []).bind fun r => res36 r fun y1 => chk (strOK [(115 : UInt8)] y1) (some ([.str ([(115 : UInt8)] ++ y1)], [])) else (evF T k 36 [.int .i64 a0_0] []).bind fun r => res36 r fun y2 => chk (strOK [(117 : UInt8)] y2) (some ([.str ([(117 : UInt8)] ++ y2)], [])) := by kernel_rfl
theorem f9_eq (k : Nat) (a0 : List UInt8) (a1_0 : Int) (a1_1 : Bool) : evF T (k + 1) 9 [.str a0, .agg [.int .i64 a1_0, .bool a1_1]] [] = (evF T k 11 [] []).bind fun r => res11 r fun y1 => if (!y1) = true then some ([.bool false], []) else (evF T k 20 [.str a0] []).bind fun r => res20 r fun y2 y3 y4 => (evF T k 21 [.str a0] []).bind fun r => res21 r fun y5 y6 => if ¬ (y2 = y5 ∧ y3 = y6 ∧ True) then some ([.bool false], []) else if (y4 != (decide (y5 > (0 : Int)))) = true then some ([.bool false], []) else (evF T k 22 [.str a0] []).bind fun r => res22 r fun y7 => (evF T k 19 [.str a0] []).bind fun r => res19 r fun y8 => if (y7 != y8) = true then some ([.bool false], []) else (evF T k 23 [.agg [.int .i64 a1_0, .bool a1_1]] []).bind fun r => res23 r fun y9 => (evF T k 24 [.agg [.int .i64 a1_0, .bool a1_1]] []).bind fun r => res24 r fun y10 => if y9 ≠ y10 then some ([.bool false], []) else if a1_0 < (1 : Int) then some ([.bool true], []) else if a1_0 > (64 : Int) then some ([.bool true], []) else (evF T k 23 [.agg [.int .i64 a1_0, .bool a1_1]] []).bind fun r => res23 r fun y11 => (evF T k 20 [.str y11] []).bind fun r => res20 r fun y12 y13 y14 => if y14 = true then if y12 = a1_0 ∧ y13 = a1_1 ∧ True then (evF T k 23 [.agg [.int .i64 a1_0, .bool a1_1]] []).bind fun r => res23 r fun y15 => (evF T k 22 [.str y15] []).bind fun r => res22 r fun y16 => some ([.bool y16], []) else some ([.bool false], []) else some ([.bool false], []) := by kernel_rfl
noncomputable def l25_0 (k m : Nat) (x6 : List S29) (x7 : Int) (x8 : Int) (r0 : List (List UInt8)) : Option (Ans N) := lp T 25 0 [1, 1, 0, 1, 0] k [] m ⟨[(3, .sl 0 0), (6, .vsl none (.named 29) x6), (7, .int .i64 x7), (8, .int .i64 x8)], [some (.row 0 0 9 .str r0)]⟩
theorem l25_0_eq (k m : Nat) (x6 : List S29) (x7 : Int) (x8 : Int) (r0 : List (List UInt8)) : l25_0 k (m + 1) x6 x7 x8 r0 = if x8 < x7 then if 0 ≤ x8 then if x8 < (x6.length : Int) then chk ((r0.length + [(x6.getD x8.toNat z29).f1].length) * 16 ≤ 140737488355328) (l25_0 k m x6 x7 (wrap64 (x8 + (1 : Int))) (r0 ++ [(x6.getD x8.toNat z29).f1])) else none else none else (evF T k 39 [.vsl none .str r0, .str [(32 : UInt8)]] []).bind fun r => res39 r fun y1 => some ([.str y1], []) := by kernel_rfl
theorem f25_eq (k : Nat) (a0 : List S29) : evF T (k + 1) 25 [.vsl none (.named 29) a0] [] = l25_0 k k a0 (a0.length : Int) (0 : Int) [] := by kernel_rfl
noncomputable def l26_0 (k m : Nat) (x0 : List S29) (x3 : List UInt8) (x4 : Int) : Option (Ans N) := lp T 26 0 [1, 1, 0, 1, 0] k [] m ⟨[(0, .vsl none (.named 29) x0), (3, .str x3), (4, .int .i64 x4)], []⟩
noncomputable def j26_0 (k m0 : Nat) (x0 : List S29) (x3 : List UInt8) (x4 : Int) : Option (Ans N) := jn T 26 0 [1, 1, 0, 1, 0, 0, 1, 0, 0, 1] k [m0] ⟨[(0, .vsl none (.named 29) x0), (3, .str x3), (4, .int .i64 x4)], []⟩
theorem j26_0_eq (k m0 : Nat) (x0 : List S29) (x3 : List UInt8) (x4 : Int) : j26_0 k m0 x0 x3 x4 = if 0 ≤ x4 then if x4 < (x0.length : Int) then chk (strOK x3 ((x0.getD x4.toNat z29).f1)) (l26_0 k m0 x0 (x3 ++ (x0.getD x4.toNat z29).f1) (wrap64 (x4 + (1 : Int)))) else none else none := by unfold j26_0; rw [jn_eq]; kernel_rfl
theorem l26_0_eq (k m : Nat) (x0 : List S29) (x3 : List UInt8) (x4 : Int) : l26_0 k (m + 1) x0 x3 x4 = if x4 < (x0.length : Int) then if x4 > (0 : Int) then chk (strOK x3 [(32 : UInt8)]) (j26_0 k m x0 (x3 ++ [(32 : UInt8)]) x4) else j26_0 k m x0 x3 x4 else some ([.str x3], []) := by kernel_rfl
theorem f26_eq (k : Nat) (a0 : List S29) : evF T (k + 1) 26 [.vsl none (.named 29) a0] [] = l26_0 k k a0 [] (0 : Int) := by kernel_rfl
theorem f10_eq (k : Nat) (a0 : List UInt8) : evF T (k + 1) 10 [.str a0] [] = (evF T k 11 [] []).bind fun r => res11 r fun y1 => if (!y1) = true then (evF T k 11 [] []).bind fun r => res11 r fun y2 => some ([.bool y2], []) else if (a0.length : Int) > (2000 : Int) then (evF T k 11 [] []).bind fun r => res11 r fun y3 => some ([.bool y3], []) else (evF T k 12 [.str a0] []).bind fun r => res12 r fun y4 y5 y6 => if y6 ≠ (0 : Int) then if (y4.length : Int) = (0 : Int) then if y5 ≥ (0 : Int) then some ([.bool (decide (y5 ≤ (a0.length : Int)))], []) else some ([.bool false], []) else some ([.bool false], []) else (evF T k 25 [.vsl none (.named 29) y4] []).bind fun r => res25 r fun y7 => (evF T k 12 [.str y7] []).bind fun r => res12 r fun y8 y9 y10 => if y10 = (0 : Int) then if y9 = (y7.length : Int) then (evF T k 16 [.vsl none (.named 29) y4, .vsl none (.named 29) y8] []).bind fun r => res16 r fun y11 => if y11 = true then (evF T k 26 [.vsl none (.named 29) y4] []).bind fun r => res26 r fun y12 => some ([.bool (decide (y7 = y12))], []) else some ([.bool false], []) else some ([.bool false], []) else some ([.bool false], []) := by kernel_rfl
end Go.Proofs.YtpcieagmnllimaaDoor
