-- Written for this claim: a machine over plain values, and the proof that what it answers the program's calls come to.
import Derived.RowKit
import Derived.Calls
import Derived.Orders
import Derived.KernelRfl
import Derived.Deep.MidRow
import Derived.IntWalk
import Derived.RowKit3
import Derived.Laws.Small
import Derived.Below
set_option linter.unusedSimpArgs false
set_option linter.unnecessarySimpa false
set_option linter.unusedVariables false
namespace Go.Vm
open Go Go.RowKit
inductive PV where
  | bool (b : Bool)
  | prop (p : Prop) (d : Decidable p)
  | int (k : IntKind) (n : Int)
  | str (s : ByteArray)
  | vsl (tk : Option Nat) (nl : Bool) (es n : Nat) (get : Nat → List PV)
  | rop (cells : List PV) (j : Nat)
  | bptr (b j : Nat)
  | rptr (b i j : Nat)
  | sl (b i n : Nat)
  | nilp
  | agg (cells : List PV)
  | tup (vs : List PV)
  | iface (t : TypeId) (v : PV)
  | nilif
  | fn (f : FuncId)
  | bad
instance : Inhabited PV := ⟨.bad⟩
inductive PB where
  | box (cells : List PV)
  | row (es n : Nat) (get : Nat → List PV)
abbrev Env := List (Nat × PV)
structure St where
  env : Env
  hp : List (Option PB)
def look : Env → Nat → PV
  | [], _ => .bad
  | (u, v) :: e, t => bif Nat.beq u t then v else look e t
def St.put (s : St) (d : Option Tmp) (v : PV) : St :=
  match d with
  | some t => ⟨(t, v) :: s.env, s.hp⟩
  | none => s
def wr (k : IntKind) (n : Int) : Int :=
  match k with
  | .i64 => wrap64 n
  | .i8 => IntKind.wrap .i8 n
  | .i16 => IntKind.wrap .i16 n
  | .i32 => IntKind.wrap .i32 n
  | .u8 => IntKind.wrap .u8 n
  | .u16 => IntKind.wrap .u16 n
  | .u32 => IntKind.wrap .u32 n
  | .u64 => IntKind.wrap .u64 n
structure Ann where
  keep : List Tmp
  blocks : Nat
structure Cfg where
  P : Program
  zv : TypeId → List PV
  ann : Nat → Option Ann        -- by a region's number, in the function at hand
  nt : Nat
def elemOf? (P : Program) (t : TypeId) : Option TypeId :=
  match P.underlying t with
  | some (.slice e) => some e
  | _ => none
def cst (C : Cfg) (t : TypeId) : Value → PV
  | .bool b => .bool b
  | .int k n => .int k n
  | .string s => .str s
  | .pointer none => .nilp
  | .nilIface => .nilif
  | .slice none 0 0 =>
    match elemOf? C.P t with
    | some e => .vsl none true (C.P.cellsOf e) 0 (fun _ => C.zv e)
    | none => .vsl none true 0 0 (fun _ => [])
  | _ => .bad
def val (C : Cfg) (t : TypeId) (e : Env) : Operand → PV
  | .tmp u => look e u
  | .const v => cst C t v
  | .func f => .fn f
  | .global _ => .bad
def cells? : PV → Option (List PV)
  | .agg cs => some cs
  | .tup _ => none
  | .bad => none
  | v => some [v]
def PV.isCell : PV → Bool
  | .agg _ => false
  | .tup _ => false
  | .bad => false
  | _ => true
def zmatch : List PV → List Value → Bool
  | [], [] => true
  | p :: ps, v :: vs =>
    (match p, v with
     | .bool a, .bool b => a == b
     | .int k a, .int k' b => decide (k = k') && decide (a = b)
     | .str a, .string b => decide (a.data.toList = b.data.toList)
     | .vsl _ _ _ 0 _, .slice none 0 0 => true
     | .nilp, .pointer none => true
     | .nilif, .nilIface => true
     | _, _ => false) && zmatch ps vs
  | _, _ => false
def zeroOf (C : Cfg) (t : TypeId) : Option (List PV) :=
  match (C.P.info? t).bind (·.zero) with
  | some v => bif zmatch (C.zv t) v.cells.toList then some (C.zv t) else none
  | none => none
def eqCell (C : Cfg) (t : TypeId) (x y : PV) : Option PV :=
  match C.P.underlying t, x, y with
  | some (.int _), .int k a, .int k' b => if k = k' then some (.prop (a = b) inferInstance) else none
  | some .bool, .bool a, .bool b => some (.prop (a = b) inferInstance)
  | _, _, _ => none
def eqCells (C : Cfg) : List Field → List PV → List PV → Option PV
  | [], _, _ => some (.prop True inferInstance)
  | fd :: fs, xs, ys =>
    bif fd.name == "_" then none else
    match xs[fd.offset]?, ys[fd.offset]? with
    | some x, some y =>
      match eqCell C fd.type x y, eqCells C fs xs ys with
      | some (.prop p d), some (.prop q e) => some (.prop (p ∧ q) (@instDecidableAnd p q d e))
      | _, _ => none
    | _, _ => none
section
variable {ρ : Type}
def forkB (v : PV) (G : Bool → Option ρ) : Option ρ :=
  match v with
  | .bool b => if b = true then G true else G false
  | .prop p d => @ite _ p d (G true) (G false)
  | _ => none
def onTup (p : PV) (x y : Option ρ) : Option ρ :=
  match p with
  | .tup _ => x
  | _ => y
def asI (k : IntKind) (v : PV) (G : Int → Option ρ) : Option ρ :=
  match v with
  | .int k' n => if k' = k then G n else none
  | _ => none
def asB (v : PV) (G : Bool → Option ρ) : Option ρ :=
  match v with
  | .bool b => G b
  | .prop p d => G (@decide p d)
  | _ => none
def asS (v : PV) (G : ByteArray → Option ρ) : Option ρ :=
  match v with
  | .str s => G s
  | _ => none
def asV (v : PV) (G : Bool → Nat → Nat → (Nat → List PV) → Option ρ) : Option ρ :=
  match v with
  | .vsl _ nl es n get => G nl es n get
  | _ => none
def arith (C : Cfg) (t : TypeId) (op : BinOp) (x y : PV) (F : PV → Option ρ) : Option ρ :=
  match x, y with
  | .int k a, .int k' b =>
    if k = k' then
      match op with
      | .add => F (.int k (wr k (a + b)))
      | .sub => F (.int k (wr k (a - b)))
      | .mul => F (.int k (wr k (a * b)))
      | .quo => if b = 0 then none else F (.int k (wr k (a.tdiv b)))
      | .rem => if b = 0 then none else F (.int k (a.tmod b))
      | .eql => F (.prop (a = b) inferInstance)
      | .neq => F (.prop (a ≠ b) inferInstance)
      | .lss => F (.prop (a < b) inferInstance)
      | .leq => F (.prop (a ≤ b) inferInstance)
      | .gtr => F (.prop (a > b) inferInstance)
      | .geq => F (.prop (a ≥ b) inferInstance)
      | _ => none
    else none
  | .bool a, .bool b =>
    match C.P.underlying t with
    | some .bool =>
      match op with
      | .eql => F (.bool (a == b))
      | .neq => F (.bool (a != b))
      | _ => none
    | _ => none
  | .agg xs, .agg ys =>
    match C.P.underlying t with
    | some (.struct fs) =>
      bif C.P.stoodInHeld t || C.P.eqGuardType C.P.depth t then none else
      match eqCells C fs.toList xs ys with
      | some (.prop p d) =>
        match op with
        | .eql => F (.prop p d)
        | .neq => F (.prop (¬ p) (@instDecidableNot p d))
        | _ => none
      | _ => none
    | _ => none
  | _, _ => none
def fieldOf (C : Cfg) (t : TypeId) (f : Nat) : Option Field :=
  match C.P.underlying t with
  | some (.struct fs) => fs[f]?
  | _ => none
def fieldTy (fs : Array Field) (i : Nat) : TypeId :=
  match fs[i]? with
  | some f => f.type
  | none => 0
def aggSize (C : Cfg) (t : TypeId) : Option Nat :=
  match C.P.underlying t with
  | some (.struct _) => some (C.P.cellsOf t)
  | some (.array _ _) => some (C.P.cellsOf t)
  | _ => none
def loadFrom (C : Cfg) (t : TypeId) (cs : List PV) (j : Nat) (F : PV → Option ρ) : Option ρ :=
  match C.P.underlying t with
  | none => none
  | some _ =>
    match aggSize C t with
    | some s => bif Nat.ble (j + s) cs.length then F (.agg ((cs.drop j).take s)) else none
    | none => match cs[j]? with | some v => F v | none => none
def putCells : List PV → Nat → List PV → List PV
  | cs, _, [] => cs
  | cs, j, v :: vs => putCells (cs.set j v) (j + 1) vs
def fillP (C : Cfg) (fs : Array Field) : List PV → List (Nat × PV) → Option (List PV)
  | cs, [] => some cs
  | cs, (i, v) :: rest =>
    match fs[i]?, cells? v with
    | some fd, some us =>
      bif Nat.beq us.length (C.P.cellsOf fd.type) && Nat.ble (fd.offset + us.length) cs.length then fillP C fs (putCells cs fd.offset us) rest else none
    | _, _ => none
def buildP (C : Cfg) (e : Env) (t : TypeId) (parts : Array (Nat × Operand)) : Option PV :=
  match C.P.underlying t with
  | some (.struct fs) =>
    bif fs.toList.all (fun f => (C.P.info? f.type).isSome) then
      match zeroOf C t with
      | some z => (fillP C fs z (parts.toList.map fun q => (q.1, val C (fieldTy fs q.1) e q.2))).map .agg
      | none => none
    else none
  | _ => none
def maxP (x y : PV) : Option PV :=
  match x, y with
  | .int k a, .int _ b => some (.int k (if a < b then b else a))
  | _, _ => none
def minP (x y : PV) : Option PV :=
  match x, y with
  | .int k a, .int _ b => some (.int k (if b < a then b else a))
  | _, _ => none
def PV.dry1 : PV → PV
  | .vsl _ _ es n get => .vsl none false es n get
  | .bptr _ _ => .bad
  | .rptr _ _ _ => .bad
  | .sl _ _ _ => .bad
  | .agg _ => .bad
  | .tup _ => .bad
  | .iface _ _ => .bad
  | .bool b => .bool b
  | .prop p d => .prop p d
  | .int k n => .int k n
  | .str s => .str s
  | .rop c j => .rop c j
  | .nilp => .nilp
  | .nilif => .nilif
  | .fn f => .fn f
  | .bad => .bad
def PV.dry : PV → PV
  | .agg cs => .agg (cs.map PV.dry1)
  | v => v.dry1
def callArgs (C : Cfg) (e : Env) : List Operand → List TypeId → List PV
  | x :: xs, t :: ts => (val C t e x).dry :: callArgs C e xs ts
  | _, _ => []
def resAt (C : Cfg) (t : TypeId) (v : PV) (G : PV → Option ρ) : Option ρ :=
  match C.P.underlying t with
  | some .bool => asB v (fun b => G (.bool b))
  | some (.int k) => asI k v (fun n => G (.int k n))
  | some .string => asS v (fun s => G (.str s))
  | some (.slice _) => asV v (fun nl es n get => G (.vsl none nl es n get))
  | _ => none
def nilR (r : List PV) (x : Option ρ) : Option ρ :=
  match r with
  | [] => x
  | _ => none
def consR (r : List PV) (G : PV → List PV → Option ρ) : Option ρ :=
  match r with
  | v :: vs => G v vs
  | _ => none
def resList (C : Cfg) : List TypeId → List PV → (List PV → Option ρ) → Option ρ
  | [], r, G => nilR r (G [])
  | t :: ts, r, G => consR r (fun v r => resAt C t v (fun v => resList C ts r (fun vs => G (v :: vs))))
def oneOrTup : List PV → PV
  | [v] => v
  | vs => .tup vs
def stepOp (C : Cfg) (call : FuncId → List PV → Option (List PV)) (s : St) (o : Oper) (F : PV → St → Option ρ) : Option ρ :=
  match o.op with
  | .move x => F (val C o.type s.env x) s
  | .assign x => F (val C o.type s.env x) s
  | .pick c a b => forkB (val C o.type s.env c) (fun t => bif t then F (val C o.type s.env a) s else F (val C o.type s.env b) s)
  | .alloc t => match zeroOf C t with
    | some z => F (.bptr s.hp.length 0) ⟨s.env, s.hp ++ [some (.box z)]⟩
    | none => none
  | .box t x => match cells? (val C t s.env x) with
    | some cs => F (.bptr s.hp.length 0) ⟨s.env, s.hp ++ [some (.box cs)]⟩
    | none => none
  | .load t a =>
    match val C t s.env a with
    | .rop cs j => loadFrom C t cs j (fun v => F v s)
    | .bptr b j => match s.hp[b]? with | some (some (.box cs)) => loadFrom C t cs j (fun v => F v s) | _ => none
    | .rptr b i j => match s.hp[b]? with | some (some (.row _ _ get)) => loadFrom C t (get i) j (fun v => F v s) | _ => none
    | _ => none
  | .store t a x =>
    match cells? (val C t s.env x) with
    | none => none
    | some vs =>
      bif Nat.beq vs.length (C.P.cellsOf t) && vs.all PV.isCell && (C.P.info? t).isSome then
        match val C t s.env a with
        | .bptr b j => match s.hp[b]? with
          | some (some (.box cs)) => bif Nat.ble (j + vs.length) cs.length then F .bad ⟨s.env, s.hp.set b (some (.box (putCells cs j vs)))⟩ else none
          | _ => none
        | .rptr b i j => match s.hp[b]? with
          | some (some (.row es n get)) => bif Nat.ble (j + vs.length) es then F .bad ⟨s.env, s.hp.set b (some (.row es n (fun k => if k = i then putCells (get i) j vs else get k)))⟩ else none
          | _ => none
        | _ => none
      else none
  | .binOp op t x y _ => arith C t op (val C t s.env x) (val C t s.env y) (fun v => F v s)
  | .unOp .not _ x =>
    match val C o.type s.env x with
    | .bool b => F (.bool (!b)) s
    | .prop p d => F (.prop (¬ p) (@instDecidableNot p d)) s
    | _ => none
  | .fieldAddr t x f =>
    match fieldOf C t f with
    | none => none
    | some fd =>
      bif Nat.beq (C.P.cellsOf fd.type) 0 then none else
      match (C.P.info? fd.type), val C t s.env x with
      | some _, .bptr b j => F (.bptr b (j + fd.offset)) s
      | some _, .rptr b i j => F (.rptr b i (j + fd.offset)) s
      | some _, .rop cs j => F (.rop cs (j + fd.offset)) s
      | _, _ => none
  | .field t x f =>
    match fieldOf C t f, val C t s.env x with
    | some fd, .agg cs => loadFrom C fd.type cs fd.offset (fun v => F v s)
    | _, _ => none
  | .indexAddr t x i =>
    match elemOf? C.P t with
    | none => none
    | some e =>
      match C.P.info? e, val C t s.env x, val C 0 s.env i with
      | some inf, .vsl _ _ es n get, .int _ i => bif Nat.beq inf.size es then (if 0 ≤ i then (if i < (n : Int) then F (.rop (get i.toNat) 0) s else none) else none) else none
      | some inf, .sl b i0 n, .int _ i =>
        match s.hp[b]? with
        | some (some (.row es _ _)) => bif Nat.beq inf.size es then (if 0 ≤ i then (if i < (n : Int) then F (.rptr b (i0 + i.toNat) 0) s else none) else none) else none
        | _ => none
      | _, _, _ => none
  | .extract x i =>
    match val C o.type s.env x with
    | .tup vs => match vs[i]? with | some v => F v s | none => none
    | _ => none
  | .build t parts => (buildP C s.env t parts).bind (fun v => F v s)
  | .call c =>
    match c.callee with
    | .builtin .len =>
      match c.args.toList, c.argTypes.toList with
      | [x], [t] =>
        match C.P.underlying t, val C t s.env x with
        | some (.slice _), .vsl _ _ _ n _ => F (.int .i64 n) s
        | some (.slice _), .sl _ _ n => F (.int .i64 n) s
        | some .string, .str b => F (.int .i64 b.size) s
        | _, _ => none
      | _, _ => none
    | .builtin .max =>
      match c.args.toList with
      | [x, y] => (maxP (val C 0 s.env x) (val C 0 s.env y)).bind (fun v => F v s)
      | _ => none
    | .builtin .min =>
      match c.args.toList with
      | [x, y] => (minP (val C 0 s.env x) (val C 0 s.env y)).bind (fun v => F v s)
      | _ => none
    | .value x =>
      match val C 0 s.env x with
      | .fn f =>
        match C.P.funcs[f]? with
        | none => none
        | some fn =>
          bif fn.body.isSome && Nat.beq c.args.size c.argTypes.size && !(fn.name == "runtime.NumGoroutine") then
            (call f (callArgs C s.env c.args.toList c.argTypes.toList)).bind fun r =>
              resList C fn.resultTypes.toList r (fun vs => F (oneOrTup vs) s)
          else none
      | _ => none
    | _ => none
  | _ => none
def touch (C : Cfg) (s : St) (o : Oper) : List (Nat × Bool) :=
  match o.op with
  | .alloc _ => [(s.hp.length, true)]
  | .box _ _ => [(s.hp.length, true)]
  | .load t a => match val C t s.env a with | .bptr b _ => [(b, false)] | .rptr b _ _ => [(b, false)] | _ => []
  | .store t a _ => match val C t s.env a with | .bptr b _ => [(b, true)] | .rptr b _ _ => [(b, true)] | _ => []
  | .indexAddr t x _ => match val C t s.env x with | .sl b _ _ => [(b, false)] | _ => []
  | _ => []
abbrev Log := List (Nat × Nat × Bool)
def logOf (i : Nat) : List (Nat × Bool) → Log → Log
  | [], l => l
  | (b, w) :: ts, l => (i, b, w) :: logOf i ts l
def dstOk (n : Nat) (o : Oper) : Bool :=
  match o.dst with
  | some t => Nat.blt t n
  | none => true
def evOps (C : Cfg) (call : FuncId → List PV → Option (List PV)) (ops : Array Oper) : Nat → List Oper → St → Log → (St → Log → Option ρ) → Option ρ
  | _, [], s, l, F => F s l
  | i, o :: rest, s, l, F =>
    bif dstOk C.nt o then
      match o.guard with
      | none => stepOp C call s o (fun v s' => evOps C call ops (i + 1) rest (s'.put o.dst v) (logOf i (touch C s o) l) F)
      | some (j, want) =>
        match (ops[j]?).bind (·.dst) with
        | none => none
        | some t =>
          onTup (look s.env t) (evOps C call ops (i + 1) rest (s.put o.dst (.tup [])) l F) (forkB (look s.env t) (fun b =>
            bif b == want then stepOp C call (s.put (some t) (.bool b)) o (fun v s' => evOps C call ops (i + 1) rest (s'.put o.dst v) (logOf i (touch C (s.put (some t) (.bool b)) o) l) F)
            else evOps C call ops (i + 1) rest ((s.put (some t) (.bool b)).put o.dst (.tup [])) l F))
    else none
end
def befs : List Oper → Nat → List Nat → List Nat   -- what must come ahead, as bits; the list is kept back to front
  | [], _, acc => acc
  | o :: rest, i, acc => befs rest (i + 1) ((o.after.toList.foldl (fun m e => bif Region.binds .any e then m ||| 2 ^ e.on ||| acc.getD (i - 1 - e.on) 0 else m) 0) :: acc)
def befAt (n : Nat) (bs : List Nat) (i : Nat) : Nat := bs.getD (n - 1 - i) 0
def edgesOk : List Oper → Nat → Bool
  | [], _ => true
  | o :: rest, i => o.after.toList.all (fun e => !Region.binds .any e || Nat.blt e.on i) && edgesOk rest (i + 1)
def tmpOk (ops : Array Oper) (bs : List Nat) : Bool :=
  (List.range ops.size).all fun j => (List.range j).all fun i => (befAt ops.size bs j).testBit i ||
    (match ops[i]?, ops[j]? with | some x, some y => x.apart ops y | _, _ => false)
def logOk (n : Nat) (bs : List Nat) : Log → Bool
  | [] => true
  | (j, b, w) :: l => l.all (fun x => !Nat.beq x.2.1 b || !(w || x.2.2) || Nat.beq x.1 j || (befAt n bs j).testBit x.1) && logOk n bs l
section
variable {ρ : Type}
def evRegion (C : Cfg) (call : FuncId → List PV → Option (List PV)) (ops : Array Oper) (draw : Bool) (s : St) (F : St → Option ρ) : Option ρ :=
  bif draw then
    bif edgesOk ops.toList 0 && tmpOk ops (befs ops.toList 0 []) then
      evOps C call ops 0 ops.toList s [] (fun s l => bif logOk ops.size (befs ops.toList 0 []) l then F s else none)
    else none
  else evOps C call ops 0 ops.toList s [] (fun s _ => F s)
def firstId : Code → Option Nat
  | .region id _ _ => some id
  | .seq a _ => firstId a
  | .block _ a => firstId a
  | .loop a => firstId a
  | .scope a => firstId a
  | _ => none
def PV.cut1 (m : Nat) : PV → PV
  | .bptr b j => bif Nat.blt b m then .bptr b j else .bad
  | .rptr b i j => bif Nat.blt b m then .rptr b i j else .bad
  | .sl b i n => bif Nat.blt b m then .sl b i n else .bad
  | .agg _ => .bad
  | .tup _ => .bad
  | .iface _ _ => .bad
  | .vsl tk nl es n get => .vsl tk nl es n get
  | .bool b => .bool b
  | .prop p d => .bool (@decide p d)
  | .int k n => .int k n
  | .str s => .str s
  | .rop c j => .rop c j
  | .nilp => .nilp
  | .nilif => .nilif
  | .fn f => .fn f
  | .bad => .bad
def PV.cut (m : Nat) : PV → PV
  | .agg cs => .agg (cs.map (PV.cut1 m))
  | v => v.cut1 m
def PB.cut (m : Nat) : Option PB → Option PB
  | some (.box cs) => some (.box (cs.map (PV.cut1 m)))
  | some (.row es n get) => some (.row es n (fun j => (get j).map (PV.cut1 m)))
  | none => none
def keepEnv (m : Nat) (e : Env) : List Tmp → Env
  | [] => []
  | t :: ts => (t, (look e t).cut m) :: keepEnv m e ts
def canon (C : Cfg) (c : Code) (s : St) : St :=
  match firstId c with
  | none => s
  | some id => match C.ann id with
    | none => s
    | some a => ⟨keepEnv a.blocks s.env a.keep, (s.hp.take a.blocks).map (PB.cut a.blocks)⟩
def rounds (round : St → (St → Option ρ) → Option ρ) : Nat → St → Option ρ
  | 0, _ => none
  | m + 1, s => round s (fun s => rounds round m s)
def evC (C : Cfg) (call : FuncId → List PV → Option (List PV)) (k : Nat) (R : St → Option ρ) : Code → St → (St → Option ρ) → (Nat → St → Option ρ) → Option ρ
  | .skip, s, F, _ => F s
  | .region _ ops draw, s, F, _ => evRegion C call ops draw s F
  | .seq a b, s, F, X => evC C call k R a s (fun s => evC C call k R b (canon C b s) F X) X
  | .cond c x y, s, F, X => forkB (val C 0 s.env c) (fun t => bif t then evC C call k R x s F X else evC C call k R y s F X)
  | .block id a, s, F, X => evC C call k R a s F (fun i s => bif Nat.beq i id then F s else X i s)
  | .loop a, s, _, X => rounds (fun s G => evC C call k R a s (fun s => G (canon C a s)) X) k (canon C a s)
  | .exit id, s, _, X => X id s
  | .ret, s, _, _ => R s
  | _, _, _, _ => none
end
def resDry : PV → PV
  | .vsl _ nl es n get => .vsl none nl es n get
  | v => v.dry
def results (e : Env) : List ResultVar → Option (List PV)
  | [] => some []
  | .tmp t :: rs => (results e rs).map fun l => resDry (look e t) :: l
  | _ :: _ => none
def params : List PV → Nat → Env
  | [], _ => []
  | v :: vs, t => (t, v) :: params vs (t + 1)
def evF (P : Program) (zv : TypeId → List PV) (ann : FuncId → Nat → Option Ann) : Nat → FuncId → List PV → Option (List PV)
  | 0, _, _ => none
  | k + 1, f, args =>
    match P.funcs[f]? with
    | none => none
    | some fn => match fn.body with
      | none => none
      | some c =>
        bif Nat.ble args.length fn.ntmps then
          evC ⟨P, zv, ann f, fn.ntmps⟩ (evF P zv ann k) k (fun s => results s.env fn.results.toList) c ⟨params args 0, []⟩ (fun s => results s.env fn.results.toList) (fun _ _ => none)
        else none
structure Place (ρ : Type) where
  c : Code
  F : St → Option ρ
  X : Nat → St → Option ρ
section
variable {ρ : Type}
def walkTo (C : Cfg) (call : FuncId → List PV → Option (List PV)) (k : Nat) (R : St → Option ρ) : List Nat → List Nat → Code → (St → Option ρ) → (Nat → St → Option ρ) → Place ρ
  | 0 :: p, ms, .seq a b, F, X => walkTo C call k R p ms a (fun s => evC C call k R b (canon C b s) F X) X
  | _ :: p, ms, .seq _ b, F, X => walkTo C call k R p ms b F X
  | 0 :: p, ms, .cond _ x _, F, X => walkTo C call k R p ms x F X
  | _ :: p, ms, .cond _ _ y, F, X => walkTo C call k R p ms y F X
  | _ :: p, ms, .block id a, F, X => walkTo C call k R p ms a F (fun i s => bif Nat.beq i id then F s else X i s)
  | _ :: p, m :: ms, .loop a, _, X => walkTo C call k R p ms a (fun s => rounds (fun s G => evC C call k R a s (fun s => G (canon C a s)) X) m (canon C a s)) X
  | _, _, c, F, X => ⟨c, F, X⟩
end
def place (P : Program) (zv : TypeId → List PV) (ann : FuncId → Nat → Option Ann) (k : Nat) (f : FuncId) (fn : Func) (c : Code) (p ms : List Nat) : Place (List PV) :=
  walkTo ⟨P, zv, ann f, fn.ntmps⟩ (evF P zv ann k) k (fun s => results s.env fn.results.toList) p ms c (fun s => results s.env fn.results.toList) (fun _ _ => none)
def lp (P : Program) (zv : TypeId → List PV) (ann : FuncId → Nat → Option Ann) (f : FuncId) (p : List Nat) (k : Nat) (ms : List Nat) (m : Nat) (s : St) : Option (List PV) :=
  match P.funcs[f]? with
  | none => none
  | some fn => match fn.body with
    | none => none
    | some c =>
      match (place P zv ann k f fn c p ms).c with
      | .loop a => rounds (fun s G => evC ⟨P, zv, ann f, fn.ntmps⟩ (evF P zv ann k) k (fun s => results s.env fn.results.toList) a s (fun s => G (canon ⟨P, zv, ann f, fn.ntmps⟩ a s)) (place P zv ann k f fn c p ms).X) m s
      | _ => none
def jn (P : Program) (zv : TypeId → List PV) (ann : FuncId → Nat → Option Ann) (f : FuncId) (p : List Nat) (k : Nat) (ms : List Nat) (s : St) : Option (List PV) :=
  match P.funcs[f]? with
  | none => none
  | some fn => match fn.body with
    | none => none
    | some c => evC ⟨P, zv, ann f, fn.ntmps⟩ (evF P zv ann k) k (fun s => results s.env fn.results.toList) (place P zv ann k f fn c p ms).c s (place P zv ann k f fn c p ms).F (place P zv ann k f fn c p ms).X

structure BI where
  id : Nat
  es : Nat
  n : Nat
abbrev Rho := Nat → Option BI
abbrev Stab := Nat → Nat → Prop
def noRho : Rho := fun _ => none
mutual
inductive VR (S : Stab) (w : World) : Rho → PV → Value → Prop
  | bool {ρ : Rho} (b : Bool) : VR S w ρ (.bool b) (.bool b)
  | prop {ρ : Rho} (p : Prop) (d : Decidable p) : VR S w ρ (.prop p d) (.bool (@decide p d))
  | int {ρ : Rho} (k : IntKind) (n : Int) : VR S w ρ (.int k n) (.int k n)
  | str {ρ : Rho} (s : ByteArray) : VR S w ρ (.str s) (.string s)
  | vsl {ρ : Rho} (tk : Option Nat) (nl : Bool) (es n : Nat) (get : Nat → List PV) (A : Option Addr) (cap : Nat) (vs : Nat → List Value)
      (hl : ∀ j, j < n → (vs j).length = es) (hr : ∀ j, j < n → VRs S w noRho (get j) (vs j))
      (hc : ∀ j, j < n → ∀ c v, (vs j)[c]? = some v → ∃ b o, A = some ⟨b, o, none⟩ ∧ S b (o + (j * es + c)) ∧ w.cell? ⟨b, o + (j * es + c), none⟩ = some v)
      (hA : 0 < n → ∃ b o, A = some ⟨b, o, none⟩) (hcap : n ≤ cap) (hnl : nl = true → n = 0 ∧ A = none ∧ cap = 0) : VR S w ρ (.vsl tk nl es n get) (.slice A n cap)
  | rop {ρ : Rho} (cs : List PV) (j b o : Nat) (vs : List Value) (hr : VRs S w noRho cs vs) (hc : ∀ c v, vs[c]? = some v → S b (o + c) ∧ w.cell? ⟨b, o + c, none⟩ = some v) : VR S w ρ (.rop cs j) (.pointer (some ⟨b, o + j, none⟩))
  | bptr {ρ : Rho} (b j : Nat) (i : BI) (h : ρ b = some i) : VR S w ρ (.bptr b j) (.pointer (some ⟨i.id, j, none⟩))
  | rptr {ρ : Rho} (b e j : Nat) (i : BI) (h : ρ b = some i) (hl : e < i.n) : VR S w ρ (.rptr b e j) (.pointer (some ⟨i.id, e * i.es + j, none⟩))
  | sl {ρ : Rho} (b e n cap : Nat) (i : BI) (h : ρ b = some i) (hl : e + n ≤ i.n) (hc : n ≤ cap) : VR S w ρ (.sl b e n) (.slice (some ⟨i.id, e * i.es, none⟩) n cap)
  | nilp {ρ : Rho} : VR S w ρ .nilp (.pointer none)
  | agg {ρ : Rho} (cs : List PV) (vs : Array Value) (h : VRs S w ρ cs vs.toList) : VR S w ρ (.agg cs) (.agg vs)
  | tup {ρ : Rho} (cs : List PV) (vs : Array Value) (h : VRs S w ρ cs vs.toList) : VR S w ρ (.tup cs) (.tuple vs)
  | iface {ρ : Rho} (t : TypeId) (p : PV) (v : Value) (h : VR S w ρ p v) : VR S w ρ (.iface t p) (.iface t v)
  | nilif {ρ : Rho} : VR S w ρ .nilif .nilIface
  | fn {ρ : Rho} (f : FuncId) : VR S w ρ (.fn f) (.func (.func f) #[] #[])
  | bad {ρ : Rho} (v : Value) : VR S w ρ .bad v
inductive VRs (S : Stab) (w : World) : Rho → List PV → List Value → Prop
  | nil {ρ : Rho} : VRs S w ρ [] []
  | cons {ρ : Rho} (p : PV) (v : Value) (ps : List PV) (vs : List Value) (h : VR S w ρ p v) (hs : VRs S w ρ ps vs) : VRs S w ρ (p :: ps) (v :: vs)
end
section
variable {S S' : Stab} {w w' : World}
mutual
theorem VR.mono (hS : ∀ b o, S b o → S' b o ∧ w'.cell? ⟨b, o, none⟩ = w.cell? ⟨b, o, none⟩) : ∀ {ρ ρ' : Rho} {p : PV} {v : Value}, (∀ b i, ρ b = some i → ρ' b = some i) → VR S w ρ p v → VR S' w' ρ' p v
  | _, _, _, _, _, .bool b => .bool b
  | _, _, _, _, _, .prop p d => .prop p d
  | _, _, _, _, _, .int k n => .int k n
  | _, _, _, _, _, .str s => .str s
  | _, _, _, _, _, .vsl tk nl es n get A cap vs hl hr hc hA hcap hnl => .vsl tk nl es n get A cap vs hl (fun j hj => VRs.mono hS (fun _ _ h => h) (hr j hj))
      (fun j hj c v h => (let ⟨b, o, h1, h2, h3⟩ := hc j hj c v h; ⟨b, o, h1, (hS _ _ h2).1, ((hS _ _ h2).2).trans h3⟩)) hA hcap hnl
  | _, _, _, _, _, .rop cs j b o vs hr hc => .rop cs j b o vs (VRs.mono hS (fun _ _ h => h) hr) (fun c v h => (let ⟨h2, h3⟩ := hc c v h; ⟨(hS _ _ h2).1, ((hS _ _ h2).2).trans h3⟩))
  | _, _, _, _, hρ, .bptr b j i h => .bptr b j i (hρ b i h)
  | _, _, _, _, hρ, .rptr b e j i h hl => .rptr b e j i (hρ b i h) hl
  | _, _, _, _, hρ, .sl b e n cap i h hl hc => .sl b e n cap i (hρ b i h) hl hc
  | _, _, _, _, _, .nilp => .nilp
  | _, _, _, _, hρ, .agg cs vs h => .agg cs vs (VRs.mono hS hρ h)
  | _, _, _, _, hρ, .tup cs vs h => .tup cs vs (VRs.mono hS hρ h)
  | _, _, _, _, hρ, .iface t p v h => .iface t p v (VR.mono hS hρ h)
  | _, _, _, _, _, .nilif => .nilif
  | _, _, _, _, _, .fn f => .fn f
  | _, _, _, _, _, .bad v => .bad v
theorem VRs.mono (hS : ∀ b o, S b o → S' b o ∧ w'.cell? ⟨b, o, none⟩ = w.cell? ⟨b, o, none⟩) : ∀ {ρ ρ' : Rho} {p : List PV} {v : List Value}, (∀ b i, ρ b = some i → ρ' b = some i) → VRs S w ρ p v → VRs S' w' ρ' p v
  | _, _, _, _, _, .nil => .nil
  | _, _, _, _, hρ, .cons p v ps vs h hs => .cons p v ps vs (VR.mono hS hρ h) (VRs.mono hS hρ hs)
end
end
section
variable {S : Stab} {w : World} {ρ : Rho}
theorem VRs.length {ps : List PV} {vs : List Value} : VRs S w ρ ps vs → ps.length = vs.length := by
  intro h
  induction ps generalizing vs with
  | nil => cases h; rfl
  | cons p ps ih => cases h with | cons _ v _ vs h hs => rw [List.length_cons, List.length_cons, ih hs]
theorem VRs.get {ps : List PV} {vs : List Value} (h : VRs S w ρ ps vs) (i : Nat) (p : PV) (hp : ps[i]? = some p) : ∃ v, vs[i]? = some v ∧ VR S w ρ p v := by
  induction ps generalizing vs i with
  | nil => simp at hp
  | cons q ps ih =>
    cases h with
    | cons _ v _ vs h hs =>
      cases i with
      | zero => simp at hp; subst hp; exact ⟨v, rfl, h⟩
      | succ i => simp at hp; obtain ⟨u, h1, h2⟩ := ih hs i hp; exact ⟨u, by simpa using h1, h2⟩
theorem VRs.of_get {ps : List PV} {vs : List Value} (hl : ps.length = vs.length) (h : ∀ (i : Nat) (p : PV) (v : Value), ps[i]? = some p → vs[i]? = some v → VR S w ρ p v) : VRs S w ρ ps vs := by
  induction ps generalizing vs with
  | nil => cases vs with
    | nil => exact .nil
    | cons v vs => simp at hl
  | cons p ps ih =>
    cases vs with
    | nil => simp at hl
    | cons v vs => exact .cons p v ps vs (h 0 p v rfl rfl) (ih (by simpa using hl) (fun i p v h1 h2 => h (i + 1) p v (by simpa using h1) (by simpa using h2)))
theorem VRs.drop {ps : List PV} {vs : List Value} (h : VRs S w ρ ps vs) (n : Nat) : VRs S w ρ (ps.drop n) (vs.drop n) := by
  refine VRs.of_get (by simp [h.length]) (fun i p v h1 h2 => ?_)
  rw [List.getElem?_drop] at h1 h2
  obtain ⟨u, h3, h4⟩ := h.get _ p h1
  rw [h3] at h2; injection h2 with h2; subst h2; exact h4
theorem VRs.take {ps : List PV} {vs : List Value} (h : VRs S w ρ ps vs) (n : Nat) : VRs S w ρ (ps.take n) (vs.take n) := by
  refine VRs.of_get (by simp [h.length]) (fun i p v h1 h2 => ?_)
  rw [List.getElem?_take] at h1 h2
  by_cases hi : i < n
  · rw [if_pos hi] at h1 h2
    obtain ⟨u, h3, h4⟩ := h.get _ p h1
    rw [h3] at h2; injection h2 with h2; subst h2; exact h4
  · rw [if_neg hi] at h1; exact absurd h1 (by simp)
theorem VRs.set {ps : List PV} {vs : List Value} (h : VRs S w ρ ps vs) (j : Nat) {p : PV} {v : Value} (hp : VR S w ρ p v) : VRs S w ρ (ps.set j p) (vs.set j v) := by
  refine VRs.of_get (by simp [h.length]) (fun i q u h1 h2 => ?_)
  rw [List.getElem?_set] at h1 h2
  have hl := h.length
  by_cases e : j = i
  · rw [if_pos e] at h1 h2
    by_cases hi : j < ps.length
    · rw [if_pos hi] at h1; rw [if_pos (by omega)] at h2
      injection h1 with h1; injection h2 with h2; subst h1 h2; exact hp
    · rw [if_neg hi] at h1; exact absurd h1 (by simp)
  · rw [if_neg e] at h1 h2
    obtain ⟨u', h3, h4⟩ := h.get _ q h1
    rw [h3] at h2; injection h2 with h2; subst h2; exact h4
theorem VRs.append {ps qs : List PV} {vs us : List Value} (h : VRs S w ρ ps vs) (k : VRs S w ρ qs us) : VRs S w ρ (ps ++ qs) (vs ++ us) := by
  induction ps generalizing vs with
  | nil => cases h; exact k
  | cons p ps ih => cases h with | cons _ v _ vs h hs => exact .cons _ _ _ _ h (ih hs)
def putVals : List Value → Nat → List Value → List Value
  | cs, _, [] => cs
  | cs, j, v :: vs => putVals (cs.set j v) (j + 1) vs
theorem VRs.put {ps : List PV} {vs : List Value} (h : VRs S w ρ ps vs) (j : Nat) {qs : List PV} {us : List Value} (k : VRs S w ρ qs us) : VRs S w ρ (putCells ps j qs) (putVals vs j us) := by
  induction qs generalizing ps vs us j with
  | nil => cases k; exact h
  | cons q qs ih => cases k with | cons _ u _ us k ks => exact ih (h.set j k) (j + 1) ks
theorem VR.dry1 {p : PV} {v : Value} (h : VR S w ρ p v) : VR S w noRho p.dry1 v := by
  cases h with
  | vsl tk nl es n get A cap vs hl hr hc hA hcap hnl => exact .vsl _ _ _ _ _ _ _ vs hl hr hc hA hcap (fun h => absurd h (by simp))
  | rop cs j b o vs hr hc => exact .rop _ _ _ _ vs hr hc
  | bool b => exact .bool b
  | prop p d => exact .prop p d
  | int k n => exact .int k n
  | str s => exact .str s
  | nilp => exact .nilp
  | nilif => exact .nilif
  | fn f => exact .fn f
  | bptr => exact .bad _
  | rptr => exact .bad _
  | sl => exact .bad _
  | agg => exact .bad _
  | tup => exact .bad _
  | iface => exact .bad _
  | bad => exact .bad _
theorem VRs.dry1 {ps : List PV} {vs : List Value} (h : VRs S w ρ ps vs) : VRs S w noRho (ps.map PV.dry1) vs := by
  induction ps generalizing vs with
  | nil => cases h; exact .nil
  | cons p ps ih => cases h with | cons _ v _ vs h hs => exact .cons _ _ _ _ h.dry1 (ih hs)
theorem VR.dry {p : PV} {v : Value} (h : VR S w ρ p v) : VR S w noRho p.dry v := by
  cases h with
  | agg cs vs h => exact .agg _ _ h.dry1
  | vsl tk nl es n get A cap vs hl hr hc hA hcap hnl => exact VR.dry1 (ρ := ρ) (.vsl tk nl es n get A cap vs hl hr hc hA hcap hnl)
  | rop cs j b o vs hr hc => exact .rop _ _ _ _ vs hr hc
  | bool b => exact .bool b
  | prop p d => exact .prop p d
  | int k n => exact .int k n
  | str s => exact .str s
  | nilp => exact .nilp
  | nilif => exact .nilif
  | fn f => exact .fn f
  | bptr => exact .bad _
  | rptr => exact .bad _
  | sl => exact .bad _
  | tup => exact .bad _
  | iface => exact .bad _
  | bad => exact .bad _
theorem VR.resDry {p : PV} {v : Value} (h : VR S w ρ p v) : VR S w noRho (resDry p) v := by
  cases h with
  | vsl tk nl es n get A cap vs hl hr hc hA hcap hnl => exact .vsl _ _ _ _ _ _ _ vs hl hr hc hA hcap hnl
  | agg cs vs h => exact .agg _ _ h.dry1
  | rop cs j b o vs hr hc => exact .rop _ _ _ _ vs hr hc
  | bool b => exact .bool b
  | prop p d => exact .prop p d
  | int k n => exact .int k n
  | str s => exact .str s
  | nilp => exact .nilp
  | nilif => exact .nilif
  | fn f => exact .fn f
  | bptr => exact .bad _
  | rptr => exact .bad _
  | sl => exact .bad _
  | tup => exact .bad _
  | iface => exact .bad _
  | bad => exact .bad _
theorem VR.cut1 {p : PV} {v : Value} (m : Nat) (h : VR S w ρ p v) : VR S w (fun b => if b < m then ρ b else none) (p.cut1 m) v := by
  cases h with
  | vsl tk nl es n get A cap vs hl hr hc hA hcap hnl => exact .vsl _ _ _ _ _ _ _ vs hl hr hc hA hcap hnl
  | rop cs j b o vs hr hc => exact .rop _ _ _ _ vs hr hc
  | bool b => exact .bool b
  | prop p d => exact .bool _
  | int k n => exact .int k n
  | str s => exact .str s
  | nilp => exact .nilp
  | nilif => exact .nilif
  | fn f => exact .fn f
  | bptr b j i h =>
    by_cases hb : b < m
    · have e : Nat.blt b m = true := by simpa [Nat.blt_eq] using hb
      simp only [PV.cut1, e, cond_true]; exact .bptr b j i (by rw [if_pos hb]; exact h)
    · have e : Nat.blt b m = false := by rw [← Bool.not_eq_true]; simpa [Nat.blt_eq] using hb
      simp only [PV.cut1, e, cond_false]; exact .bad _
  | rptr b e j i h hl =>
    by_cases hb : b < m
    · have e : Nat.blt b m = true := by simpa [Nat.blt_eq] using hb
      simp only [PV.cut1, e, cond_true]; exact .rptr b _ j i (by rw [if_pos hb]; exact h) hl
    · have e : Nat.blt b m = false := by rw [← Bool.not_eq_true]; simpa [Nat.blt_eq] using hb
      simp only [PV.cut1, e, cond_false]; exact .bad _
  | sl b e n cap i h hl hc =>
    by_cases hb : b < m
    · have e : Nat.blt b m = true := by simpa [Nat.blt_eq] using hb
      simp only [PV.cut1, e, cond_true]; exact .sl b _ n cap i (by rw [if_pos hb]; exact h) hl hc
    · have e : Nat.blt b m = false := by rw [← Bool.not_eq_true]; simpa [Nat.blt_eq] using hb
      simp only [PV.cut1, e, cond_false]; exact .bad _
  | agg => exact .bad _
  | tup => exact .bad _
  | iface => exact .bad _
  | bad => exact .bad _
theorem VRs.cut1 {ps : List PV} {vs : List Value} (m : Nat) (h : VRs S w ρ ps vs) : VRs S w (fun b => if b < m then ρ b else none) (ps.map (PV.cut1 m)) vs := by
  induction ps generalizing vs with
  | nil => cases h; exact .nil
  | cons p ps ih => cases h with | cons _ v _ vs h hs => exact .cons _ _ _ _ (h.cut1 m) (ih hs)
theorem VR.cut {p : PV} {v : Value} (m : Nat) (h : VR S w ρ p v) : VR S w (fun b => if b < m then ρ b else none) (p.cut m) v := by
  have h1 := h.cut1 m
  cases h with
  | agg cs vs h => exact .agg _ _ (h.cut1 m)
  | _ => exact h1
theorem VR.cells {p : PV} {v : Value} (h : VR S w ρ p v) {cs : List PV} (hc : cells? p = some cs) : VRs S w ρ cs v.cells.toList := by
  have one : ∀ {q : PV} {u : Value}, VR S w ρ q u → VRs S w ρ [q] [u] := fun h => .cons _ _ _ _ h .nil
  cases h with
  | agg cs vs h => simp only [cells?, Option.some.injEq] at hc; subst hc; exact h
  | tup => simp [cells?] at hc
  | bad => simp [cells?] at hc
  | vsl tk nl es n get A cap vs hl hr hc' hA hcap hnl => simp only [cells?, Option.some.injEq] at hc; subst hc; exact one (.vsl _ _ _ _ _ _ _ vs hl hr hc' hA hcap hnl)
  | rop cs j b o vs hr hc' => simp only [cells?, Option.some.injEq] at hc; subst hc; exact one (.rop _ _ _ _ vs hr hc')
  | bool b => simp only [cells?, Option.some.injEq] at hc; subst hc; exact one (.bool b)
  | prop p d => simp only [cells?, Option.some.injEq] at hc; subst hc; exact one (.prop p d)
  | int k n => simp only [cells?, Option.some.injEq] at hc; subst hc; exact one (.int k n)
  | str s => simp only [cells?, Option.some.injEq] at hc; subst hc; exact one (.str s)
  | nilp => simp only [cells?, Option.some.injEq] at hc; subst hc; exact one .nilp
  | nilif => simp only [cells?, Option.some.injEq] at hc; subst hc; exact one .nilif
  | fn f => simp only [cells?, Option.some.injEq] at hc; subst hc; exact one (.fn f)
  | bptr b j i h => simp only [cells?, Option.some.injEq] at hc; subst hc; exact one (.bptr b j i h)
  | rptr b e j i h hl => simp only [cells?, Option.some.injEq] at hc; subst hc; exact one (.rptr b e j i h hl)
  | sl b e n cap i h hl hc' => simp only [cells?, Option.some.injEq] at hc; subst hc; exact one (.sl b e n cap i h hl hc')
  | iface t p v h => simp only [cells?, Option.some.injEq] at hc; subst hc; exact one (.iface t p v h)
theorem zmatch_VRs : ∀ {ps : List PV} {vs : List Value}, zmatch ps vs = true → VRs S w ρ ps vs := by
  intro ps
  induction ps with
  | nil => intro vs h; cases vs with
    | nil => exact .nil
    | cons v vs => simp [zmatch] at h
  | cons p ps ih =>
    intro vs h
    cases vs with
    | nil => simp [zmatch] at h
    | cons v vs =>
      simp only [zmatch, Bool.and_eq_true] at h
      refine .cons _ _ _ _ ?_ (ih h.2)
      have h1 := h.1
      split at h1
      · rw [eq_of_beq h1]; exact .bool _
      · simp only [Bool.and_eq_true, decide_eq_true_eq] at h1; rw [h1.1, h1.2]; exact .int _ _
      · rename_i a b
        have h1 := of_decide_eq_true h1
        have : a = b := by
          obtain ⟨x⟩ := a
          obtain ⟨y⟩ := b
          have : x = y := Array.toList_inj.mp h1
          rw [this]
        rw [this]; exact .str _
      · exact .vsl _ _ _ _ _ _ _ (fun _ => []) (fun j hj => absurd hj (by omega)) (fun j hj => absurd hj (by omega)) (fun j hj => absurd hj (by omega)) (fun h => absurd h (by omega)) (Nat.le_refl _) (fun _ => ⟨rfl, rfl, rfl⟩)
      · exact .nilp
      · exact .nilif
      · exact absurd h1 (by simp)
end

theorem info_of_underlying {P : Program} {t : TypeId} {d : TypeDesc} (h : P.underlying t = some d) : ∃ i, P.info? t = some i := by
  unfold Program.underlying at h
  cases hi : P.info? t with
  | none => rw [hi] at h; simp at h
  | some i => exact ⟨i, rfl⟩
theorem cellsOf_eq {P : Program} {t : TypeId} {i : TypeInfo} (h : P.info? t = some i) : P.cellsOf t = i.size := by
  simp [Program.cellsOf, h]
section
variable {S : Stab} {w : World} {ρ : Rho} {C : Cfg}
theorem load_ok {R : Type} {t : TypeId} {cs : List PV} {vs : List Value} {b o j : Nat} {F : PV → Option R} {r : R} (h : loadFrom C t cs j F = some r) (hr : VRs S w ρ cs vs)
    (hc : ∀ (c : Nat) (v : Value), vs[c]? = some v → w.cell? ⟨b, o + c, none⟩ = some v) :
    ∃ p u, F p = some r ∧ VR S w ρ p u ∧ (Instr.loadAt t (.pointer (some ⟨b, o + j, none⟩))).run C.P w = .ok u w := by
  unfold loadFrom at h
  have hlen := hr.length
  cases hd : C.P.underlying t with
  | none => rw [hd] at h; exact absurd h (by simp)
  | some d =>
    rw [hd] at h
    dsimp only at h
    obtain ⟨i, hi⟩ := info_of_underlying hd
    cases ha : aggSize C t with
    | some s =>
      rw [ha] at h
      dsimp only at h
      have hs : s = i.size ∧ d.isRow = true := by
        unfold aggSize at ha
        rw [hd] at ha
        split at ha <;> simp_all [cellsOf_eq hi]
      by_cases hle : Nat.ble (j + s) cs.length = true
      · rw [hle, cond_true] at h
        rw [Nat.ble_eq] at hle
        refine ⟨_, .agg ((vs.drop j).take s).toArray, h, .agg _ _ ((hr.drop j).take s), ?_⟩
        refine run_loadAt_mid w b (o + j) t ((vs.drop j).take s) d (fun k v hk => ?_) hd hs.2 ?_
        · rw [List.getElem?_take] at hk
          by_cases hks : k < s
          · rw [if_pos hks, List.getElem?_drop] at hk
            rw [Nat.add_assoc]
            exact hc _ _ hk
          · rw [if_neg hks] at hk; exact absurd hk (by simp)
        · rw [hi]; simp; omega
      · rw [Bool.not_eq_true] at hle
        rw [hle, cond_false] at h
        exact absurd h (by simp)
    | none =>
      rw [ha] at h
      dsimp only at h
      have hagg : (isAgg t).run C.P w = .ok false w := by
        unfold isAgg
        rw [Sem.run_bind, run_underlying hd w]
        unfold aggSize at ha
        rw [hd] at ha
        cases d <;> simp_all
      cases hp : cs[j]? with
      | none => rw [hp] at h; exact absurd h (by simp)
      | some p =>
        rw [hp] at h
        obtain ⟨u, h1, h2⟩ := hr.get j p hp
        refine ⟨p, u, h, h2, ?_⟩
        simp only [Instr.loadAt, Instr.sureAddr, loadVar, Sem.run_bind, Sem.run_pure, Result.andThen_ok, hagg]
        simp [run_load, hc j u h1]
theorem cst_VR (t : TypeId) (v : Value) : VR S w ρ (cst C t v) v := by
  unfold cst
  split
  · exact .bool _
  · exact .int _ _
  · exact .str _
  · exact .nilp
  · exact .nilif
  · split
    · exact .vsl _ _ _ _ _ _ _ (fun _ => []) (fun j hj => absurd hj (by omega)) (fun j hj => absurd hj (by omega)) (fun j hj => absurd hj (by omega)) (fun h => absurd h (by omega)) (Nat.le_refl _) (fun _ => ⟨rfl, rfl, rfl⟩)
    · exact .vsl _ _ _ _ _ _ _ (fun _ => []) (fun j hj => absurd hj (by omega)) (fun j hj => absurd hj (by omega)) (fun j hj => absurd hj (by omega)) (fun h => absurd h (by omega)) (Nat.le_refl _) (fun _ => ⟨rfl, rfl, rfl⟩)
  · exact .bad _
theorem val_VR {e : Env} {a : Act} {x : Operand} (t : TypeId) (h : ∀ u, x = .tmp u → VR S w ρ (look e u) (a.tmps.getD u undef)) : VR S w ρ (val C t e x) (a.eval x) := by
  cases x with
  | tmp u => exact h u rfl
  | const v => exact cst_VR t v
  | func f => exact .fn f
  | global g => exact .bad _
theorem forkB_ok {R : Type} {p : PV} {u : Value} {G : Bool → Option R} {r : R} (h : forkB p G = some r) (hp : VR S w ρ p u) : ∃ b, u = .bool b ∧ G b = some r ∧ (∀ S' w' ρ', VR S' w' ρ' (.bool b) u) := by
  unfold forkB at h
  cases hp with
  | bool b =>
    refine ⟨b, rfl, ?_, fun _ _ _ => .bool b⟩
    cases b <;> simpa using h
  | prop p d =>
    refine ⟨@decide p d, rfl, ?_, fun _ _ _ => .bool _⟩
    dsimp only at h
    by_cases hh : p
    · rw [if_pos hh] at h; rw [@decide_eq_true p d hh]; exact h
    · rw [if_neg hh] at h; rw [@decide_eq_false p d hh]; exact h
  | _ => exact absurd h (by simp)
theorem wrap64_eq (n : Int) : wrap64 n = IntKind.wrap .i64 n := by
  unfold wrap64 IntKind.wrap
  simp only [IntKind.bits, IntKind.signed, Bool.true_and]
  by_cases h : n % (2 : Int) ^ 64 ≥ 2 ^ (64 - 1)
  · rw [if_pos (by simpa using h)]; omega
  · rw [if_neg (by simpa using h)]; omega
theorem wr_eq (k : IntKind) (n : Int) : wr k n = k.wrap n := by
  cases k <;> first | rfl | exact wrap64_eq n
theorem eqCell_ok {t : TypeId} {x y : PV} {u v : Value} {p : Prop} {dp : Decidable p} (d : Nat) (h : eqCell C t x y = some (.prop p dp)) (hx : VR S w ρ x u) (hy : VR S w ρ y v) : (Op.equalIn (d + 1) t u v).run C.P w = .ok (@decide p dp) w ∧ aggSize C t = none := by
  unfold eqCell at h
  unfold Op.equalIn aggSize
  cases hd : C.P.underlying t with
  | none => rw [hd] at h; exact absurd h (by simp)
  | some de =>
    rw [hd] at h
    rw [Sem.run_bind, run_underlying hd w]
    cases de with
    | int k =>
      cases hx with
      | int k1 a =>
        cases hy with
        | int k2 b =>
          dsimp only at h
          by_cases hk : k1 = k2
          · rw [if_pos hk, Option.some.injEq] at h
            subst hk
            injection h with h1 h2
            subst h1
            obtain rfl := eq_of_heq h2
            refine ⟨?_, rfl⟩
            simp [Result.andThen_ok, Int.instDecidableEq]
            rfl
          · rw [if_neg hk] at h; exact absurd h (by simp)
        | _ => exact absurd h (by simp)
      | _ => exact absurd h (by simp)
    | bool =>
      cases hx with
      | bool a =>
        cases hy with
        | bool b =>
          dsimp only at h
          rw [Option.some.injEq] at h
          injection h with h1 h2
          subst h1
          obtain rfl := eq_of_heq h2
          refine ⟨?_, rfl⟩
          cases a <;> cases b <;> rfl
        | _ => exact absurd h (by simp)
      | _ => exact absurd h (by simp)
    | _ => exact absurd h (by simp)
theorem part_ok {t : TypeId} {cs : Array Value} {i : Nat} {v : Value} {x y : PV} {q : PV} (hq : eqCell C t x y = some q) (ha : aggSize C t = none) (h : cs[i]? = some v) : (part t cs i).run C.P w = .ok v w := by
  have hagg : (isAgg t).run C.P w = .ok false w := by
    cases hd : C.P.underlying t with
    | none => unfold eqCell at hq; rw [hd] at hq; exact absurd hq (by simp)
    | some d =>
      unfold isAgg
      rw [Sem.run_bind, run_underlying hd w]
      unfold aggSize at ha
      rw [hd] at ha
      cases d <;> simp_all
  unfold part
  rw [Sem.run_bind, hagg]
  simp [h]
theorem eqCell_prop {t : TypeId} {x y q : PV} (h : eqCell C t x y = some q) : ∃ p d, q = .prop p d := by
  unfold eqCell at h
  split at h
  · split at h
    · injection h with h; exact ⟨_, _, h.symm⟩
    · exact absurd h (by simp)
  · injection h with h; exact ⟨_, _, h.symm⟩
  · exact absurd h (by simp)
theorem eqCells_ok (d : Nat) {xs ys : List PV} {us vs : Array Value} (hx : VRs S w ρ xs us.toList) (hy : VRs S w ρ ys vs.toList) : ∀ (fs : List Field) (q : PV), eqCells C fs xs ys = some q → ∃ p dp, q = .prop p dp ∧
    (forIn fs ((none, ()) : Option Bool × Unit) (fun f (_ : Option Bool × Unit) =>
      if f.name ≠ "_" then do
        let a ← part f.type us f.offset
        let b ← part f.type vs f.offset
        let e ← Op.equalIn (d + 1) f.type a b
        if (!e) = true then pure (ForInStep.done ((some false, ()) : Option Bool × Unit))
        else pure (ForInStep.yield ((none, ()) : Option Bool × Unit))
      else pure (ForInStep.yield ((none, ()) : Option Bool × Unit))) : Sem (Option Bool × Unit)).run C.P w = .ok (if @decide p dp = true then (none, ()) else (some false, ())) w
  | [], q, h => by
    simp only [eqCells, Option.some.injEq] at h
    exact ⟨True, inferInstance, h.symm, by simp⟩
  | fd :: fs, q, h => by
    simp only [eqCells] at h
    by_cases hn : (fd.name == "_") = true
    · rw [hn, cond_true] at h; exact absurd h (by simp)
    · rw [Bool.not_eq_true] at hn
      rw [hn, cond_false] at h
      have hn' : fd.name ≠ "_" := by intro e; rw [e] at hn; exact absurd hn (by decide)
      cases hx1 : xs[fd.offset]? with
      | none => rw [hx1] at h; exact absurd h (by simp)
      | some x =>
        rw [hx1] at h
        cases hy1 : ys[fd.offset]? with
        | none => rw [hy1] at h; exact absurd h (by simp)
        | some y =>
          rw [hy1] at h
          dsimp only at h
          cases hc : eqCell C fd.type x y with
          | none => rw [hc] at h; exact absurd h (by simp)
          | some q1 =>
            obtain ⟨p, dp, rfl⟩ := eqCell_prop hc
            rw [hc] at h
            cases hr : eqCells C fs xs ys with
            | none => rw [hr] at h; exact absurd h (by simp)
            | some q2 =>
              obtain ⟨p2, dp2, rfl, hrun⟩ := eqCells_ok d hx hy fs q2 hr
              rw [hr] at h
              dsimp only at h
              injection h with h
              obtain ⟨u, hu, hxu⟩ := hx.get _ _ hx1
              obtain ⟨v, hv, hyv⟩ := hy.get _ _ hy1
              obtain ⟨e1, e2⟩ := eqCell_ok d hc hxu hyv
              refine ⟨_, _, h.symm, ?_⟩
              rw [List.forIn_cons, if_pos hn', Sem.run_bind, Sem.run_bind, part_ok hc e2 (by simpa using hu)]
              simp only [Result.andThen_ok, Sem.run_bind]
              rw [part_ok hc e2 (by simpa using hv)]
              simp only [Result.andThen_ok, Sem.run_bind]
              rw [e1]
              simp only [Result.andThen_ok]
              by_cases hp : p
              · simp only [hp, decide_true, Bool.not_true, Bool.false_eq_true, if_false, Sem.run_pure, Result.andThen_ok, true_and]
                exact hrun
              · simp [hp]
theorem arith_ok {R : Type} {op : BinOp} {p q : PV} {u v : Value} {F : PV → Option R} {r : R} {t : TypeId} (x y : Operand) (h : arith C t op p q F = some r) (hp : VR S w ρ p u) (hq : VR S w ρ q v) :
    ∃ z uz, F z = some r ∧ VR S w ρ z uz ∧ (do eqGuard op t x y u v; binOp op t u v : Sem Value).run C.P w = .ok uz w := by
  unfold arith at h
  cases hp with
  | int k a =>
    cases hq with
    | int k' b =>
      dsimp only at h
      by_cases hk : k = k'
      · rw [if_pos hk] at h
        subst hk
        have hg : (eqGuard op t x y (.int k a) (.int k b)).run C.P w = .ok () w := by cases op <;> rfl
        have one : ∀ (z : PV) (uz : Value), F z = some r → VR S w ρ z uz → (binOp op t (.int k a) (.int k b)).run C.P w = .ok uz w → ∃ z uz, F z = some r ∧ VR S w ρ z uz ∧ (do eqGuard op t x y (.int k a) (.int k b); binOp op t (.int k a) (.int k b) : Sem Value).run C.P w = .ok uz w :=
          fun z uz h1 h2 h3 => ⟨z, uz, h1, h2, by rw [Sem.run_bind, hg]; exact h3⟩
        cases op <;> dsimp only at h
        case add => exact one _ _ h (.int _ _) (by rw [wr_eq]; simp [binOp, Op.intArith])
        case sub => exact one _ _ h (.int _ _) (by rw [wr_eq]; simp [binOp, Op.intArith])
        case mul => exact one _ _ h (.int _ _) (by rw [wr_eq]; simp [binOp, Op.intArith])
        case quo =>
          by_cases hb : b = 0
          · rw [if_pos hb] at h; exact absurd h (by simp)
          · rw [if_neg hb] at h; exact one _ _ h (.int _ _) (by rw [wr_eq]; simp [binOp, Op.intDiv, hb])
        case rem =>
          by_cases hb : b = 0
          · rw [if_pos hb] at h; exact absurd h (by simp)
          · rw [if_neg hb] at h; exact one _ _ h (.int _ _) (by simp [binOp, Op.intDiv, hb])
        case eql => exact one _ _ h (.prop _ _) (by simp [binOp, Op.intCmp]; rfl)
        case neq => exact one _ _ h (.prop _ _) (by simp [binOp, Op.intCmp]; rfl)
        case lss => exact one _ _ h (.prop _ _) (by simp [binOp, Op.intCmp])
        case leq => exact one _ _ h (.prop _ _) (by simp [binOp, Op.intCmp])
        case gtr => exact one _ _ h (.prop _ _) (by simp [binOp, Op.intCmp])
        case geq => exact one _ _ h (.prop _ _) (by simp [binOp, Op.intCmp])
        all_goals exact absurd h (by simp)
      · rw [if_neg hk] at h; exact absurd h (by simp)
    | _ => exact absurd h (by simp)
  | bool a =>
    cases hq with
    | bool b =>
      dsimp only at h
      by_cases hd : C.P.underlying t = some .bool
      case neg => split at h <;> first | (exact absurd ‹_› hd) | exact absurd h (by simp)
      rw [hd] at h
      dsimp only at h
      have hg : (eqGuard op t x y (.bool a) (.bool b)).run C.P w = .ok () w := by cases op <;> rfl
      have one : ∀ (z : PV) (uz : Value), F z = some r → VR S w ρ z uz → (binOp op t (.bool a) (.bool b)).run C.P w = .ok uz w → ∃ z uz, F z = some r ∧ VR S w ρ z uz ∧ (do eqGuard op t x y (.bool a) (.bool b); binOp op t (.bool a) (.bool b) : Sem Value).run C.P w = .ok uz w :=
        fun z uz h1 h2 h3 => ⟨z, uz, h1, h2, by rw [Sem.run_bind, hg]; exact h3⟩
      cases op <;> dsimp only at h
      case eql => exact one _ _ h (.bool _) (run_eql_bool w t a b hd)
      case neq => exact one _ _ h (.bool _) (run_neq_bool w t a b hd)
      all_goals exact absurd h (by simp)
    | _ => exact absurd h (by simp)
  | agg xs us hus =>
    cases hq with
    | agg ys vs hvs =>
      dsimp only at h
      cases hd : C.P.underlying t with
      | none => rw [hd] at h; exact absurd h (by simp)
      | some d =>
        rw [hd] at h
        cases d with
        | struct fs =>
          dsimp only at h
          by_cases hg : (C.P.stoodInHeld t || C.P.eqGuardType C.P.depth t) = true
          · rw [hg, cond_true] at h; exact absurd h (by simp)
          · rw [Bool.not_eq_true] at hg
            rw [hg, cond_false] at h
            rw [Bool.or_eq_false_iff] at hg
            cases hq : eqCells C fs.toList xs ys with
            | none => rw [hq] at h; exact absurd h (by simp)
            | some q =>
              obtain ⟨p, dp, rfl, hrun⟩ := eqCells_ok (w := w) 9998 hus hvs fs.toList q hq
              rw [hq] at h
              dsimp only at h
              have heq : (Op.equal t (.agg us) (.agg vs)).run C.P w = .ok (@decide p dp) w := by
                unfold Op.equal
                rw [show Op.maxDepth = 9998 + 1 + 1 from rfl]
                unfold Op.equalIn
                rw [Sem.run_bind, run_underlying hd w]
                simp only [Result.andThen_ok, Sem.run_bind, run_program, hg.1]
                simp only [Bool.false_eq_true, if_false]
                rw [← Array.forIn_toList, Sem.run_bind]
                refine (congrArg (fun z => Result.andThen z _) hrun).trans ?_
                by_cases hp : p <;> simp [hp]
              have hgd : op = .eql ∨ op = .neq → (eqGuard op t x y (.agg us) (.agg vs)).run C.P w = .ok () w := by
                rintro (e | e) <;> subst e <;> simp [eqGuard, Sem.run_bind, hg.2]
              have one : ∀ (z : PV) (uz : Value), F z = some r → VR S w ρ z uz → (op = .eql ∨ op = .neq) → (binOp op t (.agg us) (.agg vs)).run C.P w = .ok uz w → ∃ z uz, F z = some r ∧ VR S w ρ z uz ∧ (do eqGuard op t x y (.agg us) (.agg vs); binOp op t (.agg us) (.agg vs) : Sem Value).run C.P w = .ok uz w :=
                fun z uz h1 h2 ho h3 => ⟨z, uz, h1, h2, by rw [Sem.run_bind, hgd ho]; exact h3⟩
              cases op <;> dsimp only at h
              case eql => exact one _ _ h (.prop _ _) (.inl rfl) (by simp only [binOp]; rw [Sem.run_bind, heq]; rfl)
              case neq => exact one _ _ h (.prop _ _) (.inr rfl) (by simp only [binOp]; rw [Sem.run_bind, heq]; simp)
              all_goals exact absurd h (by simp)
        | _ => exact absurd h (by simp)
    | _ => exact absurd h (by simp)
  | _ => exact absurd h (by cases hq <;> simp)
theorem maxP_ok {p q z : PV} {u v : Value} (h : maxP p q = some z) (hp : VR S w ρ p u) (hq : VR S w ρ q v) : ∃ uz, VR S w ρ z uz ∧ Builtin.max2 u v = pure uz := by
  unfold maxP at h
  cases hp with
  | int k a =>
    cases hq with
    | int k' b => injection h with h; subst h; exact ⟨_, .int _ _, by simp only [Builtin.max2, gt_iff_lt]⟩
    | _ => exact absurd h (by simp)
  | _ => exact absurd h (by simp)
theorem minP_ok {p q z : PV} {u v : Value} (h : minP p q = some z) (hp : VR S w ρ p u) (hq : VR S w ρ q v) : ∃ uz, VR S w ρ z uz ∧ Builtin.min2 u v = pure uz := by
  unfold minP at h
  cases hp with
  | int k a =>
    cases hq with
    | int k' b => injection h with h; subst h; exact ⟨_, .int _ _, by simp only [Builtin.min2]⟩
    | _ => exact absurd h (by simp)
  | _ => exact absurd h (by simp)
end

section
variable {S : Stab} {w : World} {ρ : Rho} {C : Cfg} {a : Act} {s : St} {R : Type} {r : R} {o : Oper} {F : PV → St → Option R} {call : FuncId → List PV → Option (List PV)}
abbrev OpsVR (S : Stab) (w : World) (ρ : Rho) (s : St) (a : Act) (o : Oper) : Prop := ∀ t, Operand.tmp t ∈ o.op.operands → VR S w ρ (look s.env t) (a.tmps.getD t undef)
theorem at_VR (hv : OpsVR S w ρ s a o) {x : Operand} (t : TypeId) (hx : x ∈ o.op.operands) : VR S w ρ (val C t s.env x) (a.eval x) :=
  val_VR t (fun u e => hv u (e ▸ hx))
def BR (S : Stab) (ρ : Rho) (w : World) (b : Nat) : PB → Prop
  | .box cs => ∃ i vs t, ρ b = some i ∧ w.heap[i.id]? = some (.cells vs t (0, 0)) ∧ VRs S w ρ cs vs.toList
  | .row es n get => ∃ i vs t, ρ b = some i ∧ i.es = es ∧ i.n = n ∧ w.heap[i.id]? = some (.cells vs t (0, 0)) ∧ n * es ≤ vs.size ∧ ∀ e, e < n → (get e).length = es ∧ VRs S w ρ (get e) ((vs.toList.drop (e * es)).take es)
theorem cell_of {g : Nat} {vs : Array Value} {t : TypeId} {fz : Nat × Nat} (h : w.heap[g]? = some (.cells vs t fz)) (i : Nat) : w.cell? ⟨g, i, none⟩ = vs[i]? := by
  simp [World.cell?, h]
abbrev TchBR (S : Stab) (w : World) (ρ : Rho) (C : Cfg) (s : St) (o : Oper) : Prop := ∀ b wr, (b, wr) ∈ touch C s o → ∀ blk, s.hp[b]? = some (some blk) → BR S ρ w b blk
abbrev Plain (S : Stab) (w : World) (ρ : Rho) (C : Cfg) (a : Act) (s : St) (o : Oper) (F : PV → St → Option R) (r : R) : Prop :=
  ∃ p u, F p s = some r ∧ VR S w ρ p u ∧ (execOp a.eval o).run C.P w = .ok (.value u) w
theorem move_ok {x : Operand} (ho : o.op = .move x) (h : stepOp C call s o F = some r) (hv : OpsVR S w ρ s a o) : Plain S w ρ C a s o F r := by
  simp only [stepOp, ho] at h
  exact ⟨_, _, h, at_VR hv _ (by simp [ho, Op.operands]), by simp [execOp, ho]⟩
theorem assign_ok {x : Operand} (ho : o.op = .assign x) (h : stepOp C call s o F = some r) (hv : OpsVR S w ρ s a o) : Plain S w ρ C a s o F r := by
  simp only [stepOp, ho] at h
  exact ⟨_, _, h, at_VR hv _ (by simp [ho, Op.operands]), by simp [execOp, ho]⟩
theorem pick_ok {c x y : Operand} (ho : o.op = .pick c x y) (h : stepOp C call s o F = some r) (hv : OpsVR S w ρ s a o) : Plain S w ρ C a s o F r := by
  simp only [stepOp, ho] at h
  obtain ⟨b, hb, hG, -⟩ := forkB_ok h (at_VR (C := C) hv o.type (by simp [ho, Op.operands]))
  cases b
  · rw [cond_false] at hG
    exact ⟨_, _, hG, at_VR hv _ (by simp [ho, Op.operands]), by simp [execOp, ho, hb, asBool]⟩
  · rw [cond_true] at hG
    exact ⟨_, _, hG, at_VR hv _ (by simp [ho, Op.operands]), by simp [execOp, ho, hb, asBool]⟩
theorem load_op {t : TypeId} {x : Operand} (ho : o.op = .load t x) (h : stepOp C call s o F = some r) (hv : OpsVR S w ρ s a o) (hb : TchBR S w ρ C s o) : Plain S w ρ C a s o F r := by
  simp only [stepOp, ho] at h
  have hx := at_VR (C := C) hv t (x := x) (by simp [ho, Op.operands])
  have ht : touch C s o = match val C t s.env x with | .bptr b _ => [(b, false)] | .rptr b _ _ => [(b, false)] | _ => [] := by simp only [touch, ho] <;> rfl
  have fin : ∀ {p : PV} {u v : Value}, a.eval x = v → F p s = some r → VR S w ρ p u → (Instr.loadAt t v).run C.P w = .ok u w → Plain S w ρ C a s o F r := fun hv h1 h2 h3 => ⟨_, _, h1, h2, by simp [execOp, ho, hv, h3]⟩
  generalize hp : val C t s.env x = p at h hx ht
  generalize hu : a.eval x = u at hx fin
  cases hx with
  | rop cs j b q vs hr hc =>
    dsimp only at h
    obtain ⟨p, u, h1, h2, h3⟩ := load_ok (ρ := ρ) h (hr.mono (fun _ _ h => ⟨h, rfl⟩) (fun _ _ h => absurd h (by simp [noRho]))) (fun c v h => (hc c v h).2)
    exact fin rfl h1 h2 h3
  | bptr b j i hi =>
    dsimp only at h ht
    cases hh : s.hp[b]? with
    | none => rw [hh] at h; exact absurd h (by simp)
    | some z =>
      cases z with
      | none => rw [hh] at h; exact absurd h (by simp)
      | some blk =>
        rw [hh] at h
        cases blk with
        | row es n get => exact absurd h (by simp)
        | box cs =>
          dsimp only at h
          obtain ⟨i', vs, t', h1, h2, h3⟩ := hb b false (by rw [ht]; simp) _ hh
          rw [hi] at h1; injection h1 with h1; subst h1
          obtain ⟨p, u, g1, g2, g3⟩ := load_ok (b := i.id) (o := 0) h h3 (fun c v hc => by rw [Nat.zero_add, cell_of h2]; simpa using hc)
          rw [Nat.zero_add] at g3
          exact fin rfl g1 g2 g3
  | rptr b e j i hi hl =>
    dsimp only at h ht
    cases hh : s.hp[b]? with
    | none => rw [hh] at h; exact absurd h (by simp)
    | some z =>
      cases z with
      | none => rw [hh] at h; exact absurd h (by simp)
      | some blk =>
        rw [hh] at h
        cases blk with
        | box cs => exact absurd h (by simp)
        | row es n get =>
          dsimp only at h
          obtain ⟨i', vs, t', h1, he, hn, h2, h3, h4⟩ := hb b false (by rw [ht]; simp) _ hh
          rw [hi] at h1; injection h1 with h1; subst h1
          obtain ⟨p, u, g1, g2, g3⟩ := load_ok (b := i.id) (o := e * i.es) h (h4 e (by omega)).2 (fun c v hc => by
            rw [List.getElem?_take] at hc
            by_cases hce : c < es
            · rw [if_pos hce, List.getElem?_drop] at hc
              rw [cell_of h2, he]; simpa using hc
            · rw [if_neg hce] at hc; exact absurd hc (by simp))
          exact fin rfl g1 g2 g3
  | _ => exact absurd h (by simp)
theorem bin_ok {op : BinOp} {t t' : TypeId} {x y : Operand} (ho : o.op = .binOp op t x y t') (h : stepOp C call s o F = some r) (hv : OpsVR S w ρ s a o) : Plain S w ρ C a s o F r := by
  simp only [stepOp, ho] at h
  obtain ⟨z, uz, h1, h2, h3⟩ := arith_ok x y h (at_VR hv t (by simp [ho, Op.operands])) (at_VR hv t (by simp [ho, Op.operands]))
  refine ⟨z, uz, h1, h2, ?_⟩
  simp only [execOp, ho]
  rw [Sem.run_bind, h3]
  rfl
theorem not_ok {t : TypeId} {x : Operand} (ho : o.op = .unOp .not t x) (h : stepOp C call s o F = some r) (hv : OpsVR S w ρ s a o) : Plain S w ρ C a s o F r := by
  simp only [stepOp, ho] at h
  have hx := at_VR (C := C) hv o.type (x := x) (by simp [ho, Op.operands])
  generalize val C o.type s.env x = p at h hx
  generalize hu : a.eval x = u at hx
  cases hx with
  | bool b => exact ⟨_, _, h, .bool _, by simp [execOp, ho, hu, Op.unary]⟩
  | prop p d => exact ⟨_, .bool (!(@decide p d)), h, by have := @VR.prop S w ρ (¬ p) (@instDecidableNot p d); rw [@decide_not] at this; exact this, by simp [execOp, ho, hu, Op.unary]⟩
  | _ => exact absurd h (by simp)
theorem field_of {t : TypeId} {f : Nat} {fd : Field} (h : fieldOf C t f = some fd) : ∃ fs, C.P.underlying t = some (.struct fs) ∧ fs[f]? = some fd := by
  unfold fieldOf at h
  split at h
  · exact ⟨_, ‹_›, h⟩
  · exact absurd h (by simp)
theorem run_fieldAt_at {t : TypeId} {f : Nat} {fd : Field} (h : fieldOf C t f = some fd) {inf : TypeInfo} (hi : C.P.info? fd.type = some inf) (h0 : C.P.cellsOf fd.type ≠ 0) (b j : Nat) :
    (Instr.fieldAt t (.pointer (some ⟨b, j, none⟩)) f).run C.P w = .ok (.pointer (some ⟨b, j + fd.offset, none⟩)) w := by
  obtain ⟨fs, h1, h2⟩ := field_of h
  have hs : (sizeOf fd.type).run C.P w = .ok inf.size w := by simp [sizeOf, typeInfo, hi]
  rw [cellsOf_eq hi] at h0
  simp only [Instr.fieldAt, Sem.run_bind, run_underlying h1 w, Result.andThen_ok, h2, Instr.sureAddr, Sem.run_pure, fieldPlace, hs, Sem.run_ite, if_neg h0, Addr.add_mid]
theorem fieldAddr_ok {t : TypeId} {x : Operand} {f : Nat} (ho : o.op = .fieldAddr t x f) (h : stepOp C call s o F = some r) (hv : OpsVR S w ρ s a o) : Plain S w ρ C a s o F r := by
  simp only [stepOp, ho] at h
  have hx := at_VR (C := C) hv t (x := x) (by simp [ho, Op.operands])
  cases hf : fieldOf C t f with
  | none => rw [hf] at h; exact absurd h (by simp)
  | some fd =>
    rw [hf] at h
    dsimp only at h
    by_cases h0 : Nat.beq (C.P.cellsOf fd.type) 0 = true
    · rw [h0, cond_true] at h; exact absurd h (by simp)
    rw [Bool.not_eq_true] at h0
    rw [h0, cond_false] at h
    have h0' : C.P.cellsOf fd.type ≠ 0 := fun e => by rw [e] at h0; exact absurd h0 (by decide)
    cases hi : C.P.info? fd.type with
    | none => rw [hi] at h; exact absurd h (by simp)
    | some inf =>
      rw [hi] at h
      have fin : ∀ {p : PV} {b j : Nat}, a.eval x = .pointer (some ⟨b, j, none⟩) → F p s = some r → VR S w ρ p (.pointer (some ⟨b, j + fd.offset, none⟩)) → Plain S w ρ C a s o F r := fun hv h1 h2 => ⟨_, _, h1, h2, by simp only [execOp, ho, hv]; rw [Sem.run_bind, run_fieldAt_at hf hi h0']; rfl⟩
      generalize val C t s.env x = p at h hx
      generalize hu : a.eval x = u at hx fin
      cases hx with
      | rop cs j b q vs hr hc => exact fin rfl h (by rw [Nat.add_assoc]; exact .rop cs _ b q vs hr hc)
      | bptr b j i hi => exact fin rfl h (.bptr b _ i hi)
      | rptr b e j i hi hl => exact fin rfl h (by rw [Nat.add_assoc]; exact .rptr b e _ i hi hl)
      | _ => exact absurd h (by simp)
theorem extract_ok {x : Operand} {i : Nat} (ho : o.op = .extract x i) (h : stepOp C call s o F = some r) (hv : OpsVR S w ρ s a o) : Plain S w ρ C a s o F r := by
  simp only [stepOp, ho] at h
  have hx := at_VR (C := C) hv o.type (x := x) (by simp [ho, Op.operands])
  generalize val C o.type s.env x = p at h hx
  generalize hu : a.eval x = u at hx
  cases hx with
  | tup cs vs hr =>
    dsimp only at h
    cases hi : cs[i]? with
    | none => rw [hi] at h; exact absurd h (by simp)
    | some p =>
      rw [hi] at h
      obtain ⟨v, h1, h2⟩ := hr.get i p hi
      exact ⟨p, v, h, h2, by
        have h1' : vs[i]? = some v := by simpa using h1
        simp [execOp, ho, hu, Instr.extract, h1']⟩
  | _ => exact absurd h (by simp)
theorem field_ok {t : TypeId} {x : Operand} {f : Nat} (ho : o.op = .field t x f) (h : stepOp C call s o F = some r) (hv : OpsVR S w ρ s a o) : Plain S w ρ C a s o F r := by
  simp only [stepOp, ho] at h
  have hx := at_VR (C := C) hv t (x := x) (by simp [ho, Op.operands])
  cases hf : fieldOf C t f with
  | none => rw [hf] at h; exact absurd h (by simp)
  | some fd =>
    obtain ⟨fs, hfs, hfd⟩ := field_of hf
    rw [hf] at h
    generalize val C t s.env x = p at h hx
    generalize hu : a.eval x = u at hx
    cases hx with
    | agg cs vs hr =>
      dsimp only at h
      have fin : ∀ {p : PV} {u : Value}, F p s = some r → VR S w ρ p u → (part fd.type vs fd.offset).run C.P w = .ok u w → Plain S w ρ C a s o F r := fun h1 h2 h3 =>
        ⟨_, _, h1, h2, by
          simp only [execOp, ho, hu]
          rw [Sem.run_bind]
          simp only [Instr.field, Sem.run_bind, run_underlying hfs w, Result.andThen_ok, hfd, asAgg, Sem.run_pure, h3]⟩
      have hlen := hr.length
      unfold loadFrom at h
      cases hd : C.P.underlying fd.type with
      | none => rw [hd] at h; exact absurd h (by simp)
      | some d =>
        rw [hd] at h
        dsimp only at h
        obtain ⟨i, hi⟩ := info_of_underlying hd
        cases ha : aggSize C fd.type with
        | some z =>
          rw [ha] at h
          dsimp only at h
          have hs : z = i.size ∧ d.isRow = true := by
            unfold aggSize at ha
            rw [hd] at ha
            split at ha <;> simp_all [cellsOf_eq hi]
          have hagg : (isAgg fd.type).run C.P w = .ok true w := by
            unfold isAgg
            rw [Sem.run_bind, run_underlying hd w]
            have := hs.2
            cases d <;> simp_all
          by_cases hle : Nat.ble (fd.offset + z) cs.length = true
          · rw [hle, cond_true] at h
            refine fin h (.agg _ ((vs.toList.drop fd.offset).take z).toArray ((hr.drop fd.offset).take z)) ?_
            have hsz : (sizeOf fd.type).run C.P w = .ok z w := by simp [sizeOf, typeInfo, hi, hs.1]
            have he : vs.extract fd.offset (fd.offset + z) = ((vs.toList.drop fd.offset).take z).toArray := by
              apply Array.toList_inj.mp
              simp [Array.toList_extract, List.extract]
            simp only [part, Sem.run_bind, hagg, Result.andThen_ok, if_true, hsz, he, Sem.run_pure]
          · rw [Bool.not_eq_true] at hle
            rw [hle, cond_false] at h
            exact absurd h (by simp)
        | none =>
          rw [ha] at h
          dsimp only at h
          have hagg : (isAgg fd.type).run C.P w = .ok false w := by
            unfold isAgg
            rw [Sem.run_bind, run_underlying hd w]
            unfold aggSize at ha
            rw [hd] at ha
            cases d <;> simp_all
          cases hp : cs[fd.offset]? with
          | none => rw [hp] at h; exact absurd h (by simp)
          | some p =>
            rw [hp] at h
            obtain ⟨v, h1, h2⟩ := hr.get _ p hp
            have h1' : vs[fd.offset]? = some v := by simpa using h1
            refine fin h h2 ?_
            simp only [part, Sem.run_bind, hagg, Result.andThen_ok]
            rw [if_neg (by simp), h1']
            rfl
    | _ => exact absurd h (by simp)
theorem elem_of {t e : TypeId} (h : elemOf? C.P t = some e) : C.P.underlying t = some (.slice e) := by
  unfold elemOf? at h
  split at h
  · injection h with h; subst h; assumption
  · exact absurd h (by simp)
theorem run_indexAt_at {t e : TypeId} (h : C.P.underlying t = some (.slice e)) {inf : TypeInfo} (hi : C.P.info? e = some inf) (b q n cap : Nat) (k : IntKind) (i : Int) (i0 : 0 ≤ i) (i1 : i < n) :
    (Instr.indexAt t (.slice (some ⟨b, q, none⟩) n cap) (.int k i)).run C.P w = .ok (.pointer (some ⟨b, q + i.toNat * inf.size, none⟩)) w := by
  have hs : (sizeOf e).run C.P w = .ok inf.size w := by simp [sizeOf, typeInfo, hi]
  simp only [Instr.indexAt, Sem.run_bind, asIntOf, Sem.run_pure, Result.andThen_ok, run_underlying h w, hs, if_pos (And.intro i0 i1), Addr.add_mid]
theorem indexAddr_ok {t : TypeId} {x y : Operand} (ho : o.op = .indexAddr t x y) (h : stepOp C call s o F = some r) (hv : OpsVR S w ρ s a o) (hb : TchBR S w ρ C s o) : Plain S w ρ C a s o F r := by
  simp only [stepOp, ho] at h
  have hx := at_VR (C := C) hv t (x := x) (by simp [ho, Op.operands])
  have hy := at_VR (C := C) hv 0 (x := y) (by simp [ho, Op.operands])
  have ht : touch C s o = match val C t s.env x with | .sl b _ _ => [(b, false)] | _ => [] := by simp only [touch, ho] <;> rfl
  cases he : elemOf? C.P t with
  | none => rw [he] at h; exact absurd h (by simp)
  | some e =>
    have hu := elem_of he
    rw [he] at h
    dsimp only at h
    cases hi : C.P.info? e with
    | none => rw [hi] at h; exact absurd h (by simp)
    | some inf =>
      rw [hi] at h
      generalize val C t s.env x = p at h hx ht
      generalize hux : a.eval x = u at hx
      generalize val C 0 s.env y = q at h hy
      generalize huy : a.eval y = v at hy
      cases hx with
      | vsl tk nl es n get A cap vs hl hr hc hA hcap hnl =>
        cases hy with
        | int k i =>
          dsimp only at h
          by_cases hz : Nat.beq inf.size es = true
          case neg => rw [Bool.not_eq_true] at hz; rw [hz, cond_false] at h; exact absurd h (by simp)
          rw [hz, cond_true] at h
          have hz := Nat.eq_of_beq_eq_true hz
          by_cases i0 : 0 ≤ i
          case neg => rw [if_neg i0] at h; exact absurd h (by simp)
          by_cases i1 : i < n
          case neg => rw [if_pos i0, if_neg i1] at h; exact absurd h (by simp)
          rw [if_pos i0, if_pos i1] at h
          have hj : i.toNat < n := by omega
          obtain ⟨b, q, rfl⟩ := hA (by omega)
          refine ⟨_, _, h, .rop (get i.toNat) 0 b (q + i.toNat * es) (vs i.toNat) (hr _ hj) (fun c v hcv => ?_), ?_⟩
          · obtain ⟨b', q', h1, h2, h3⟩ := hc _ hj c v hcv
            injection h1 with h1; injection h1 with h1 h1'; subst h1 h1'
            rw [Nat.add_assoc]; exact ⟨h2, h3⟩
          · simp only [execOp, ho, hux, huy]
            rw [Sem.run_bind, run_indexAt_at hu hi b q n cap k i i0 i1, hz]
            rfl
        | _ => exact absurd h (by simp)
      | sl b e0 n cap i hi' hl hc =>
        cases hy with
        | int k j =>
          dsimp only at h ht
          cases hh : s.hp[b]? with
          | none => rw [hh] at h; exact absurd h (by simp)
          | some z =>
            cases z with
            | none => rw [hh] at h; exact absurd h (by simp)
            | some blk =>
              rw [hh] at h
              cases blk with
              | box cs => exact absurd h (by simp)
              | row es m get =>
                dsimp only at h
                obtain ⟨i', vs, t', h1, he', hn', h2, h3, h4⟩ := hb b false (by rw [ht]; simp) _ hh
                rw [hi'] at h1; injection h1 with h1; subst h1
                by_cases hz : Nat.beq inf.size es = true
                case neg => rw [Bool.not_eq_true] at hz; rw [hz, cond_false] at h; exact absurd h (by simp)
                rw [hz, cond_true] at h
                have hz := Nat.eq_of_beq_eq_true hz
                by_cases i0 : 0 ≤ j
                case neg => rw [if_neg i0] at h; exact absurd h (by simp)
                by_cases i1 : j < n
                case neg => rw [if_pos i0, if_neg i1] at h; exact absurd h (by simp)
                rw [if_pos i0, if_pos i1] at h
                refine ⟨_, _, h, .rptr b (e0 + j.toNat) 0 i hi' (by omega), ?_⟩
                simp only [execOp, ho, hux, huy]
                rw [Sem.run_bind, run_indexAt_at hu hi i.id (e0 * i.es) n cap k j i0 i1, hz, he', Nat.add_mul]
                rfl
        | _ => cases hh : s.hp[b]? <;> simp_all
      | _ => exact absurd h (by cases hy <;> simp)
theorem len_ok {c : Call} (ho : o.op = .call c) (hc : c.callee = .builtin .len) (h : stepOp C call s o F = some r) (hv : OpsVR S w ρ s a o) : Plain S w ρ C a s o F r := by
  obtain ⟨callee, args, argTypes⟩ := c
  dsimp only at hc
  subst hc
  simp only [stepOp, ho] at h
  obtain ⟨args⟩ := args
  obtain ⟨ats⟩ := argTypes
  dsimp only at h
  match args, ats, h, ho with
  | [x], [t], h, ho =>
    dsimp only at h
    have hx := at_VR (C := C) hv t (x := x) (by simp [ho, Op.operands, Call.operands])
    have fin : ∀ (n : Int), F (.int .i64 n) s = some r → (Builtin.len_ #[t] o.type #[a.eval x]).run C.P w = .ok (goInt n) w → Plain S w ρ C a s o F r := fun n h1 h2 =>
      ⟨_, .int .i64 n, h1, .int _ _, by
        simp only [execOp, ho, resolve, Sem.run_bind, Sem.run_pure, Result.andThen_ok, invoke, builtin, List.map_toArray, List.map_cons, List.map_nil, h2]
        rfl⟩
    cases hd : C.P.underlying t with
    | none => rw [hd] at h; exact absurd h (by simp)
    | some d =>
      rw [hd] at h
      generalize val C t s.env x = p at h hx
      generalize hux : a.eval x = u at hx fin
      cases hx with
      | vsl tk nl es n get A cap vs hl hr hc hA hcap hnl =>
        cases d <;> (try dsimp only at h) <;> (try contradiction)
        refine fin _ h ?_
        simp [Builtin.len_, Sem.run_bind, run_underlying hd w]
      | sl b e0 n cap i hi' hl hc =>
        cases d <;> (try dsimp only at h) <;> (try contradiction)
        refine fin _ h ?_
        simp [Builtin.len_, Sem.run_bind, run_underlying hd w]
      | str b =>
        cases d <;> (try dsimp only at h) <;> (try contradiction)
        refine fin _ h ?_
        simp [Builtin.len_, Sem.run_bind, run_underlying hd w]
      | _ => cases d <;> (try dsimp only at h) <;> contradiction
  | [], _, h, _ => exact absurd h (by simp)
  | [_], [], h, _ => exact absurd h (by simp)
  | [_], _ :: _ :: _, h, _ => exact absurd h (by simp)
  | _ :: _ :: _, _, h, _ => exact absurd h (by simp)
end
section
variable {S : Stab} {w : World} {ρ : Rho} {C : Cfg} {a : Act} {s : St} {R : Type} {r : R} {o : Oper} {F : PV → St → Option R} {call : FuncId → List PV → Option (List PV)}
theorem foldl_put (off : Nat) : ∀ (l : List Value) (k : Nat) (cs : Array Value), (l.zipIdx k).foldl (fun (cs : Array Value) (x : Value × Nat) => cs.setIfInBounds (off + x.2) x.1) cs = (putVals cs.toList (off + k) l).toArray
  | [], _, cs => by simp [putVals]
  | v :: l, k, cs => by
    rw [List.zipIdx_cons, List.foldl_cons, foldl_put off l (k + 1)]
    simp [putVals, Nat.add_assoc]
theorem putVals_len : ∀ (vs cs : List Value) (j : Nat), (putVals cs j vs).length = cs.length
  | [], _, _ => rfl
  | v :: vs, cs, j => by rw [putVals, putVals_len vs, List.length_set]
theorem fillP_ok (fs : Array Field) : ∀ (l : List (Nat × PV)) (m : List (Nat × Value)) (cs cs' : List PV) (vs : Array Value), fillP C fs cs l = some cs' → VRs S w ρ cs vs.toList → l.map (·.1) = m.map (·.1) → VRs S w ρ (l.map (·.2)) (m.map (·.2)) →
    ∃ vs', Instr.fill (fun i => ((fs.map fun f => (f.offset, C.P.cellsOf f.type))[i]?)) vs m = some vs' ∧ VRs S w ρ cs' vs'.toList
  | [], [], cs, cs', vs, h, hv, _, _ => by
    simp only [fillP, Option.some.injEq] at h; subst h
    exact ⟨vs, rfl, hv⟩
  | [], _ :: _, _, _, _, _, _, he, _ => by simp at he
  | _ :: _, [], _, _, _, _, _, he, _ => by simp at he
  | (i, p) :: l, (j, u) :: m, cs, cs', vs, h, hv, he, hr => by
    simp only [List.map_cons, List.cons.injEq] at he
    obtain ⟨rfl, he⟩ := he
    simp only [List.map_cons] at hr
    cases hr with
    | cons _ _ _ _ hp hr =>
      simp only [fillP] at h
      cases hf : fs[i]? with
      | none => rw [hf] at h; exact absurd h (by simp)
      | some fd =>
        rw [hf] at h
        cases hc : cells? p with
        | none => rw [hc] at h; exact absurd h (by simp)
        | some us =>
          rw [hc] at h
          dsimp only at h
          by_cases hb : (Nat.beq us.length (C.P.cellsOf fd.type) && Nat.ble (fd.offset + us.length) cs.length) = true
          · rw [hb, cond_true] at h
            rw [Bool.and_eq_true, Nat.ble_eq] at hb
            have h1 := Nat.eq_of_beq_eq_true hb.1
            have hcs := hp.cells hc
            have hl := hcs.length
            have hl2 := hv.length
            have hl : us.length = u.cells.size := hl
            have hl2 : cs.length = vs.size := hl2
            obtain ⟨vs', g1, g2⟩ := fillP_ok fs l m _ _ (putVals vs.toList fd.offset u.cells.toList).toArray h (by simpa using hv.put fd.offset hcs) he hr
            refine ⟨vs', ?_, g2⟩
            have hpl : (fs.map fun f => (f.offset, C.P.cellsOf f.type))[i]? = some (fd.offset, C.P.cellsOf fd.type) := by simp [hf]
            have hsz : ¬ (u.cells.size ≠ C.P.cellsOf fd.type ∨ fd.offset + u.cells.size > vs.size) := by have := hb.2; rintro (h | h) <;> omega
            simp only [Instr.fill, hpl]
            rw [if_neg (by simpa using hsz)]
            rw [← Array.foldl_toList, Array.toList_zipIdx]
            have := foldl_put fd.offset u.cells.toList 0 vs
            rw [Nat.add_zero] at this
            exact (congrArg (fun z => Instr.fill _ z m) this).trans g1
          · rw [Bool.not_eq_true] at hb; rw [hb, cond_false] at h; exact absurd h (by simp)
theorem places_run (P : Program) (w : World) : ∀ (l : List Field), (∀ f ∈ l, (P.info? f.type).isSome = true) → (l.mapM (fun f => do pure (f.offset, ← sizeOf f.type) : Field → Sem (Nat × Nat))).run P w = .ok (l.map fun f => (f.offset, P.cellsOf f.type)) w
  | [], _ => rfl
  | f :: l, h => by
    obtain ⟨i, hi⟩ := Option.isSome_iff_exists.mp (h f (List.mem_cons_self))
    rw [List.mapM_cons, Sem.run_bind]
    have hs : (sizeOf f.type).run P w = .ok i.size w := by simp [sizeOf, typeInfo, hi]
    simp only [Sem.run_bind, hs, Result.andThen_ok, Sem.run_pure, places_run P w l (fun g hg => h g (List.mem_cons_of_mem _ hg))]
    simp [cellsOf_eq hi]
theorem zeroOf_ok {t : TypeId} {z : List PV} (h : zeroOf C t = some z) : ∃ v, (zeroValue t).run C.P w = .ok v w ∧ VRs S w ρ z v.cells.toList := by
  unfold zeroOf at h
  cases hi : C.P.info? t with
  | none => rw [hi] at h; exact absurd h (by simp)
  | some inf =>
    rw [hi] at h
    cases hzz : inf.zero with
    | none => rw [Option.bind_some, hzz] at h; exact absurd h (by simp)
    | some v =>
      rw [Option.bind_some, hzz] at h
      dsimp only at h
      by_cases hm : zmatch (C.zv t) v.cells.toList = true
      case neg => rw [Bool.not_eq_true] at hm; rw [hm, cond_false] at h; exact absurd h (by simp)
      rw [hm, cond_true] at h
      injection h with h; subst h
      exact ⟨v, by simp [zeroValue, typeInfo, hi, hzz], zmatch_VRs hm⟩
theorem build_ok {t : TypeId} {parts : Array (Nat × Operand)} (ho : o.op = .build t parts) (h : stepOp C call s o F = some r) (hv : OpsVR S w ρ s a o) : Plain S w ρ C a s o F r := by
  simp only [stepOp, ho] at h
  obtain ⟨q, h, hF⟩ := Option.bind_eq_some_iff.mp h
  unfold buildP at h
  cases hd : C.P.underlying t with
  | none => rw [hd] at h; exact absurd h (by simp)
  | some d =>
    rw [hd] at h
    cases d with
    | struct fs =>
      dsimp only at h
      by_cases hb : fs.toList.all (fun f => (C.P.info? f.type).isSome) = true
      case neg => rw [Bool.not_eq_true] at hb; rw [hb, cond_false] at h; exact absurd h (by simp)
      rw [hb, cond_true] at h
      cases hz : zeroOf C t with
      | none => rw [hz] at h; exact absurd h (by simp)
      | some z =>
        rw [hz] at h
        obtain ⟨v, hz1, hz2⟩ := zeroOf_ok (S := S) (w := w) (ρ := ρ) hz
        dsimp only at h
        cases hf : fillP C fs z (parts.toList.map fun q => (q.1, val C (fieldTy fs q.1) s.env q.2)) with
        | none => rw [hf] at h; exact absurd h (by simp)
        | some cs =>
          rw [hf, Option.map_some, Option.some.injEq] at h
          subst h
          obtain ⟨vs', g1, g2⟩ := fillP_ok fs _ (parts.toList.map fun q => (q.1, a.eval q.2)) _ _ v.cells hf hz2 (by rw [List.map_map, List.map_map]; rfl) (by
            have : ∀ l : List (Nat × Operand), (∀ q ∈ l, q.2 ∈ o.op.operands) → VRs S w ρ ((l.map fun q => (q.1, val C (fieldTy fs q.1) s.env q.2)).map (·.2)) ((l.map fun q => (q.1, a.eval q.2)).map (·.2)) := by
              intro l
              induction l with
              | nil => intro _; exact .nil
              | cons q l ih => intro hq; exact .cons _ _ _ _ (at_VR hv _ (hq q (List.mem_cons_self))) (ih (fun q' h' => hq q' (List.mem_cons_of_mem _ h')))
            exact this parts.toList (fun q hq => by rw [ho]; simp only [Op.operands]; exact List.mem_toArray.mpr (List.mem_map_of_mem hq)))
          refine ⟨_, .agg vs', hF, .agg _ _ g2, ?_⟩
          have hall := places_run C.P w fs.toList (fun f hf => List.all_eq_true.mp hb f hf)
          simp only [execOp, ho, Instr.build, Sem.run_bind, hz1, Result.andThen_ok, run_underlying hd w]
          rw [Array.mapM_eq_mapM_toList, Sem.run_map, hall]
          simp only [Result.andThen_ok]
          have e : (List.map (fun f : Field => (f.offset, C.P.cellsOf f.type)) fs.toList).toArray = fs.map fun f => (f.offset, C.P.cellsOf f.type) := by apply Array.ext'; rw [Array.toList_map]
          have e2 : (parts.map fun x => (x.1, a.eval x.2)).toList = parts.toList.map fun q => (q.1, a.eval q.2) := by simp
          have g3 : Instr.fill (fun x => (List.map (fun f : Field => (f.offset, C.P.cellsOf f.type)) fs.toList).toArray[x]?) v.cells (parts.map fun x => (x.1, a.eval x.2)).toList = some vs' := by rw [e, e2]; exact g1
          rw [g3]
          rfl
    | _ => exact absurd h (by simp)
theorem max_ok {c : Call} (ho : o.op = .call c) (hc : c.callee = .builtin .max) (h : stepOp C call s o F = some r) (hv : OpsVR S w ρ s a o) : Plain S w ρ C a s o F r := by
  obtain ⟨callee, args, argTypes⟩ := c
  dsimp only at hc
  subst hc
  simp only [stepOp, ho] at h
  obtain ⟨args⟩ := args
  dsimp only at h
  match args, h, ho with
  | [x, y], h, ho =>
    dsimp only at h
    obtain ⟨z, hm, h⟩ := Option.bind_eq_some_iff.mp h
    · obtain ⟨uz, h1, h2⟩ := maxP_ok hm (at_VR (C := C) hv 0 (x := x) (by simp [ho, Op.operands, Call.operands])) (at_VR (C := C) hv 0 (x := y) (by simp [ho, Op.operands, Call.operands]))
      refine ⟨z, uz, h, h1, ?_⟩
      simp only [execOp, ho, resolve, Sem.run_bind, Sem.run_pure, Result.andThen_ok, invoke, builtin, Builtin.max_, List.map_toArray, List.map_cons, List.map_nil, List.foldlM_cons, List.foldlM_nil, h2]
theorem min_ok {c : Call} (ho : o.op = .call c) (hc : c.callee = .builtin .min) (h : stepOp C call s o F = some r) (hv : OpsVR S w ρ s a o) : Plain S w ρ C a s o F r := by
  obtain ⟨callee, args, argTypes⟩ := c
  dsimp only at hc
  subst hc
  simp only [stepOp, ho] at h
  obtain ⟨args⟩ := args
  dsimp only at h
  match args, h, ho with
  | [x, y], h, ho =>
    dsimp only at h
    obtain ⟨z, hm, h⟩ := Option.bind_eq_some_iff.mp h
    · obtain ⟨uz, h1, h2⟩ := minP_ok hm (at_VR (C := C) hv 0 (x := x) (by simp [ho, Op.operands, Call.operands])) (at_VR (C := C) hv 0 (x := y) (by simp [ho, Op.operands, Call.operands]))
      refine ⟨z, uz, h, h1, ?_⟩
      simp only [execOp, ho, resolve, Sem.run_bind, Sem.run_pure, Result.andThen_ok, invoke, builtin, Builtin.min_, List.map_toArray, List.map_cons, List.map_nil, List.foldlM_cons, List.foldlM_nil, h2]
end

structure Cx (w0 : World) (S : Stab) (ρ : Rho) (w : World) : Prop where
  bel : Below w0.heap.size w0 w
  st : ∀ b o, S b o → b < w.heap.size
  own : ∀ b i, ρ b = some i → w0.heap.size ≤ i.id ∧ i.id < w.heap.size ∧ ∀ o, ¬ S i.id o
  inj : ∀ b c i j, ρ b = some i → ρ c = some j → i.id = j.id → b = c
structure Out (w0 : World) (S : Stab) (ρ : Rho) (w : World) (S' : Stab) (ρ' : Rho) (w' : World) (C : Cfg) (o : Oper) (s s' : St) : Prop where
  cx : Cx w0 S' ρ' w'
  st : ∀ b o, S b o → S' b o ∧ w'.cell? ⟨b, o, none⟩ = w.cell? ⟨b, o, none⟩
  rho : ∀ b i, ρ b = some i → ρ' b = some i
  new : ∀ b o, S' b o → ¬ S b o → w0.heap.size ≤ b
  env : s'.env = s.env
  chg : (s'.hp = s.hp ∧ ρ' = ρ ∧ ∀ b i, ρ b = some i → w'.heap[i.id]? = w.heap[i.id]?) ∨
        (∃ b blk, (b, true) ∈ touch C s o ∧ BR S' ρ' w' b blk ∧ (∀ c, c ≠ b → ρ' c = ρ c) ∧ (∀ c i, c ≠ b → ρ c = some i → w'.heap[i.id]? = w.heap[i.id]?) ∧ ((b = s.hp.length ∧ s'.hp = s.hp ++ [some blk]) ∨ (b < s.hp.length ∧ ρ' = ρ ∧ s'.hp = s.hp.set b (some blk))))
section
variable {P : Program}
theorem heap_setCell_same {w : World} {b o : Nat} {c : Array Value} {t : TypeId} {fz : Nat × Nat} (h : w.heap[b]? = some (.cells c t fz)) (v : Value) : (w.setCell ⟨b, o, none⟩ v).heap[b]? = some (.cells (c.setIfInBounds o v) t fz) := by
  simp [World.setCell, Array.getElem?_modify, h]
theorem storeCells_ok (b : Nat) (t : TypeId) (vs : List Value) (hone : ∀ v ∈ vs, v.oneCell' = true) : ∀ (w : World) (o i : Nat) (c : Array Value), w.heap[b]? = some (.cells c t (0, 0)) → o + i + vs.length ≤ c.size →
    ∃ w', (storeCells ⟨b, o, none⟩ vs i).run P w = .ok () w' ∧ w'.heap[b]? = some (.cells (putVals c.toList (o + i) vs).toArray t (0, 0)) ∧ (∀ k, k ≠ b → w'.heap[k]? = w.heap[k]?) ∧ w'.os = w.os ∧ w'.tape = w.tape ∧ w'.output = w.output ∧ w'.heap.size = w.heap.size := by
  induction vs with
  | nil =>
    intro w o i c h hl
    exact ⟨w, rfl, by simpa [putVals] using h, fun _ _ => rfl, rfl, rfl, rfl, rfl⟩
  | cons v vs ih =>
    intro w o i c h hl
    rw [List.length_cons] at hl
    have hc : w.cell? ⟨b, o + i, none⟩ = some c[o + i] := by rw [cell_of h]; exact Array.getElem?_eq_getElem (by omega)
    have hf : w.frozen? ⟨b, o + i, none⟩ = false := by simp [World.frozen?, h]
    obtain ⟨w', h1, h2, h3, h4, h5, h6, h7⟩ := ih (fun v hv => hone v (List.mem_cons_of_mem _ hv)) (w.setCell ⟨b, o + i, none⟩ v) o (i + 1) (c.setIfInBounds (o + i) v) (heap_setCell_same h v) (by rw [Array.size_setIfInBounds]; omega)
    refine ⟨w', ?_, ?_, fun k hk => (h3 k hk).trans (Below.heap_setCell w ⟨b, o + i, none⟩ v k hk), h4, h5, h6, h7.trans (by simp [World.setCell])⟩
    · simp only [storeCells]
      rw [Sem.run_bind, Addr.add_mid, run_store P w _ v .plain (hone v (List.mem_cons_self)), hc, hf]
      simp only [Bool.false_eq_true, if_false, Result.andThen_ok]
      exact h1
    · rw [h2]
      simp [putVals, Array.toList_setIfInBounds, Nat.add_assoc]
theorem putVals_length : ∀ (vs cs : List Value) (j : Nat), (putVals cs j vs).length = cs.length
  | [], _, _ => rfl
  | v :: vs, cs, j => by rw [putVals, putVals_length vs, List.length_set]
theorem putCells_length : ∀ (vs cs : List PV) (j : Nat), (putCells cs j vs).length = cs.length
  | [], _, _ => rfl
  | v :: vs, cs, j => by rw [putCells, putCells_length vs, List.length_set]
theorem putVals_out : ∀ (vs cs : List Value) (j k : Nat), (k < j ∨ j + vs.length ≤ k) → (putVals cs j vs)[k]? = cs[k]?
  | [], _, _, _, _ => rfl
  | v :: vs, cs, j, k, h => by
    rw [List.length_cons] at h
    rw [putVals, putVals_out vs _ _ _ (by omega), List.getElem?_set_ne (by omega)]
theorem putVals_in : ∀ (vs cs : List Value) (j k : Nat), j + vs.length ≤ cs.length → k < vs.length → (putVals cs j vs)[j + k]? = vs[k]?
  | [], _, _, _, _, h => absurd h (by simp)
  | v :: vs, cs, j, 0, h, _ => by
    rw [List.length_cons] at h
    rw [putVals, putVals_out vs _ _ _ (by omega), Nat.add_zero, List.getElem?_set_self (by omega)]
    rfl
  | v :: vs, cs, j, k + 1, h, hk => by
    rw [List.length_cons] at h hk
    rw [putVals, show j + (k + 1) = (j + 1) + k by omega, putVals_in vs _ (j + 1) k (by rw [List.length_set]; omega) (by omega)]
    rfl
theorem putVals_slice (vs cs : List Value) (e es j : Nat) (hj : j + vs.length ≤ es) (hl : e * es + es ≤ cs.length) :
    ((putVals cs (e * es + j) vs).drop (e * es)).take es = putVals ((cs.drop (e * es)).take es) j vs := by
  apply List.ext_getElem?
  intro k
  rw [List.getElem?_take]
  by_cases hk : k < es
  · rw [if_pos hk, List.getElem?_drop]
    have hb : ((cs.drop (e * es)).take es)[k]? = cs[e * es + k]? := by rw [List.getElem?_take, if_pos hk, List.getElem?_drop]
    by_cases hin : j ≤ k ∧ k < j + vs.length
    · have := putVals_in vs cs (e * es + j) (k - j) (by omega) (by omega)
      rw [show e * es + j + (k - j) = e * es + k by omega] at this
      rw [this]
      have h2 := putVals_in vs ((cs.drop (e * es)).take es) j (k - j) (by simp; omega) (by omega)
      rw [show j + (k - j) = k by omega] at h2
      rw [h2]
    · rw [putVals_out _ _ _ _ (by omega), putVals_out _ _ _ _ (by omega), hb]
  · rw [if_neg hk, List.getElem?_eq_none (by rw [putVals_length]; simp; omega)]
theorem putVals_other (vs cs : List Value) (e e' es j : Nat) (hj : j + vs.length ≤ es) (hne : e ≠ e') :
    ((putVals cs (e * es + j) vs).drop (e' * es)).take es = (cs.drop (e' * es)).take es := by
  apply List.ext_getElem?
  intro k
  rw [List.getElem?_take, List.getElem?_take]
  by_cases hk : k < es
  · rw [if_pos hk, if_pos hk, List.getElem?_drop, List.getElem?_drop]
    refine putVals_out _ _ _ _ ?_
    rcases Nat.lt_or_gt_of_ne hne with h | h
    · right
      have : (e + 1) * es ≤ e' * es := Nat.mul_le_mul_right _ h
      rw [Nat.add_mul, Nat.one_mul] at this
      omega
    · left
      have : (e' + 1) * es ≤ e * es := Nat.mul_le_mul_right _ h
      rw [Nat.add_mul, Nat.one_mul] at this
      omega
  · rw [if_neg hk, if_neg hk]
end
section
variable {w0 : World} {S : Stab} {w : World} {ρ : Rho} {C : Cfg} {a : Act} {s : St} {R : Type} {r : R} {o : Oper} {F : PV → St → Option R} {call : FuncId → List PV → Option (List PV)}
theorem BR.mono {S' : Stab} {w' : World} {ρ' : Rho} {b : Nat} {blk : PB} (h : BR S ρ w b blk) (hS : ∀ b o, S b o → S' b o ∧ w'.cell? ⟨b, o, none⟩ = w.cell? ⟨b, o, none⟩) (hρ : ∀ b i, ρ b = some i → ρ' b = some i) (hh : ∀ i, ρ b = some i → w'.heap[i.id]? = w.heap[i.id]?) : BR S' ρ' w' b blk := by
  cases blk with
  | box cs =>
    obtain ⟨i, vs, t, h1, h2, h3⟩ := h
    exact ⟨i, vs, t, hρ _ _ h1, (hh i h1).trans h2, h3.mono hS hρ⟩
  | row es n get =>
    obtain ⟨i, vs, t, h1, h2, h3, h4, h5, h6⟩ := h
    exact ⟨i, vs, t, hρ _ _ h1, h2, h3, (hh i h1).trans h4, h5, fun e he => ⟨(h6 e he).1, (h6 e he).2.mono hS hρ⟩⟩
abbrev Steps_ (w0 : World) (S : Stab) (w : World) (ρ : Rho) (C : Cfg) (a : Act) (s : St) (o : Oper) (F : PV → St → Option R) (r : R) : Prop :=
  ∀ (K : Act → World → Prop) (Q : Exit → Act → World → Prop), (∀ p s' u w' S' ρ', F p s' = some r → Out w0 S ρ w S' ρ' w' C o s s' → VR S' w' ρ' p u → K (a.put o.dst u) w') → o.wp C.P a w K Q
theorem Plain.steps (cx : Cx w0 S ρ w) (h : Plain S w ρ C a s o F r) : Steps_ w0 S w ρ C a s o F r := by
  obtain ⟨p, u, h1, h2, h3⟩ := h
  intro K Q hK
  unfold Oper.wp
  rw [h3]
  exact hK p s u w S ρ h1 ⟨cx, fun _ _ h => ⟨h, rfl⟩, fun _ _ h => h, fun _ _ h h' => absurd h h', rfl, .inl ⟨rfl, rfl, fun _ _ _ => rfl⟩⟩ h2
theorem new_steps (cx : Cx w0 S ρ w) (hfresh : (s.hp.length, true) ∈ touch C s o → ρ s.hp.length = none) (ht : (s.hp.length, true) ∈ touch C s o) {t : TypeId} {cs : List PV} {v : Value} (hcs : VRs S w ρ cs v.cells.toList)
    (hF : F (.bptr s.hp.length 0) ⟨s.env, s.hp ++ [some (.box cs)]⟩ = some r) (hrun : (execOp a.eval o).run C.P w = .ok (.value (.pointer (some ⟨w.heap.size, 0, none⟩))) { w with heap := w.heap.push (.cells v.cells t) }) : Steps_ w0 S w ρ C a s o F r := by
  intro K Q hK
  have hfresh := hfresh ht
  unfold Oper.wp
  rw [hrun]
  have hpush : ∀ k, k < w.heap.size → ({ w with heap := w.heap.push (.cells v.cells t) } : World).heap[k]? = w.heap[k]? := fun k hk => by
    show (w.heap.push _)[k]? = _
    rw [Array.getElem?_push, if_neg (by omega)]
  have hnew : ({ w with heap := w.heap.push (.cells v.cells t) } : World).heap[w.heap.size]? = some (.cells v.cells t (0, 0)) := by
    show (w.heap.push _)[w.heap.size]? = _
    rw [Array.getElem?_push, if_pos rfl]
  have hcell : ∀ b o, S b o → S b o ∧ ({ w with heap := w.heap.push (.cells v.cells t) } : World).cell? ⟨b, o, none⟩ = w.cell? ⟨b, o, none⟩ := fun b o h => ⟨h, World.cell?_of_block (w := w) (hpush b (cx.st b o h))⟩
  have hρ : ∀ b i, ρ b = some i → (if b = s.hp.length then some (⟨w.heap.size, cs.length, 1⟩ : BI) else ρ b) = some i := fun b i h => by
    rw [if_neg (fun e => by rw [e, hfresh] at h; exact absurd h (by simp))]; exact h
  refine hK _ _ _ _ S (fun b => if b = s.hp.length then some ⟨w.heap.size, cs.length, 1⟩ else ρ b) hF ⟨⟨cx.bel.trans ⟨rfl, rfl, rfl, by simp, fun k hk => hpush k (Nat.lt_of_lt_of_le hk cx.bel.size)⟩, fun b o h => ?_, fun b i h => ?_, fun b c i j h1 h2 e => ?_⟩, hcell, hρ, fun _ _ h h' => absurd h h', rfl, .inr ⟨s.hp.length, .box cs, ht, ⟨⟨w.heap.size, cs.length, 1⟩, v.cells, t, if_pos rfl, hnew, hcs.mono hcell hρ⟩, fun c hc => if_neg hc, fun c i _ h => hpush _ (cx.own c i h).2.1, .inl ⟨rfl, rfl⟩⟩⟩ (.bptr _ _ ⟨w.heap.size, cs.length, 1⟩ (if_pos rfl))
  · have := cx.st b o h
    show b < (w.heap.push _).size
    rw [Array.size_push]; omega
  · (try dsimp only at h)
    by_cases e : b = s.hp.length
    · rw [if_pos e] at h; injection h with h; subst h
      exact ⟨cx.bel.size, by show w.heap.size < (w.heap.push _).size; rw [Array.size_push]; omega, fun o h => absurd (cx.st _ _ h) (by show ¬ w.heap.size < w.heap.size; omega)⟩
    · rw [if_neg e] at h
      have := cx.own b i h
      exact ⟨this.1, by show i.id < (w.heap.push _).size; rw [Array.size_push]; omega, this.2.2⟩
  · (try dsimp only at h1 h2)
    by_cases e1 : b = s.hp.length
    · by_cases e2 : c = s.hp.length
      · omega
      · rw [if_pos e1] at h1; rw [if_neg e2] at h2; injection h1 with h1; subst h1
        have := (cx.own c j h2).2.1
        dsimp only at e; omega
    · by_cases e2 : c = s.hp.length
      · rw [if_neg e1] at h1; rw [if_pos e2] at h2; injection h2 with h2; subst h2
        have := (cx.own b i h1).2.1
        dsimp only at e; omega
      · rw [if_neg e1] at h1; rw [if_neg e2] at h2
        exact cx.inj b c i j h1 h2 e
theorem alloc_steps {t : TypeId} (cx : Cx w0 S ρ w) (hfresh : (s.hp.length, true) ∈ touch C s o → ρ s.hp.length = none) (ho : o.op = .alloc t) (h : stepOp C call s o F = some r) : Steps_ w0 S w ρ C a s o F r := by
  simp only [stepOp, ho] at h
  cases hz : zeroOf C t with
  | none => rw [hz] at h; exact absurd h (by simp)
  | some z =>
    rw [hz] at h
    dsimp only at h
    unfold zeroOf at hz
    cases hi : C.P.info? t with
    | none => rw [hi] at hz; exact absurd hz (by simp)
    | some inf =>
      rw [hi] at hz
      cases hzz : inf.zero with
      | none => rw [Option.bind_some, hzz] at hz; exact absurd hz (by simp)
      | some v =>
        rw [Option.bind_some, hzz] at hz
        dsimp only at hz
        by_cases hm : zmatch (C.zv t) v.cells.toList = true
        case neg => rw [Bool.not_eq_true] at hm; rw [hm, cond_false] at hz; exact absurd hz (by simp)
        rw [hm, cond_true] at hz
        injection hz with hz; subst hz
        refine new_steps (t := t) (v := v) cx hfresh (by simp [touch, ho]) (zmatch_VRs hm) h ?_
        simp [execOp, ho, Instr.alloc, zeroValue, typeInfo, hi, hzz, newVar, newRow]
theorem box_steps {t : TypeId} {x : Operand} (cx : Cx w0 S ρ w) (hfresh : (s.hp.length, true) ∈ touch C s o → ρ s.hp.length = none) (ho : o.op = .box t x) (h : stepOp C call s o F = some r) (hv : OpsVR S w ρ s a o) : Steps_ w0 S w ρ C a s o F r := by
  simp only [stepOp, ho] at h
  have hx := at_VR (C := C) hv t (x := x) (by simp [ho, Op.operands])
  cases hc : cells? (val C t s.env x) with
  | none => rw [hc] at h; exact absurd h (by simp)
  | some cs =>
    rw [hc] at h
    refine new_steps (t := t) (v := a.eval x) cx hfresh (by simp [touch, ho]) (hx.cells hc) h ?_
    simp [execOp, ho, Instr.box, newVar, newRow]
theorem isCell_one {ps : List PV} {vs : List Value} (h : VRs S w ρ ps vs) (hc : ps.all PV.isCell = true) : ∀ v ∈ vs, v.oneCell' = true := by
  induction ps generalizing vs with
  | nil => cases h; intro v hv; exact absurd hv (by simp)
  | cons p ps ih =>
    cases h with
    | cons _ v _ vs h hs =>
      simp only [List.all_cons, Bool.and_eq_true] at hc
      intro u hu
      rcases List.mem_cons.mp hu with e | hu
      · subst e
        have h1 := hc.1
        cases h <;> first | rfl | exact absurd h1 (by simp [PV.isCell])
      · exact ih hs hc.2 u hu
theorem put_steps (cx : Cx w0 S ρ w) {b : Nat} (hb : b < s.hp.length) {i : BI} (hi : ρ b = some i) (ht : (b, true) ∈ touch C s o) {blk : PB} {vs : Array Value} {t : TypeId} {us : List Value} {q : Nat} (hw : w.heap[i.id]? = some (.cells vs t (0, 0)))
    (hone : ∀ v ∈ us, v.oneCell' = true) (hq : q + us.length ≤ vs.size)
    (hblk : ∀ w', (∀ b o, S b o → S b o ∧ w'.cell? ⟨b, o, none⟩ = w.cell? ⟨b, o, none⟩) → w'.heap[i.id]? = some (.cells (putVals vs.toList q us).toArray t (0, 0)) → BR S ρ w' b blk)
    (hF : F .bad ⟨s.env, s.hp.set b (some blk)⟩ = some r) (hrun : ∀ w', (storeCells ⟨i.id, q, none⟩ us).run C.P w = .ok () w' → (execOp a.eval o).run C.P w = .ok .skip w') : Steps_ w0 S w ρ C a s o F r := by
  obtain ⟨w', h1, h2, h3, h4, h5, h6, h7⟩ := storeCells_ok (P := C.P) i.id t us hone w q 0 vs hw (by omega)
  rw [Nat.add_zero] at h2
  intro K Q hK
  unfold Oper.wp
  rw [hrun w' h1]
  have hcell : ∀ b o, S b o → S b o ∧ w'.cell? ⟨b, o, none⟩ = w.cell? ⟨b, o, none⟩ := fun c o h => ⟨h, World.cell?_of_block (w := w) (h3 c (fun e => (cx.own b i hi).2.2 o (e ▸ h)))⟩
  refine hK .bad _ undef w' S ρ hF ⟨⟨cx.bel.trans ⟨h4, h5, h6, by omega, fun k hk => h3 k (fun e => by have := (cx.own b i hi).1; omega)⟩, fun c o h => by rw [h7]; exact cx.st c o h, fun c j h => by rw [h7]; exact cx.own c j h, cx.inj⟩, hcell, fun _ _ h => h, fun _ _ h h' => absurd h h', rfl, .inr ⟨b, blk, ht, hblk w' hcell h2, fun _ _ => rfl, fun c j hc h => h3 _ (fun e => hc (cx.inj c b j i h hi e)), .inr ⟨hb, rfl, rfl⟩⟩⟩ (.bad _)
theorem store_steps {t : TypeId} {x y : Operand} (cx : Cx w0 S ρ w) (ho : o.op = .store t x y) (h : stepOp C call s o F = some r) (hv : OpsVR S w ρ s a o) (hb : TchBR S w ρ C s o) : Steps_ w0 S w ρ C a s o F r := by
  simp only [stepOp, ho] at h
  have hx := at_VR (C := C) hv t (x := x) (by simp [ho, Op.operands])
  have hy := at_VR (C := C) hv t (x := y) (by simp [ho, Op.operands])
  have ht : touch C s o = match val C t s.env x with | .bptr b _ => [(b, true)] | .rptr b _ _ => [(b, true)] | _ => [] := by simp only [touch, ho] <;> rfl
  cases hc : cells? (val C t s.env y) with
  | none => rw [hc] at h; exact absurd h (by simp)
  | some ps =>
    rw [hc] at h
    dsimp only at h
    have hps := hy.cells hc
    by_cases hs : (Nat.beq ps.length (C.P.cellsOf t) && ps.all PV.isCell && (C.P.info? t).isSome) = true
    case neg => rw [Bool.not_eq_true] at hs; rw [hs, cond_false] at h; exact absurd h (by simp)
    rw [hs, cond_true] at h
    rw [Bool.and_eq_true, Bool.and_eq_true] at hs
    have hlen := Nat.eq_of_beq_eq_true hs.1.1
    have hone := isCell_one hps hs.1.2
    have hpl := hps.length
    obtain ⟨inf, hinf⟩ := Option.isSome_iff_exists.mp hs.2
    have run : ∀ (ad : Addr) (w' : World), a.eval x = .pointer (some ad) → (storeCells ad (a.eval y).cells.toList).run C.P w = .ok () w' → (execOp a.eval o).run C.P w = .ok .skip w' := by
      intro ad w' hux hst
      have hsz : (sizeOf t).run C.P w = .ok inf.size w := by simp [sizeOf, typeInfo, hinf]
      have hq : (a.eval y).cells.size = inf.size := by rw [← cellsOf_eq hinf, ← hlen, hpl]; simp
      simp only [execOp, ho, hux]
      rw [Sem.run_bind]
      simp only [Instr.storeAt, Instr.sureAddr, Sem.run_bind, Sem.run_pure, Result.andThen_ok, storeVar, hsz]
      rw [if_neg (by simp [hq])]
      rw [hst]
      rfl
    generalize val C t s.env x = p at h hx ht
    generalize hux : a.eval x = u at hx run
    cases hx with
    | bptr b j i hi =>
      dsimp only at h ht
      cases hh : s.hp[b]? with
      | none => rw [hh] at h; exact absurd h (by simp)
      | some z =>
        have hbl := (List.getElem?_eq_some_iff.mp hh).1
        cases z with
        | none => rw [hh] at h; exact absurd h (by simp)
        | some blk =>
          rw [hh] at h
          cases blk with
          | row es n get => exact absurd h (by simp)
          | box cs =>
            dsimp only at h
            by_cases hle : Nat.ble (j + ps.length) cs.length = true
            case neg => rw [Bool.not_eq_true] at hle; rw [hle, cond_false] at h; exact absurd h (by simp)
            rw [hle, cond_true] at h
            rw [Nat.ble_eq] at hle
            have htt : (b, true) ∈ touch C s o := by rw [ht]; simp
            obtain ⟨i', vs, t', h1, h2, h3⟩ := hb b true htt _ hh
            rw [hi] at h1; injection h1 with h1; subst h1
            have hvl := h3.length
            refine put_steps (blk := .box (putCells cs j ps)) cx hbl hi htt h2 hone (q := j) (by simp only [Array.length_toList] at hvl hpl ⊢; omega) (fun w' hc hw' => ⟨i, (putVals vs.toList j (a.eval y).cells.toList).toArray, t', hi, hw', ?_⟩) h (fun w' => run _ w' rfl)
            exact (h3.mono hc (fun _ _ h => h)).put j (hps.mono hc (fun _ _ h => h))
    | rptr b e j i hi hl =>
      dsimp only at h ht
      cases hh : s.hp[b]? with
      | none => rw [hh] at h; exact absurd h (by simp)
      | some z =>
        have hbl := (List.getElem?_eq_some_iff.mp hh).1
        cases z with
        | none => rw [hh] at h; exact absurd h (by simp)
        | some blk =>
          rw [hh] at h
          cases blk with
          | box cs => exact absurd h (by simp)
          | row es n get =>
            dsimp only at h
            by_cases hle : Nat.ble (j + ps.length) es = true
            case neg => rw [Bool.not_eq_true] at hle; rw [hle, cond_false] at h; exact absurd h (by simp)
            rw [hle, cond_true] at h
            rw [Nat.ble_eq] at hle
            have htt : (b, true) ∈ touch C s o := by rw [ht]; simp
            obtain ⟨i', vs, t', h1, he, hn, h2, h3, h4⟩ := hb b true htt _ hh
            rw [hi] at h1; injection h1 with h1; subst h1
            have hen : e < n := by omega
            have hes : e * es + es ≤ vs.size := by
              have : (e + 1) * es ≤ n * es := Nat.mul_le_mul_right _ hen
              rw [Nat.add_mul, Nat.one_mul] at this
              omega
            have hpl' : ps.length = (a.eval y).cells.toList.length := hpl
            refine put_steps (blk := .row es n (fun k => if k = e then putCells (get e) j ps else get k)) cx hbl hi htt h2 hone (q := e * es + j) (by omega) (fun w' hc hw' => ⟨i, (putVals vs.toList (e * es + j) (a.eval y).cells.toList).toArray, t', hi, he, hn, hw', by simp [putVals_length]; exact h3, fun e' he' => ?_⟩) h (fun w' hst => run _ w' rfl (by rw [he]; exact hst))
            have h4' := h4 e' he'
            by_cases ee : e' = e
            · subst ee
              (try dsimp only)
              rw [if_pos rfl, putVals_slice _ _ _ _ _ (by omega) (by simpa using hes)]
              exact ⟨by rw [putCells_length]; exact h4'.1, (h4'.2.mono hc (fun _ _ h => h)).put j (hps.mono hc (fun _ _ h => h))⟩
            · (try dsimp only)
              rw [if_neg ee, putVals_other _ _ _ _ _ _ (by omega) (fun h => ee h.symm)]
              exact ⟨h4'.1, h4'.2.mono hc (fun _ _ h => h)⟩
    | _ => exact absurd h (by simp)
end

def ResR (S : Stab) (w : World) (r : List PV) (u : Value) : Prop :=
  match r with
  | [p] => VR S w noRho p u
  | ps => ∃ vs : Array Value, u = .tuple vs ∧ VRs S w noRho ps vs.toList
def CallPost (w : World) (S : Stab) (r : List PV) : Ending → World → Prop := fun e w' =>
  ∃ u S', e = .returned u ∧ Below w.heap.size w w' ∧ (∀ b o, S b o → S' b o) ∧ (∀ b o, S' b o → ¬ S b o → w.heap.size ≤ b) ∧ (∀ b o, S' b o → b < w'.heap.size) ∧ ResR S' w' r u
def CallOK (P : Program) (call : FuncId → List PV → Option (List PV)) : Prop :=
  ∀ f pargs r, call f pargs = some r → ∀ (S : Stab) (w : World) (args : Array Value), (∀ b o, S b o → b < w.heap.size) → VRs S w noRho pargs args.toList → Calls P f args w (CallPost w S r)
section
variable {w0 : World} {S : Stab} {w : World} {ρ : Rho} {C : Cfg} {a : Act} {s : St} {R : Type} {r : R} {o : Oper} {F : PV → St → Option R} {call : FuncId → List PV → Option (List PV)}
theorem resAt_ok {t : TypeId} {p : PV} {u : Value} {G : PV → Option R} (h : resAt C t p G = some r) (hp : VR S w noRho p u) : ∃ q, G q = some r ∧ ∀ ρ, VR S w ρ q u := by
  unfold resAt at h
  cases hd : C.P.underlying t with
  | none => rw [hd] at h; exact absurd h (by simp)
  | some d =>
    rw [hd] at h
    cases d with
    | bool =>
      dsimp only at h
      unfold asB at h
      cases hp with
      | bool b => exact ⟨_, h, fun ρ => .bool b⟩
      | prop p d => exact ⟨_, h, fun ρ => .bool _⟩
      | _ => exact absurd h (by simp)
    | int k =>
      dsimp only at h
      unfold asI at h
      cases hp with
      | int k' n =>
        dsimp only at h
        by_cases hk : k' = k
        · rw [if_pos hk] at h; subst hk; exact ⟨_, h, fun ρ => .int _ n⟩
        · rw [if_neg hk] at h; exact absurd h (by simp)
      | _ => exact absurd h (by simp)
    | string =>
      dsimp only at h
      unfold asS at h
      cases hp with
      | str s => exact ⟨_, h, fun ρ => .str s⟩
      | _ => exact absurd h (by simp)
    | slice e =>
      dsimp only at h
      unfold asV at h
      cases hp with
      | vsl tk nl es n get A cap vs hl hr hc hA hcap hnl => exact ⟨_, h, fun ρ => .vsl _ _ _ _ _ _ _ vs hl hr hc hA hcap hnl⟩
      | _ => exact absurd h (by simp)
    | _ => exact absurd h (by simp)
theorem resList_ok {ts : List TypeId} : ∀ {ps : List PV} {us : List Value} {G : List PV → Option R}, resList C ts ps G = some r → VRs S w noRho ps us → ∃ qs, G qs = some r ∧ qs.length = ps.length ∧ ∀ ρ, VRs S w ρ qs us := by
  induction ts with
  | nil =>
    intro ps us G h hp
    cases ps with
    | nil => cases hp; exact ⟨[], h, rfl, fun ρ => .nil⟩
    | cons p ps => exact absurd h (by simp [resList, nilR])
  | cons t ts ih =>
    intro ps us G h hp
    cases ps with
    | nil => exact absurd h (by simp [resList, consR])
    | cons p ps =>
      cases hp with
      | cons _ u _ us hp hps =>
        simp only [resList, consR] at h
        obtain ⟨q, h1, h2⟩ := resAt_ok h hp
        obtain ⟨qs, h3, h4, h5⟩ := ih h1 hps
        exact ⟨q :: qs, h3, by rw [List.length_cons, List.length_cons, h4], fun ρ => .cons _ _ _ _ (h2 ρ) (h5 ρ)⟩
theorem callArgs_ok : ∀ (xs : List Operand) (ts : List TypeId), xs.length = ts.length → (∀ x ∈ xs, ∀ t, VR S w ρ (val C t s.env x) (a.eval x)) → VRs S w noRho (callArgs C s.env xs ts) (xs.map a.eval)
  | [], [], _, _ => .nil
  | [], _ :: _, h, _ => by simp at h
  | _ :: _, [], h, _ => by simp at h
  | x :: xs, t :: ts, h, hv => .cons _ _ _ _ (hv x (List.mem_cons_self) t).dry (callArgs_ok xs ts (by simpa using h) (fun y hy => hv y (List.mem_cons_of_mem _ hy)))
theorem call_steps {c : Call} {x : Operand} (hcall : CallOK C.P call) (cx : Cx w0 S ρ w) (ho : o.op = .call c) (hc : c.callee = .value x) (h : stepOp C call s o F = some r) (hv : OpsVR S w ρ s a o) : Steps_ w0 S w ρ C a s o F r := by
  obtain ⟨callee, args, ats⟩ := c
  dsimp only at hc
  subst hc
  simp only [stepOp, ho] at h
  have hx := at_VR (C := C) hv 0 (x := x) (by simp [ho, Op.operands, Call.operands])
  have hargs : ∀ y ∈ args.toList, ∀ t, VR S w ρ (val C t s.env y) (a.eval y) := fun y hy t => at_VR (C := C) hv t (by simp [ho, Op.operands, Call.operands]; right; simpa using hy)
  generalize hp : val C 0 s.env x = p at h hx
  generalize hu : a.eval x = u at hx
  cases hx with
  | fn f =>
    dsimp only at h
    cases hf : C.P.funcs[f]? with
    | none => rw [hf] at h; exact absurd h (by simp)
    | some fn =>
      rw [hf] at h
      dsimp only at h
      by_cases hb : (fn.body.isSome && Nat.beq args.size ats.size && !(fn.name == "runtime.NumGoroutine")) = true
      case neg => rw [Bool.not_eq_true] at hb; rw [hb, cond_false] at h; exact absurd h (by simp)
      rw [hb, cond_true] at h
      rw [Bool.and_eq_true, Bool.and_eq_true] at hb
      obtain ⟨⟨hb1, hb2⟩, hb3⟩ := hb
      have hsz := Nat.eq_of_beq_eq_true hb2
      obtain ⟨l, hl, h⟩ := Option.bind_eq_some_iff.mp h
      have hA := callArgs_ok (C := C) (s := s) (a := a) args.toList ats.toList (by simpa using hsz) hargs
      have hrun : (execOp a.eval o).run C.P w = .ok (.enter f (args.map a.eval)) w := by
        have hnone : fn.body.isNone = false := by cases hb : fn.body <;> simp_all
        have hname : (fn.name == "runtime.NumGoroutine") = false := by simpa using hb3
        simp only [execOp, ho, resolve, hu, Deferred.ofValue, pure_bind, invoke, callFunc, Sem.run_bind, run_program, Result.andThen_ok, hf]
        rw [hname, hnone]
        simp
      have hC := hcall f _ l hl S w (args.map a.eval) cx.st (by simpa using hA)
      intro K Q hK
      unfold Oper.wp
      rw [hrun]
      refine Calls.mono hC ?_
      rintro e w' ⟨u, S', rfl, hbel, hS, hnew, hlt, hres⟩
      have hcell : ∀ b o, S b o → S' b o ∧ w'.cell? ⟨b, o, none⟩ = w.cell? ⟨b, o, none⟩ := fun b o h => ⟨hS b o h, hbel.cell (p := ⟨b, o, none⟩) (cx.st b o h)⟩
      have out : Out w0 S ρ w S' ρ w' C o s s := ⟨⟨cx.bel.trans (hbel.mono cx.bel.size), hlt, fun b i h => ?_, cx.inj⟩, hcell, fun _ _ h => h, fun b o h h' => Nat.le_trans cx.bel.size (hnew b o h h'), rfl, .inl ⟨rfl, rfl, fun b i h => hbel.block _ (cx.own b i h).2.1⟩⟩
      · have fin : ∀ {p : PV}, F p s = some r → VR S' w' ρ p u → K (a.put o.dst u) w' := fun h1 h2 => hK _ s u w' S' ρ h1 out h2
        unfold ResR at hres
        match l, hres, h with
        | [], ⟨vs, hu, hvs⟩, h =>
          obtain ⟨qs, h1, h2, h3⟩ := resList_ok h hvs
          have hq0 : qs = [] := List.length_eq_zero_iff.mp h2
          subst hq0
          subst hu
          exact fin h1 (.tup _ _ (h3 ρ))
        | [p], hres, h =>
          obtain ⟨qs, h1, h2, h3⟩ := resList_ok (us := [u]) h (.cons _ _ _ _ hres .nil)
          match qs, h1, h2, h3 with
          | [q], h1, _, h3 => cases h3 ρ with | cons _ _ _ _ hq _ => exact fin h1 hq
        | p :: p' :: ps, ⟨vs, hu, hvs⟩, h =>
          obtain ⟨qs, h1, h2, h3⟩ := resList_ok h hvs
          subst hu
          match qs, h1, h2, h3 with
          | q :: q' :: qs, h1, _, h3 => exact fin h1 (.tup _ _ (h3 ρ))
      · obtain ⟨g1, g2, g3⟩ := cx.own b i h
        exact ⟨g1, Nat.lt_of_lt_of_le g2 hbel.size, fun o h' => by
          by_cases hh : S i.id o
          · exact g3 o hh
          · have := hnew _ _ h' hh; omega⟩
  | _ => exact absurd h (by simp)
theorem op_steps (hcall : CallOK C.P call) (cx : Cx w0 S ρ w) (hfresh : (s.hp.length, true) ∈ touch C s o → ρ s.hp.length = none) (h : stepOp C call s o F = some r) (hv : OpsVR S w ρ s a o) (hb : TchBR S w ρ C s o) : Steps_ w0 S w ρ C a s o F r := by
  cases ho : o.op with
  | move x => exact (move_ok ho h hv).steps cx
  | assign x => exact (assign_ok ho h hv).steps cx
  | pick c x y => exact (pick_ok ho h hv).steps cx
  | load t x => exact (load_op ho h hv hb).steps cx
  | binOp op t x y t' => exact (bin_ok ho h hv).steps cx
  | unOp op t x =>
    cases op with
    | not => exact (not_ok ho h hv).steps cx
    | _ => simp only [stepOp, ho] at h; exact absurd h (by simp)
  | fieldAddr t x f => exact (fieldAddr_ok ho h hv).steps cx
  | field t x f => exact (field_ok ho h hv).steps cx
  | indexAddr t x y => exact (indexAddr_ok ho h hv hb).steps cx
  | extract x i => exact (extract_ok ho h hv).steps cx
  | build t ps => exact (build_ok ho h hv).steps cx
  | alloc t => exact alloc_steps cx hfresh ho h
  | box t x => exact box_steps cx hfresh ho h hv
  | store t x y => exact store_steps cx ho h hv hb
  | call c =>
    cases hc : c.callee with
    | value x => exact call_steps hcall cx ho hc h hv
    | invoke x m => simp only [stepOp, ho, hc] at h; exact absurd h (by simp)
    | builtin b =>
      by_cases hb' : b = .len
      · subst hb'; exact (len_ok ho hc h hv).steps cx
      · by_cases hb1 : b = .max
        · subst hb1; exact (max_ok ho hc h hv).steps cx
        · by_cases hb2 : b = .min
          · subst hb2; exact (min_ok ho hc h hv).steps cx
          · simp only [stepOp, ho, hc] at h
            cases b <;> first | exact absurd rfl hb' | exact absurd rfl hb1 | exact absurd rfl hb2 | exact absurd h (by simp)
  | _ => simp only [stepOp, ho] at h; exact absurd h (by simp)
end

structure SR (w0 : World) (S0 : Stab) (n : Nat) (S : Stab) (ρ : Rho) (s : St) (a : Act) (w : World) : Prop where
  cx : Cx w0 S ρ w
  s0 : ∀ b o, S0 b o → S b o
  new : ∀ b o, S b o → ¬ S0 b o → w0.heap.size ≤ b
  env : ∀ t, VR S w ρ (look s.env t) (a.tmps.getD t undef)
  blk : ∀ b blk, s.hp[b]? = some (some blk) → BR S ρ w b blk
  fresh : ∀ b, s.hp.length ≤ b → ρ b = none
  size : a.tmps.size = n
  defers : a.defers = []
def SX (w0 : World) (S0 : Stab) (n : Nat) (s : St) (a : Act) (w : World) : Prop := ∃ S ρ, SR w0 S0 n S ρ s a w
theorem look_put (s : St) (d : Option Tmp) (p : PV) (t : Nat) : look (s.put d p).env t = if d = some t then p else look s.env t := by
  cases d with
  | none => rfl
  | some u =>
    simp only [St.put, look]
    by_cases h : u = t
    · subst h; simp
    · have : Nat.beq u t = false := by rw [← Bool.not_eq_true]; exact fun e => h (Nat.eq_of_beq_eq_true e)
      rw [this, cond_false, if_neg (by simpa using h)]
theorem hp_put (s : St) (d : Option Tmp) (p : PV) : (s.put d p).hp = s.hp := by cases d <;> rfl
theorem tmps_put (a : Act) (d : Option Tmp) (u : Value) (t : Nat) (hd : ∀ x, d = some x → x < a.tmps.size) : (a.put d u).tmps.getD t undef = if d = some t then u else a.tmps.getD t undef := by
  cases d with
  | none => rfl
  | some x =>
    have hx := hd x rfl
    simp only [Act.put]
    rw [Array.getD_eq_getD_getElem?, Array.getD_eq_getD_getElem?]
    by_cases h : x = t
    · subst h; rw [Array.getElem?_setIfInBounds_self_of_lt hx, if_pos rfl]; rfl
    · rw [Array.getElem?_setIfInBounds_ne h, if_neg (by simpa using h)]
theorem size_put (a : Act) (d : Option Tmp) (u : Value) : (a.put d u).tmps.size = a.tmps.size := by cases d <;> simp [Act.put]
theorem defers_put (a : Act) (d : Option Tmp) (u : Value) : (a.put d u).defers = a.defers := by cases d <;> rfl
section
variable {w0 : World} {S0 S : Stab} {n : Nat} {w : World} {ρ : Rho} {C : Cfg} {a : Act} {s : St} {R : Type} {r : R} {o : Oper} {call : FuncId → List PV → Option (List PV)} {Q : Exit → Act → World → Prop} {ops : Array Oper}
theorem SR.step {S' : Stab} {ρ' : Rho} {w' : World} {s' : St} {p : PV} {u : Value} (h : SR w0 S0 n S ρ s a w) (out : Out w0 S ρ w S' ρ' w' C o s s') (hp : VR S' w' ρ' p u) (hd : ∀ x, o.dst = some x → x < n) : SR w0 S0 n S' ρ' (s'.put o.dst p) (a.put o.dst u) w' := by
  refine ⟨out.cx, fun b q hb => (out.st b q (h.s0 b q hb)).1, fun b q hb h0 => ?_, fun t => ?_, fun b blk hb => ?_, fun b hb => ?_, by rw [size_put]; exact h.size, by rw [defers_put]; exact h.defers⟩
  · by_cases hh : S b q
    · exact h.new b q hh h0
    · exact out.new b q hb hh
  · rw [look_put, tmps_put _ _ _ _ (fun x hx => by rw [h.size]; exact hd x hx)]
    by_cases e : o.dst = some t
    · rw [if_pos e, if_pos e]; exact hp
    · rw [if_neg e, if_neg e, out.env]; exact (h.env t).mono out.st out.rho
  · rw [hp_put] at hb
    rcases out.chg with ⟨h1, h2, h3⟩ | ⟨b', blk', ht, h1, h2, h3, h4⟩
    · rw [h1] at hb
      exact (h.blk b blk hb).mono out.st out.rho (h3 b)
    · by_cases e : b = b'
      · subst e
        have : blk = blk' := by
          rcases h4 with ⟨h5, h6⟩ | ⟨h5, h6, h7⟩
          · rw [h6, h5, List.getElem?_append_right (Nat.le_refl _), Nat.sub_self] at hb
            simpa using hb.symm
          · rw [h7, List.getElem?_set_self h5] at hb
            simpa using hb.symm
        rw [this]; exact h1
      · have hb' : s.hp[b]? = some (some blk) := by
          rcases h4 with ⟨h5, h6⟩ | ⟨h5, h6, h7⟩
          · rw [h6] at hb
            rcases Nat.lt_or_ge b s.hp.length with hl | hl
            · rw [List.getElem?_append_left hl] at hb; exact hb
            · rw [List.getElem?_append_right hl, List.getElem?_eq_none (by simp; omega)] at hb; exact absurd hb (by simp)
          · rw [h7, List.getElem?_set_ne (fun e' => e e'.symm)] at hb; exact hb
        exact (h.blk b blk hb').mono out.st out.rho (fun i hi => h3 b i e hi)
  · rw [hp_put] at hb
    rcases out.chg with ⟨h1, h2, h3⟩ | ⟨b', blk', ht, h1, h2, h3, h4⟩
    · rw [h1] at hb; rw [h2]; exact h.fresh b hb
    · rcases h4 with ⟨h5, h6⟩ | ⟨h5, h6, h7⟩
      · rw [h6, List.length_append, List.length_singleton] at hb
        rw [h2 b (by omega)]; exact h.fresh b (by omega)
      · rw [h7, List.length_set] at hb; rw [h6]; exact h.fresh b hb
theorem SR.told {t : Tmp} {b : Bool} (h : SR w0 S0 n S ρ s a w) (hb : a.tmps.getD t undef = .bool b) : SR w0 S0 n S ρ (s.put (some t) (.bool b)) a w := by
  refine ⟨h.cx, h.s0, h.new, fun u => ?_, fun b blk hb => h.blk b blk (by rw [hp_put] at hb; exact hb), fun b hb => h.fresh b (by rw [hp_put] at hb; exact hb), h.size, h.defers⟩
  rw [look_put]
  by_cases e : some t = some u
  · rw [if_pos e]; injection e with e; subst e; rw [hb]; exact .bool b
  · rw [if_neg e]; exact h.env u
theorem SR.skip (h : SR w0 S0 n S ρ s a w) (hd : ∀ x, o.dst = some x → x < n) : SR w0 S0 n S ρ (s.put o.dst (.tup [])) (a.put o.dst undef) w := by
  refine ⟨h.cx, h.s0, h.new, fun u => ?_, fun b blk hb => h.blk b blk (by rw [hp_put] at hb; exact hb), fun b hb => h.fresh b (by rw [hp_put] at hb; exact hb), by rw [size_put]; exact h.size, by rw [defers_put]; exact h.defers⟩
  rw [look_put, tmps_put _ _ _ _ (fun x hx => by rw [h.size]; exact hd x hx)]
  by_cases e : o.dst = some u
  · rw [if_pos e, if_pos e]; exact .tup [] #[] .nil
  · rw [if_neg e, if_neg e]; exact h.env u
theorem yielded_of {a : Act} {j t : Nat} {b : Bool} (hj : (ops[j]?).bind (·.dst) = some t) (hb : a.tmps.getD t undef = .bool b) : yielded ops a.tmps j = some b := by
  unfold yielded
  rw [hj, Option.bind_some]
  rw [Array.getD_eq_getD_getElem?] at hb
  cases hq : a.tmps[t]? with
  | none => rw [hq] at hb; exact absurd hb (by simp [undef])
  | some v => rw [hq] at hb; simp at hb; subst hb; rfl
theorem yielded_none {a : Act} {j t : Nat} {vs : Array Value} (hj : (ops[j]?).bind (·.dst) = some t) (hb : a.tmps.getD t undef = .tuple vs) : yielded ops a.tmps j = none := by
  unfold yielded
  rw [hj, Option.bind_some]
  rw [Array.getD_eq_getD_getElem?] at hb
  cases hq : a.tmps[t]? with
  | none => rfl
  | some v => rw [hq] at hb; simp at hb; subst hb; rfl
theorem tup_split {p : PV} {R : Type} {x y : Option R} {r : R} (h : onTup p x y = some r) : (∃ cs, p = .tup cs ∧ x = some r) ∨ (y = some r ∧ ∀ cs, p ≠ .tup cs) := by
  cases p <;> first | exact .inl ⟨_, rfl, h⟩ | exact .inr ⟨h, fun _ e => by cases e⟩
theorem dst_ok {m : Nat} (h : dstOk m o = true) : ∀ x, o.dst = some x → x < m := by
  intro x hx
  simpa [dstOk, hx, Nat.blt_eq] using h
theorem evOps_seq (hcall : CallOK C.P call) {F : St → Log → Option R} {K : Act → World → Prop} (hF : ∀ s l a w, F s l = some r → SX w0 S0 C.nt s a w → K a w) (hQ : ∀ a w, K a w → Q .normal a w) :
    ∀ (rest : List Oper) (i : Nat) (s : St) (l : Log) (a : Act) (w : World), ops.toList.drop i = rest → evOps C call ops i rest s l F = some r → SX w0 S0 C.nt s a w → wpOps C.P ops Q (List.range' i rest.length) a w := by
  intro rest
  induction rest with
  | nil =>
    intro i s l a w _ h hs
    exact hQ _ _ (hF s l a w h hs)
  | cons o rest ih =>
    intro i s l a w hd h hs
    obtain ⟨S, ρ, hs⟩ := hs
    have hi : ops[i]? = some o := by
      have := congrArg (fun l => l[0]?) hd
      simpa using this
    have hd' : ops.toList.drop (i + 1) = rest := by
      have := congrArg (List.drop 1) hd
      simpa [List.drop_drop, Nat.add_comm] using this
    rw [List.length_cons, List.range'_succ, wpOps_cons]
    unfold wpOp
    simp only [hi]
    simp only [evOps] at h
    by_cases hdst : dstOk C.nt o = true
    case neg => rw [Bool.not_eq_true] at hdst; rw [hdst, cond_false] at h; exact absurd h (by simp)
    rw [hdst, cond_true] at h
    have hdst := dst_ok hdst
    have run : ∀ (s : St) (l' : Log), SR w0 S0 C.nt S ρ s a w → stepOp C call s o (fun v s' => evOps C call ops (i + 1) rest (s'.put o.dst v) l' F) = some r → o.wp C.P a w (wpOps C.P ops Q (List.range' (i + 1) rest.length)) Q := by
      intro s l' hs h
      exact op_steps hcall hs.cx (fun _ => hs.fresh _ (Nat.le_refl _)) h (fun t _ => hs.env t) (fun b _ _ blk hb => hs.blk b blk hb) _ _ (fun p s' u w' S' ρ' h1 out hp => ih (i + 1) _ _ _ _ hd' h1 ⟨S', ρ', hs.step out hp hdst⟩)
    cases hg : o.guard with
    | none =>
      rw [hg] at h
      rw [show Region.wanted o (yielded ops a.tmps) = true by simp [Region.wanted, hg]]
      rw [if_pos rfl]
      exact .inl (run s _ hs h)
    | some g =>
      obtain ⟨j, want⟩ := g
      rw [hg] at h
      dsimp only at h
      cases ht : (ops[j]?).bind (·.dst) with
      | none => rw [ht] at h; exact absurd h (by simp)
      | some t =>
        rw [ht] at h
        dsimp only at h
        have hvt := hs.env t
        rcases tup_split h with ⟨cs, hcs, h⟩ | ⟨h, -⟩
        · rw [hcs] at hvt
          generalize hq : a.tmps.getD t undef = q at hvt
          cases hvt with
          | tup _ vs _ =>
            have hw : Region.wanted o (yielded ops a.tmps) = false := by simp [Region.wanted, hg, yielded_none ht hq]
            rw [hw, if_neg Bool.false_ne_true]
            exact ih (i + 1) _ _ _ _ hd' h ⟨S, ρ, hs.skip hdst⟩
        obtain ⟨b, hb, h, -⟩ := forkB_ok h hvt
        have hy := yielded_of ht hb
        have hw : Region.wanted o (yielded ops a.tmps) = (b == want) := by
          simp only [Region.wanted, hg, hy]
          cases b <;> cases want <;> rfl
        rw [hw]
        by_cases hbw : (b == want) = true
        · rw [hbw, cond_true] at h
          rw [hbw, if_pos rfl]
          exact .inl (run _ _ (hs.told hb) h)
        · rw [Bool.not_eq_true] at hbw
          rw [hbw, cond_false] at h
          rw [hbw, if_neg Bool.false_ne_true]
          exact ih (i + 1) _ _ _ _ hd' h ⟨S, ρ, (hs.told hb).skip hdst⟩
end

section
variable {C : Cfg} {s : St} {R : Type} {r : R} {o : Oper} {call : FuncId → List PV → Option (List PV)} {ops : Array Oper}
theorem forkB_bind {p : PV} {G : Bool → Option R} {R' : Type} (K : R → Option R') : (forkB p G).bind K = forkB p (fun b => (G b).bind K) := by
  unfold forkB
  cases p with
  | bool b => dsimp only; split <;> rfl
  | prop p d => dsimp only; split <;> rfl
  | _ => rfl
theorem loadFrom_bind {t : TypeId} {cs : List PV} {j : Nat} {F : PV → Option R} : loadFrom C t cs j F = (loadFrom C t cs j some).bind F := by
  unfold loadFrom
  cases C.P.underlying t with
  | none => rfl
  | some d =>
    dsimp only
    cases aggSize C t with
    | some z => dsimp only; cases Nat.ble (j + z) cs.length <;> rfl
    | none => dsimp only; cases cs[j]? <;> rfl
theorem arith_bind {t : TypeId} {op : BinOp} {p q : PV} {F : PV → Option R} : arith C t op p q F = (arith C t op p q some).bind F := by
  unfold arith
  cases p <;> cases q <;> try rfl
  · dsimp only
    split
    · cases op <;> rfl
    · rfl
  · dsimp only
    split
    · cases op <;> first | rfl | (dsimp only; split <;> rfl)
    · rfl
  · dsimp only
    split
    · rename_i fs _
      cases (C.P.stoodInHeld t || C.P.eqGuardType C.P.depth t) with
      | true => rfl
      | false =>
        simp only [cond_false]
        split
        · cases op <;> rfl
        · rfl
    · rfl
theorem resAt_bind {t : TypeId} {p : PV} {G : PV → Option R} : resAt C t p G = (resAt C t p some).bind G := by
  unfold resAt
  split
  · unfold asB; cases p <;> rfl
  · unfold asI; cases p <;> try rfl
    dsimp only; split <;> rfl
  · unfold asS; cases p <;> rfl
  · unfold asV; cases p <;> rfl
  · rfl
theorem resList_bind {ts : List TypeId} : ∀ {R : Type} {ps : List PV} {G : List PV → Option R}, resList C ts ps G = (resList C ts ps some).bind G := by
  induction ts with
  | nil => intro R ps G; cases ps <;> rfl
  | cons t ts ih =>
    intro R ps G
    cases ps with
    | nil => rfl
    | cons p ps =>
      simp only [resList, consR]
      rw [resAt_bind, resAt_bind (G := fun v => resList C ts ps fun vs => some (v :: vs))]
      cases resAt C t p some with
      | none => rfl
      | some q =>
        simp only [Option.bind_some]
        rw [ih (G := fun vs => G (q :: vs)), ih (G := fun vs => some (q :: vs))]
        cases resList C ts ps some <;> rfl
abbrev st1 (C : Cfg) (call : FuncId → List PV → Option (List PV)) (s : St) (o : Oper) : Option (PV × St) := stepOp C call s o (fun v s => some (v, s))
theorem stepOp_bind {F : PV → St → Option R} : stepOp C call s o F = (st1 C call s o).bind (fun x => F x.1 x.2) := by
  unfold st1 stepOp
  cases o.op with
  | move x => rfl
  | assign x => rfl
  | pick c x y => dsimp only; rw [forkB_bind]; congr 1; funext b; cases b <;> rfl
  | alloc t => dsimp only; cases zeroOf C t <;> rfl
  | box t x => dsimp only; cases cells? (val C t s.env x) <;> rfl
  | load t x =>
    dsimp only
    cases val C t s.env x <;> try rfl
    · dsimp only; rw [loadFrom_bind, loadFrom_bind (F := fun v => some (v, s))]; cases loadFrom C t _ _ some <;> rfl
    · dsimp only
      split
      · rw [loadFrom_bind, loadFrom_bind (F := fun v => some (v, s))]; cases loadFrom C t _ _ some <;> rfl
      · rfl
    · dsimp only
      split
      · rw [loadFrom_bind, loadFrom_bind (F := fun v => some (v, s))]; cases loadFrom C t _ _ some <;> rfl
      · rfl
  | store t x y =>
    dsimp only
    cases cells? (val C t s.env y) with
    | none => rfl
    | some vs =>
      dsimp only
      cases (Nat.beq vs.length (C.P.cellsOf t) && vs.all PV.isCell && (C.P.info? t).isSome) with
      | false => rfl
      | true =>
        simp only [cond_true]
        cases val C t s.env x <;> try rfl
        · dsimp only
          split
          · rename_i cs _; cases Nat.ble _ cs.length <;> rfl
          · rfl
        · dsimp only
          split
          · rename_i es _ _ _; cases Nat.ble _ es <;> rfl
          · rfl
  | binOp op t x y t' => dsimp only; rw [arith_bind, arith_bind (F := fun v => some (v, s))]; cases arith C t op _ _ some <;> rfl
  | unOp op t x =>
    cases op <;> try rfl
    dsimp only
    cases val C o.type s.env x <;> rfl
  | fieldAddr t x f =>
    dsimp only
    cases fieldOf C t f with
    | none => rfl
    | some fd =>
      dsimp only
      cases Nat.beq (C.P.cellsOf fd.type) 0 with
      | true => rfl
      | false => simp only [cond_false]; cases C.P.info? fd.type <;> cases val C t s.env x <;> rfl
  | field t x f =>
    dsimp only
    cases fieldOf C t f with
    | none => rfl
    | some fd =>
      cases val C t s.env x <;> try rfl
      dsimp only
      rw [loadFrom_bind, loadFrom_bind (F := fun v => some (v, s))]; cases loadFrom C fd.type _ _ some <;> rfl
  | indexAddr t x y =>
    dsimp only
    cases elemOf? C.P t with
    | none => rfl
    | some e =>
      dsimp only
      cases C.P.info? e with
      | none => rfl
      | some inf =>
        cases val C t s.env x <;> cases val C 0 s.env y <;> try rfl
        · dsimp only
          rename_i es n get k i
          cases Nat.beq inf.size es with
          | false => rfl
          | true => simp only [cond_true]; (repeat' split) <;> rfl
        · dsimp only
          split
          · rename_i es _ _ _
            cases Nat.beq inf.size es with
            | false => rfl
            | true => simp only [cond_true]; (repeat' split) <;> rfl
          · rfl
  | extract x i =>
    dsimp only
    cases val C o.type s.env x <;> try rfl
    dsimp only
    split <;> rfl
  | build t ps => dsimp only; cases buildP C s.env t ps <;> rfl
  | call c =>
    dsimp only
    cases c.callee with
    | builtin b =>
      cases b <;> try rfl
      · dsimp only
        split
        · split <;> rfl
        · rfl
      · dsimp only
        split
        · cases maxP _ _ <;> rfl
        · rfl
      · dsimp only
        split
        · cases minP _ _ <;> rfl
        · rfl
    | invoke x m => rfl
    | value x =>
      dsimp only
      cases val C 0 s.env x <;> try rfl
      dsimp only
      split
      · rfl
      · rename_i fn _
        cases (fn.body.isSome && Nat.beq c.args.size c.argTypes.size && !(fn.name == "runtime.NumGoroutine")) with
        | false => rfl
        | true =>
          simp only [cond_true]
          rw [Option.bind_assoc]
          congr 1
          funext l
          rw [resList_bind, resList_bind (G := fun vs => some (oneOrTup vs, s))]
          cases resList C fn.resultTypes.toList l some <;> rfl
  | _ => rfl
theorem stepOp_pair {F : PV → St → Option R} (h : stepOp C call s o F = some r) : ∃ v s1, st1 C call s o = some (v, s1) ∧ F v s1 = some r := by
  rw [stepOp_bind] at h
  obtain ⟨x, h1, h2⟩ := Option.bind_eq_some_iff.mp h
  exact ⟨x.1, x.2, h1, h2⟩
theorem st1_eff {v : PV} {s1 : St} (h : st1 C call s o = some (v, s1)) : s1.env = s.env ∧ (s1.hp = s.hp ∨ (∃ blk, s1.hp = s.hp ++ [some blk] ∧ (s.hp.length, true) ∈ touch C s o) ∨ ∃ b blk, b < s.hp.length ∧ s1.hp = s.hp.set b (some blk) ∧ (b, true) ∈ touch C s o) := by
  have same : ∀ {x : Option PV}, (x.bind fun v => some (v, s)) = some (v, s1) → s1.env = s.env ∧ (s1.hp = s.hp ∨ (∃ blk, s1.hp = s.hp ++ [some blk] ∧ (s.hp.length, true) ∈ touch C s o) ∨ ∃ b blk, b < s.hp.length ∧ s1.hp = s.hp.set b (some blk) ∧ (b, true) ∈ touch C s o) := by
    intro x hx
    cases x with
    | none => exact absurd hx (by simp)
    | some p => simp only [Option.bind_some, Option.some.injEq, Prod.mk.injEq] at hx; obtain ⟨-, rfl⟩ := hx; exact ⟨rfl, .inl rfl⟩
  have one : ∀ {p : PV}, some (p, s) = some (v, s1) → s1.env = s.env ∧ (s1.hp = s.hp ∨ (∃ blk, s1.hp = s.hp ++ [some blk] ∧ (s.hp.length, true) ∈ touch C s o) ∨ ∃ b blk, b < s.hp.length ∧ s1.hp = s.hp.set b (some blk) ∧ (b, true) ∈ touch C s o) := fun hx => same (x := some _) hx
  unfold st1 stepOp at h
  cases ho : o.op with
  | move x => rw [ho] at h; exact one h
  | assign x => rw [ho] at h; exact one h
  | pick c x y =>
    rw [ho] at h
    dsimp only at h
    refine same (x := forkB (val C o.type s.env c) (fun t => bif t then some (val C o.type s.env x) else some (val C o.type s.env y))) ?_
    rw [forkB_bind, ← h]
    congr 1; funext b; cases b <;> rfl
  | alloc t =>
    rw [ho] at h
    dsimp only at h
    split at h
    · simp only [Option.some.injEq, Prod.mk.injEq] at h; obtain ⟨-, rfl⟩ := h
      exact ⟨rfl, .inr (.inl ⟨_, rfl, by simp [touch, ho]⟩)⟩
    · exact absurd h (by simp)
  | box t x =>
    rw [ho] at h
    dsimp only at h
    split at h
    · simp only [Option.some.injEq, Prod.mk.injEq] at h; obtain ⟨-, rfl⟩ := h
      exact ⟨rfl, .inr (.inl ⟨_, rfl, by simp [touch, ho]⟩)⟩
    · exact absurd h (by simp)
  | load t x =>
    rw [ho] at h
    dsimp only at h
    split at h
    · rw [loadFrom_bind] at h; exact same h
    · split at h
      · rw [loadFrom_bind] at h; exact same h
      · exact absurd h (by simp)
    · split at h
      · rw [loadFrom_bind] at h; exact same h
      · exact absurd h (by simp)
    · exact absurd h (by simp)
  | store t x y =>
    rw [ho] at h
    dsimp only at h
    split at h
    · exact absurd h (by simp)
    · rename_i vs _
      cases hb : (Nat.beq vs.length (C.P.cellsOf t) && vs.all PV.isCell && (C.P.info? t).isSome) with
      | false => rw [hb, cond_false] at h; exact absurd h (by simp)
      | true =>
        rw [hb, cond_true] at h
        split at h
        · rename_i b j hp
          split at h
          · rename_i cs hh
            cases hle : Nat.ble (j + vs.length) cs.length with
            | false => rw [hle, cond_false] at h; exact absurd h (by simp)
            | true =>
              rw [hle, cond_true] at h
              simp only [Option.some.injEq, Prod.mk.injEq] at h; obtain ⟨-, rfl⟩ := h
              exact ⟨rfl, .inr (.inr ⟨b, _, (List.getElem?_eq_some_iff.mp hh).1, rfl, by simp [touch, ho, hp]⟩)⟩
          · exact absurd h (by simp)
        · rename_i b i j hp
          split at h
          · rename_i es n get hh
            cases hle : Nat.ble (j + vs.length) es with
            | false => rw [hle, cond_false] at h; exact absurd h (by simp)
            | true =>
              rw [hle, cond_true] at h
              simp only [Option.some.injEq, Prod.mk.injEq] at h; obtain ⟨-, rfl⟩ := h
              exact ⟨rfl, .inr (.inr ⟨b, _, (List.getElem?_eq_some_iff.mp hh).1, rfl, by simp [touch, ho, hp]⟩)⟩
          · exact absurd h (by simp)
        · exact absurd h (by simp)
  | binOp op t x y t' => rw [ho] at h; dsimp only at h; rw [arith_bind] at h; exact same h
  | unOp op t x =>
    rw [ho] at h
    cases op with
    | not =>
      dsimp only at h
      split at h
      · exact one h
      · exact one h
      · exact absurd h (by simp)
    | _ => exact absurd h (by simp)
  | fieldAddr t x f =>
    rw [ho] at h
    dsimp only at h
    split at h
    · exact absurd h (by simp)
    · rename_i fd _
      cases hb : Nat.beq (C.P.cellsOf fd.type) 0 with
      | true => rw [hb, cond_true] at h; exact absurd h (by simp)
      | false =>
        rw [hb, cond_false] at h
        split at h
        · exact one h
        · exact one h
        · exact one h
        · exact absurd h (by simp)
  | field t x f =>
    rw [ho] at h
    dsimp only at h
    split at h
    · rw [loadFrom_bind] at h; exact same h
    · exact absurd h (by simp)
  | indexAddr t x y =>
    rw [ho] at h
    dsimp only at h
    split at h
    · exact absurd h (by simp)
    · split at h
      · rename_i inf _ _ es n get _ i _ _ _
        cases hb : Nat.beq inf.size es with
        | false => rw [hb, cond_false] at h; exact absurd h (by simp)
        | true =>
          rw [hb, cond_true] at h
          split at h
          · split at h
            · exact one h
            · exact absurd h (by simp)
          · exact absurd h (by simp)
      · rename_i inf b i0 n _ i _ _ _
        split at h
        · rename_i es _ _ _
          cases hb : Nat.beq inf.size es with
          | false => rw [hb, cond_false] at h; exact absurd h (by simp)
          | true =>
            rw [hb, cond_true] at h
            split at h
            · split at h
              · exact one h
              · exact absurd h (by simp)
            · exact absurd h (by simp)
        · exact absurd h (by simp)
      · exact absurd h (by simp)
  | extract x i =>
    rw [ho] at h
    dsimp only at h
    split at h
    · split at h
      · exact one h
      · exact absurd h (by simp)
    · exact absurd h (by simp)
  | build t ps => rw [ho] at h; exact same h
  | call c =>
    rw [ho] at h
    dsimp only at h
    split at h
    · split at h
      · split at h
        · exact one h
        · exact one h
        · exact one h
        · exact absurd h (by simp)
      · exact absurd h (by simp)
    · split at h
      · exact same h
      · exact absurd h (by simp)
    · split at h
      · exact same h
      · exact absurd h (by simp)
    · split at h
      · split at h
        · exact absurd h (by simp)
        · rename_i fn _
          cases hb : (fn.body.isSome && Nat.beq c.args.size c.argTypes.size && !(fn.name == "runtime.NumGoroutine")) with
          | false => rw [hb, cond_false] at h; exact absurd h (by simp)
          | true =>
            rw [hb, cond_true] at h
            obtain ⟨l, hl, h⟩ := Option.bind_eq_some_iff.mp h
            rw [resList_bind] at h
            cases hr : resList C fn.resultTypes.toList l some with
            | none => rw [hr] at h; exact absurd h (by simp)
            | some vs => rw [hr] at h; exact one h
      · exact absurd h (by simp)
    · exact absurd h (by simp)
  | _ => rw [ho] at h; exact absurd h (by simp)
end

def foldBits (o : Oper) (f : Nat → Nat) : Nat := o.after.toList.foldl (fun m e => bif Region.binds .any e then m ||| 2 ^ e.on ||| f e.on else m) 0
theorem foldBits_congr {o : Oper} {f g : Nat → Nat} (h : ∀ e ∈ o.after.toList, Region.binds .any e = true → f e.on = g e.on) : foldBits o f = foldBits o g := by
  unfold foldBits
  generalize hm : (0 : Nat) = m
  clear hm
  revert m
  generalize o.after.toList = l at h
  induction l with
  | nil => intro m; rfl
  | cons e l ih =>
    intro m
    rw [List.foldl_cons, List.foldl_cons]
    have : (bif Region.binds .any e then m ||| 2 ^ e.on ||| f e.on else m) = (bif Region.binds .any e then m ||| 2 ^ e.on ||| g e.on else m) := by
      cases hb : Region.binds .any e with
      | false => rfl
      | true => rw [h e (List.mem_cons_self) hb]
    rw [this]
    exact ih (fun e he => h e (List.mem_cons_of_mem _ he)) _
theorem foldBits_bit {o : Oper} {f : Nat → Nat} {x : Nat} (h : (foldBits o f).testBit x = true) : ∃ e ∈ o.after.toList, Region.binds .any e = true ∧ (e.on = x ∨ (f e.on).testBit x = true) := by
  unfold foldBits at h
  have key : ∀ (l : List Edge) (m : Nat), (l.foldl (fun m e => bif Region.binds .any e then m ||| 2 ^ e.on ||| f e.on else m) m).testBit x = true → m.testBit x = true ∨ ∃ e ∈ l, Region.binds .any e = true ∧ (e.on = x ∨ (f e.on).testBit x = true) := by
    intro l
    induction l with
    | nil => intro m h; exact .inl h
    | cons e l ih =>
      intro m h
      rw [List.foldl_cons] at h
      rcases ih _ h with h | ⟨e', he, h⟩
      · cases hb : Region.binds .any e with
        | false => rw [hb, cond_false] at h; exact .inl h
        | true =>
          rw [hb, cond_true, Nat.testBit_or, Nat.testBit_or, Bool.or_eq_true, Bool.or_eq_true] at h
          rcases h with (h | h) | h
          · exact .inl h
          · rw [Nat.testBit_two_pow] at h
            exact .inr ⟨e, List.mem_cons_self, hb, .inl (of_decide_eq_true h)⟩
          · exact .inr ⟨e, List.mem_cons_self, hb, .inr h⟩
      · exact .inr ⟨e', List.mem_cons_of_mem _ he, h⟩
  rcases key _ _ h with h | h
  · exact absurd h (by simp)
  · exact h
theorem befs_spec : ∀ (rest : List Oper) (i : Nat) (acc : List Nat), acc.length = i → edgesOk rest i = true →
    (befs rest i acc).length = i + rest.length ∧ (∀ k, k < i → (befs rest i acc).getD (i + rest.length - 1 - k) 0 = acc.getD (i - 1 - k) 0) ∧
    (∀ k o, rest[k]? = some o → (befs rest i acc).getD (i + rest.length - 1 - (i + k)) 0 = foldBits o (fun j => (befs rest i acc).getD (i + rest.length - 1 - j) 0)) := by
  intro rest
  induction rest with
  | nil =>
    intro i acc ha _
    refine ⟨by simpa [befs] using ha, fun k hk => by simp [befs], fun k o h => absurd h (by simp)⟩
  | cons o rest ih =>
    intro i acc ha he
    simp only [edgesOk, Bool.and_eq_true] at he
    obtain ⟨h1, h2, h3⟩ := ih (i + 1) (foldBits o (fun j => acc.getD (i - 1 - j) 0) :: acc) (by rw [List.length_cons, ha]) he.2
    have eq : befs (o :: rest) i acc = befs rest (i + 1) (foldBits o (fun j => acc.getD (i - 1 - j) 0) :: acc) := rfl
    rw [eq]
    generalize befs rest (i + 1) (foldBits o (fun j => acc.getD (i - 1 - j) 0) :: acc) = B at h1 h2 h3
    have old : ∀ k, k < i → B.getD (i + (o :: rest).length - 1 - k) 0 = acc.getD (i - 1 - k) 0 := fun k hk => by
      have := h2 k (by omega)
      rw [show i + (o :: rest).length - 1 - k = i + 1 + rest.length - 1 - k by rw [List.length_cons]; omega, this]
      rw [show i + 1 - 1 - k = (i - 1 - k) + 1 by omega, List.getD_cons_succ]
    refine ⟨by rw [h1, List.length_cons]; omega, old, fun k o' hk => ?_⟩
    cases k with
    | zero =>
      simp at hk
      subst hk
      have := h2 i (by omega)
      rw [show i + (o :: rest).length - 1 - (i + 0) = i + 1 + rest.length - 1 - i by rw [List.length_cons]; omega, this]
      rw [show i + 1 - 1 - i = 0 by omega, List.getD_cons_zero]
      refine foldBits_congr (fun e hem hb => ?_)
      have hon := List.all_eq_true.mp he.1 e hem
      rw [hb] at hon
      have hon : e.on < i := by simpa [Nat.blt_eq] using hon
      exact (old e.on hon).symm
    | succ k =>
      have := h3 k o' (by simpa using hk)
      rw [show i + (o :: rest).length - 1 - (i + (k + 1)) = i + 1 + rest.length - 1 - (i + 1 + k) by rw [List.length_cons]; omega, this]
      refine foldBits_congr (fun e _ _ => ?_)
      rw [show i + (o :: rest).length - 1 - e.on = i + 1 + rest.length - 1 - e.on by rw [List.length_cons]; omega]
theorem befAt_spec {ops : Array Oper} (he : edgesOk ops.toList 0 = true) {j : Nat} {o : Oper} (hj : ops[j]? = some o) : befAt ops.size (befs ops.toList 0 []) j = foldBits o (fun i => befAt ops.size (befs ops.toList 0 []) i) := by
  obtain ⟨_, _, h⟩ := befs_spec ops.toList 0 [] rfl he
  have := h j o (by simpa using hj)
  simp only [Nat.zero_add, Array.length_toList] at this
  exact this
theorem edgesOk_at : ∀ (rest : List Oper) (i : Nat), edgesOk rest i = true → ∀ k o, rest[k]? = some o → ∀ e ∈ o.after, Region.binds .any e = true → e.on < i + k := by
  intro rest
  induction rest with
  | nil => intro i _ k o h; exact absurd h (by simp)
  | cons o rest ih =>
    intro i h k o' hk e he hb
    simp only [edgesOk, Bool.and_eq_true] at h
    cases k with
    | zero =>
      simp at hk; subst hk
      have hon := List.all_eq_true.mp h.1 e (by simpa using he)
      rw [hb] at hon
      simpa [Nat.blt_eq] using hon
    | succ k =>
      have := ih (i + 1) h.2 k o' (by simpa using hk) e he hb
      omega
theorem tmpOk_at {ops : Array Oper} {bs : List Nat} (h : tmpOk ops bs = true) {i j : Nat} (hij : i < j) {x y : Oper} (hx : ops[i]? = some x) (hy : ops[j]? = some y) : (befAt ops.size bs j).testBit i = true ∨ x.apart ops y = true := by
  have hj : j < ops.size := (Array.getElem?_eq_some_iff.1 hy).1
  have := List.all_eq_true.mp (List.all_eq_true.mp h j (List.mem_range.mpr hj)) i (List.mem_range.mpr hij)
  rw [hx, hy, Bool.or_eq_true] at this
  exact this
theorem logOk_at {n : Nat} {bs : List Nat} : ∀ {l : Log}, logOk n bs l = true → ∀ (l1 l2 l3 : Log) (j b : Nat) (w : Bool) (i b' : Nat) (w' : Bool), l = l1 ++ (j, b, w) :: l2 ++ (i, b', w') :: l3 → b = b' → (w || w') = true → i ≠ j → (befAt n bs j).testBit i = true := by
  intro l
  induction l with
  | nil => intro _ l1 l2 l3 j b w i b' w' h; exact absurd h (by simp)
  | cons x l ih =>
    intro h l1 l2 l3 j b w i b' w' hl hb hw hij
    obtain ⟨j0, b0, w0⟩ := x
    simp only [logOk, Bool.and_eq_true] at h
    cases l1 with
    | nil =>
      simp only [List.nil_append, List.cons_append, List.cons.injEq, Prod.mk.injEq] at hl
      obtain ⟨⟨rfl, rfl, rfl⟩, rfl⟩ := hl
      have := List.all_eq_true.mp h.1 (i, b', w') (by simp)
      dsimp only at this
      subst hb
      simp only [Bool.or_eq_true, Bool.not_eq_true'] at this
      rcases this with ((h1 | h1) | h1) | h1
      · exact absurd h1 (by simp)
      · rw [hw] at h1; exact absurd h1 (by simp)
      · exact absurd (Nat.eq_of_beq_eq_true h1) hij
      · exact h1
    | cons y l1 =>
      simp only [List.cons_append, List.cons.injEq] at hl
      exact ih h.2 l1 l2 l3 j b w i b' w' (by simpa using hl.2) hb hw hij

def Tells (p : PV) (b : Bool) : Prop := p = .bool b ∨ ∃ pr, ∃ d : Decidable pr, p = .prop pr d ∧ b = @decide pr d
section
variable {C : Cfg} {R : Type} {r : R} {call : FuncId → List PV → Option (List PV)} {ops : Array Oper} {S : Stab} {w : World} {ρ : Rho}
theorem forkB_tells {p : PV} {G : Bool → Option R} (h : forkB p G = some r) : ∃ b, Tells p b ∧ G b = some r := by
  unfold forkB at h
  cases p with
  | bool b => exact ⟨b, .inl rfl, by cases b <;> simpa using h⟩
  | prop p d =>
    dsimp only at h
    refine ⟨@decide p d, .inr ⟨p, d, rfl, rfl⟩, ?_⟩
    by_cases hh : p
    · rw [if_pos hh] at h; rw [@decide_eq_true p d hh]; exact h
    · rw [if_neg hh] at h; rw [@decide_eq_false p d hh]; exact h
  | _ => exact absurd h (by simp)
theorem Tells.value {p : PV} {b : Bool} (h : Tells p b) {v : Value} (hv : VR S w ρ p v) : v = .bool b := by
  rcases h with rfl | ⟨pr, d, rfl, rfl⟩
  · cases hv; rfl
  · cases hv; rfl
def TrS (C : Cfg) (call : FuncId → List PV → Option (List PV)) (ops : Array Oper) (s : St) (tc : List (Nat × Bool)) (s' : St) (o : Oper) : Prop :=
  (o.guard = none ∧ ∃ v s1, st1 C call s o = some (v, s1) ∧ tc = touch C s o ∧ s' = s1.put o.dst v) ∨
  (∃ j want t b, o.guard = some (j, want) ∧ (ops[j]?).bind (·.dst) = some t ∧ Tells (look s.env t) b ∧
    (((b == want) = true ∧ ∃ v s1, st1 C call (s.put (some t) (.bool b)) o = some (v, s1) ∧ tc = touch C (s.put (some t) (.bool b)) o ∧ s' = s1.put o.dst v) ∨
     ((b == want) = false ∧ tc = [] ∧ s' = (s.put (some t) (.bool b)).put o.dst (.tup [])))) ∨
  (∃ j want t cs, o.guard = some (j, want) ∧ (ops[j]?).bind (·.dst) = some t ∧ look s.env t = .tup cs ∧ tc = [] ∧ s' = s.put o.dst (.tup []))
def logs (tch : Nat → List (Nat × Bool)) : Nat → Nat → Log → Log
  | _, 0, l => l
  | i, c + 1, l => logs tch (i + 1) c (logOf i (tch i) l)
theorem evOps_trace {F : St → Log → Option R} : ∀ (rest : List Oper) (i : Nat) (s : St) (l : Log), ops.toList.drop i = rest → evOps C call ops i rest s l F = some r →
    ∃ (st : Nat → St) (tch : Nat → List (Nat × Bool)), st i = s ∧ (∀ k o, i ≤ k → ops[k]? = some o → TrS C call ops (st k) (tch k) (st (k + 1)) o ∧ dstOk C.nt o = true) ∧ F (st (i + rest.length)) (logs tch i rest.length l) = some r := by
  intro rest
  induction rest with
  | nil =>
    intro i s l hd h
    refine ⟨fun _ => s, fun _ => [], rfl, fun k o hk ho => ?_, h⟩
    have hlt : k < ops.size := (Array.getElem?_eq_some_iff.1 ho).1
    have := List.drop_eq_nil_iff.mp hd
    rw [Array.length_toList] at this
    omega
  | cons o rest ih =>
    intro i s l hd h
    have hi : ops[i]? = some o := by
      have := congrArg (fun l => l[0]?) hd
      simpa using this
    have hd' : ops.toList.drop (i + 1) = rest := by
      have := congrArg (List.drop 1) hd
      simpa [List.drop_drop, Nat.add_comm] using this
    simp only [evOps] at h
    by_cases hdst : dstOk C.nt o = true
    case neg => rw [Bool.not_eq_true] at hdst; rw [hdst, cond_false] at h; exact absurd h (by simp)
    rw [hdst, cond_true] at h
    have fin : ∀ (s' : St) (tc : List (Nat × Bool)), TrS C call ops s tc s' o → evOps C call ops (i + 1) rest s' (logOf i tc l) F = some r →
        ∃ (st : Nat → St) (tch : Nat → List (Nat × Bool)), st i = s ∧ (∀ k o, i ≤ k → ops[k]? = some o → TrS C call ops (st k) (tch k) (st (k + 1)) o ∧ dstOk C.nt o = true) ∧ F (st (i + (o :: rest).length)) (logs tch i (o :: rest).length l) = some r := by
      intro s' tc ht h
      obtain ⟨st, tch, h1, h2, h3⟩ := ih (i + 1) s' (logOf i tc l) hd' h
      have e : ∀ (c k : Nat) (l : Log), i < k → logs (fun k => if k = i then tc else tch k) k c l = logs tch k c l := by
        intro c
        induction c with
        | zero => intro k l _; rfl
        | succ c ihc => intro k l hk; simp only [logs]; rw [if_neg (by omega)]; exact ihc _ _ (by omega)
      refine ⟨fun k => if k = i then s else st k, fun k => if k = i then tc else tch k, if_pos rfl, fun k o' hk ho => ?_, ?_⟩
      · by_cases ek : k = i
        · subst ek
          rw [hi] at ho; injection ho with ho; subst ho
          (try dsimp only)
          rw [if_pos rfl, if_pos rfl, if_neg (by omega), h1]
          exact ⟨ht, hdst⟩
        · (try dsimp only)
          rw [if_neg ek, if_neg ek, if_neg (by omega)]
          exact h2 k o' (by omega) ho
      · (try dsimp only)
        rw [if_neg (by simp), List.length_cons]
        simp only [logs]
        rw [if_pos trivial, e _ _ _ (by omega), show i + (rest.length + 1) = i + 1 + rest.length by omega]
        exact h3
    cases hg : o.guard with
    | none =>
      rw [hg] at h
      obtain ⟨v, s1, h1, h2⟩ := stepOp_pair h
      exact fin _ _ (.inl ⟨hg, v, s1, h1, rfl, rfl⟩) h2
    | some g =>
      obtain ⟨j, want⟩ := g
      rw [hg] at h
      dsimp only at h
      cases ht : (ops[j]?).bind (·.dst) with
      | none => rw [ht] at h; exact absurd h (by simp)
      | some t =>
        rw [ht] at h
        dsimp only at h
        rcases tup_split h with ⟨cs, hcs, h⟩ | ⟨h, -⟩
        · exact fin _ [] (.inr (.inr ⟨j, want, t, cs, hg, ht, hcs, rfl, rfl⟩)) h
        obtain ⟨b, hb, h⟩ := forkB_tells h
        by_cases hbw : (b == want) = true
        · rw [hbw, cond_true] at h
          obtain ⟨v, s1, h1, h2⟩ := stepOp_pair h
          exact fin _ _ (.inr (.inl ⟨j, want, t, b, hg, ht, hb, .inl ⟨hbw, v, s1, h1, rfl, rfl⟩⟩)) h2
        · rw [Bool.not_eq_true] at hbw
          rw [hbw, cond_false] at h
          exact fin _ [] (.inr (.inl ⟨j, want, t, b, hg, ht, hb, .inr ⟨hbw, rfl, rfl⟩⟩)) h
theorem logOf_eq (i : Nat) : ∀ (ts : List (Nat × Bool)) (l : Log), logOf i ts l = ts.map (fun x => (i, x.1, x.2)) ++ l
  | [], _ => rfl
  | (b, w) :: ts, l => by simp only [logOf, List.map_cons, List.cons_append]; rw [logOf_eq i ts l]
theorem logs_split (tch : Nat → List (Nat × Bool)) : ∀ (c1 c2 i : Nat) (l : Log), logs tch i (c1 + c2) l = logs tch (i + c1) c2 (logs tch i c1 l)
  | 0, c2, i, l => by simp [logs]
  | c1 + 1, c2, i, l => by
    rw [show c1 + 1 + c2 = (c1 + c2) + 1 by omega]
    simp only [logs]
    rw [logs_split tch c1 c2 (i + 1), show i + 1 + c1 = i + (c1 + 1) by omega]
theorem logs_suffix (tch : Nat → List (Nat × Bool)) : ∀ (c i : Nat) (l : Log), ∃ X, logs tch i c l = X ++ l
  | 0, _, l => ⟨[], rfl⟩
  | c + 1, i, l => by
    obtain ⟨X, h⟩ := logs_suffix tch c (i + 1) (logOf i (tch i) l)
    exact ⟨X ++ (tch i).map (fun x => (i, x.1, x.2)), by simp only [logs]; rw [h, logOf_eq, List.append_assoc]⟩
theorem logs_mem (tch : Nat → List (Nat × Bool)) {a x : Nat} {w : Bool} (hm : (x, w) ∈ tch a) (c i : Nat) (l : Log) (h1 : i ≤ a) (h2 : a < i + c) : (a, x, w) ∈ logs tch i c l := by
  obtain ⟨X, h⟩ := logs_suffix tch (c - (a - i) - 1) (a + 1) (logOf a (tch a) (logs tch i (a - i) l))
  have e : logs tch i c l = logs tch (a + 1) (c - (a - i) - 1) (logOf a (tch a) (logs tch i (a - i) l)) := by
    have := logs_split tch (a - i) (c - (a - i)) i l
    rw [show a - i + (c - (a - i)) = c by omega, show i + (a - i) = a by omega] at this
    rw [this]
    conv => lhs; rw [show c - (a - i) = (c - (a - i) - 1) + 1 by omega]
    rfl
  rw [e, h, logOf_eq]
  simp only [List.mem_append, List.mem_map]
  exact .inr (.inl ⟨(x, w), hm, rfl⟩)
theorem logs_pair {tch : Nat → List (Nat × Bool)} {n : Nat} {bs : List Nat} (h : logOk n bs (logs tch 0 n []) = true) {i j b : Nat} {wi wj : Bool} (hij : i < j) (hj : j < n) (hi : (b, wi) ∈ tch i) (hjm : (b, wj) ∈ tch j) (hw : (wi || wj) = true) : (befAt n bs j).testBit i = true := by
  have e : logs tch 0 n [] = logs tch (j + 1) (n - j - 1) (logOf j (tch j) (logs tch 0 j [])) := by
    have := logs_split tch j (n - j) 0 []
    rw [show j + (n - j) = n by omega, Nat.zero_add] at this
    rw [this]
    conv => lhs; rw [show n - j = (n - j - 1) + 1 by omega]
    rfl
  obtain ⟨X, hX⟩ := logs_suffix tch (n - j - 1) (j + 1) (logOf j (tch j) (logs tch 0 j []))
  have hm := logs_mem tch hi j 0 [] (Nat.zero_le _) (by omega)
  obtain ⟨k1, k3, hk⟩ := List.append_of_mem hm
  obtain ⟨m1, m2, hm2⟩ := List.append_of_mem (List.mem_map.mpr ⟨(b, wj), hjm, rfl⟩ : (j, b, wj) ∈ (tch j).map (fun x => (j, x.1, x.2)))
  refine logOk_at h (X ++ m1) (m2 ++ k1) k3 j b wj i b wi ?_ rfl (by rw [Bool.or_comm]; exact hw) (by omega)
  rw [e, hX, logOf_eq, hm2, hk]
  simp
end

section
variable {w0 : World} {S0 : Stab} {C : Cfg} {call : FuncId → List PV → Option (List PV)} {ops : Array Oper} {st : Nat → St} {tch : Nat → List (Nat × Bool)}
structure TR (C : Cfg) (call : FuncId → List PV → Option (List PV)) (ops : Array Oper) (st : Nat → St) (tch : Nat → List (Nat × Bool)) (bs : List Nat) : Prop where
  s : ∀ k o, ops[k]? = some o → TrS C call ops (st k) (tch k) (st (k + 1)) o ∧ dstOk C.nt o = true
  e : edgesOk ops.toList 0 = true
  b : bs = befs ops.toList 0 []
  t : tmpOk ops bs = true
  l : logOk ops.size bs (logs tch 0 ops.size []) = true
theorem TrS.told {s s' : St} {tc : List (Nat × Bool)} {o : Oper} (h : TrS C call ops s tc s' o) : ∃ (sp s1 : St) (p : PV), s' = s1.put o.dst p ∧ s1.env = sp.env ∧ sp.hp = s.hp ∧
    (∀ (S : Stab) (w : World) (ρ : Rho) t v, VR S w ρ (look s.env t) v → VR S w ρ (look sp.env t) v) ∧
    (s1.hp = s.hp ∨ (∃ blk, s1.hp = s.hp ++ [some blk] ∧ (s.hp.length, true) ∈ tc) ∨ ∃ b blk, b < s.hp.length ∧ s1.hp = s.hp.set b (some blk) ∧ (b, true) ∈ tc) := by
  have told : ∀ {t : Nat} {b : Bool}, Tells (look s.env t) b → ∀ (S : Stab) (w : World) (ρ : Rho) u v, VR S w ρ (look s.env u) v → VR S w ρ (look (s.put (some t) (.bool b)).env u) v := by
    intro t b hb S w ρ u v hv
    rw [look_put]
    by_cases e : some t = some u
    · rw [if_pos e]; injection e with e; subst e; rw [hb.value hv]; exact .bool b
    · rw [if_neg e]; exact hv
  rcases h with ⟨-, v, s1, h1, rfl, rfl⟩ | ⟨j, want, t, b, -, -, hb, (⟨-, v, s1, h1, rfl, rfl⟩ | ⟨-, rfl, rfl⟩)⟩ | ⟨j, want, t, cs, -, -, hcs, rfl, rfl⟩
  · have := st1_eff h1
    exact ⟨s, s1, v, rfl, this.1, rfl, fun _ _ _ _ _ h => h, this.2⟩
  · have := st1_eff h1
    exact ⟨s.put (some t) (.bool b), s1, v, rfl, this.1, rfl, told hb, this.2⟩
  · exact ⟨s.put (some t) (.bool b), s.put (some t) (.bool b), .tup [], rfl, rfl, rfl, told hb, .inl rfl⟩
  · exact ⟨s, s, .tup [], rfl, rfl, rfl, fun _ _ _ _ _ h => h, .inl rfl⟩
theorem TrS.env {s s' : St} {tc : List (Nat × Bool)} {o : Oper} (h : TrS C call ops s tc s' o) {S : Stab} {w : World} {ρ : Rho} {t : Nat} {v : Value} (ht : o.dst ≠ some t) (hv : VR S w ρ (look s.env t) v) : VR S w ρ (look s'.env t) v := by
  obtain ⟨sp, s1, p, rfl, h2, -, h4, -⟩ := h.told
  rw [look_put, if_neg ht, h2]
  exact h4 S w ρ t v hv
theorem TrS.hp {s s' : St} {tc : List (Nat × Bool)} {o : Oper} (h : TrS C call ops s tc s' o) {b : Nat} (hb : (b, true) ∉ tc) : s'.hp[b]? = s.hp[b]? := by
  obtain ⟨sp, s1, p, rfl, -, -, -, h5⟩ := h.told
  rw [hp_put]
  rcases h5 with h5 | ⟨blk, h5, h6⟩ | ⟨c, blk, h5, h6, h7⟩
  · rw [h5]
  · rw [h5]
    have hne : b ≠ s.hp.length := fun e => hb (e ▸ h6)
    rcases Nat.lt_or_ge b s.hp.length with hl | hl
    · rw [List.getElem?_append_left hl]
    · rw [List.getElem?_append_right hl, List.getElem?_eq_none (by simp; omega), List.getElem?_eq_none hl]
  · rw [h6, List.getElem?_set_ne (fun e => hb (by subst e; exact h7))]
theorem TrS.len {s s' : St} {tc : List (Nat × Bool)} {o : Oper} (h : TrS C call ops s tc s' o) : s.hp.length ≤ s'.hp.length ∧ (s'.hp.length ≠ s.hp.length → s'.hp.length = s.hp.length + 1 ∧ (s.hp.length, true) ∈ tc) := by
  obtain ⟨sp, s1, p, rfl, -, -, -, h5⟩ := h.told
  rw [hp_put]
  rcases h5 with h5 | ⟨blk, h5, h6⟩ | ⟨c, blk, h5, h6, h7⟩
  · rw [h5]; exact ⟨Nat.le_refl _, fun h => absurd rfl h⟩
  · rw [h5, List.length_append, List.length_singleton]; exact ⟨by omega, fun _ => ⟨rfl, h6⟩⟩
  · rw [h6, List.length_set]; exact ⟨Nat.le_refl _, fun h => absurd rfl h⟩
variable {bs : List Nat}
theorem TR.env (T : TR C call ops st tch bs) {S : Stab} {w : World} {ρ : Rho} {t : Nat} {v : Value} (d : Nat) : ∀ m, m + d ≤ ops.size → (∀ k o, m ≤ k → k < m + d → ops[k]? = some o → o.dst ≠ some t) → VR S w ρ (look (st m).env t) v → VR S w ρ (look (st (m + d)).env t) v := by
  induction d with
  | zero => intro m _ _ h; exact h
  | succ d ih =>
    intro m hm hk h
    have hlt : m + d < ops.size := by omega
    have ho : ops[m + d]? = some ops[m + d] := Array.getElem?_eq_getElem hlt
    exact ((T.s (m + d) _ ho).1).env (hk _ _ (by omega) (by omega) ho) (ih m (by omega) (fun k o h1 h2 => hk k o h1 (by omega)) h)
theorem TR.hp (T : TR C call ops st tch bs) {b : Nat} (d : Nat) : ∀ m, m + d ≤ ops.size → (∀ k, m ≤ k → k < m + d → (b, true) ∉ tch k) → (st (m + d)).hp[b]? = (st m).hp[b]? := by
  induction d with
  | zero => intro m _ _; rfl
  | succ d ih =>
    intro m hm hk
    have hlt : m + d < ops.size := by omega
    have ho : ops[m + d]? = some ops[m + d] := Array.getElem?_eq_getElem hlt
    exact (((T.s (m + d) _ ho).1).hp (hk _ (by omega) (by omega))).trans (ih m (by omega) (fun k h1 h2 => hk k h1 (by omega)))
theorem TR.len (T : TR C call ops st tch bs) (d : Nat) : ∀ m, m + d ≤ ops.size → (st m).hp.length ≤ (st (m + d)).hp.length := by
  induction d with
  | zero => intro m _; exact Nat.le_refl _
  | succ d ih =>
    intro m hm
    have hlt : m + d < ops.size := by omega
    have ho : ops[m + d]? = some ops[m + d] := Array.getElem?_eq_getElem hlt
    exact Nat.le_trans (ih m (by omega)) ((T.s (m + d) _ ho).1).len.1
def Li (L : Array Bool) (i : Nat) : Prop := L.getD i false = true
structure JD (w0 : World) (S0 : Stab) (C : Cfg) (ops : Array Oper) (st : Nat → St) (tch : Nat → List (Nat × Bool)) (bs : List Nat) (S : Stab) (ρ : Rho) (L : Array Bool) (a : Act) (w : World) : Prop where
  cx : Cx w0 S ρ w
  s0 : ∀ b o, S0 b o → S b o
  new : ∀ b o, S b o → ¬ S0 b o → w0.heap.size ≤ b
  size : a.tmps.size = C.nt
  defers : a.defers = []
  lsz : L.size = ops.size
  closed : ∀ j, Li L j → ∀ i, (befAt ops.size bs j).testBit i = true → Li L i
  env : ∀ t, (∃ i o, Li L i ∧ ops[i]? = some o ∧ o.dst = some t ∧ (∀ k o', Li L k → ops[k]? = some o' → o'.dst = some t → k ≤ i) ∧ VR S w ρ (look (st (i + 1)).env t) (a.tmps.getD t undef)) ∨ ((∀ k o', Li L k → ops[k]? = some o' → o'.dst ≠ some t) ∧ VR S w ρ (look (st 0).env t) (a.tmps.getD t undef))
  blk : ∀ b, (∃ i, Li L i ∧ (b, true) ∈ tch i ∧ (∀ k, Li L k → (b, true) ∈ tch k → k ≤ i) ∧ ∀ blk, (st (i + 1)).hp[b]? = some (some blk) → BR S ρ w b blk) ∨ ((∀ k, Li L k → (b, true) ∉ tch k) ∧ ∀ blk, (st 0).hp[b]? = some (some blk) → BR S ρ w b blk)
  dom : ∀ b i, ρ b = some i → b < (st 0).hp.length ∨ ∃ k, Li L k ∧ b = (st k).hp.length ∧ (st (k + 1)).hp.length = b + 1 ∧ (b, true) ∈ tch k
theorem Li.lt {L : Array Bool} {i : Nat} (h : Li L i) : i < L.size := by
  unfold Li at h
  rcases Nat.lt_or_ge i L.size with h' | h'
  · exact h'
  · rw [Array.getD_eq_getD_getElem?, Array.getElem?_eq_none h'] at h; exact absurd h (by simp)
theorem Li.set {L : Array Bool} {j : Nat} (hj : j < L.size) (i : Nat) : Li (L.setIfInBounds j true) i ↔ (i = j ∨ Li L i) := by
  unfold Li
  rw [Array.getD_eq_getD_getElem?, Array.getD_eq_getD_getElem?]
  by_cases h : i = j
  · subst h; rw [Array.getElem?_setIfInBounds_self_of_lt hj]; simp
  · rw [Array.getElem?_setIfInBounds_ne (fun e => h e.symm)]; simp [h]
section
variable {S : Stab} {w : World} {ρ : Rho} {L : Array Bool} {a : Act} {j : Nat} {o : Oper}
structure Nxt (ops : Array Oper) (bs : List Nat) (L : Array Bool) (j : Nat) (o : Oper) : Prop where
  o : ops[j]? = some o
  lt : j < ops.size
  no : ¬ Li L j
  bef : ∀ i, (befAt ops.size bs j).testBit i = true → Li L i
  aft : ∀ k, Li L k → (befAt ops.size bs k).testBit j = false
theorem JD.next (T : TR C call ops st tch bs) (J : JD w0 S0 C ops st tch bs S ρ L a w) (hr : j ∈ Region.ready .any ops L) : ∃ o, Nxt ops bs L j o := by
  obtain ⟨h1, o, ho, h2⟩ := mem_ready.mp hr
  have hlt : j < ops.size := (Array.getElem?_eq_some_iff.1 ho).1
  have no : ¬ Li L j := fun h => by
    unfold Li at h
    rw [Array.getD_eq_getD_getElem?] at h h1
    have hl : j < L.size := by rw [J.lsz]; exact hlt
    rw [Array.getElem?_eq_getElem hl] at h h1
    simp at h h1
    rw [h1] at h; exact absurd h (by simp)
  refine ⟨o, ho, hlt, no, fun i hi => ?_, fun k hk => ?_⟩
  · have hb := T.b
    subst hb
    rw [befAt_spec T.e ho] at hi
    obtain ⟨e, he, hb, h | h⟩ := foldBits_bit hi
    · exact h ▸ h2 e (by simpa using he) hb
    · exact J.closed e.on (h2 e (by simpa using he) hb) i h
  · rw [← Bool.not_eq_true]
    exact fun h => no (J.closed k hk j h)
theorem JD.op_env (T : TR C call ops st tch bs) (J : JD w0 S0 C ops st tch bs S ρ L a w) (N : Nxt ops bs L j o) {t : Nat} (ht : t ∈ o.looksAt ops) : VR S w ρ (look (st j).env t) (a.tmps.getD t undef) := by
  have ahead : ∀ k o', k < j → ops[k]? = some o' → o'.dst = some t → Li L k := fun k o' hk ho' hd => by
    rcases tmpOk_at T.t hk ho' N.o with h | h
    · exact N.bef k h
    · exact absurd ht ((Oper.apart_spec h).1 t hd)
  rcases J.env t with ⟨i, oi, hi, hoi, hdi, hmax, hv⟩ | ⟨hno, hv⟩
  · have hne : i ≠ j := fun e => N.no (e ▸ hi)
    have hij : i < j := by
      rcases Nat.lt_or_gt_of_ne hne with h | h
      · exact h
      · rcases tmpOk_at T.t h N.o hoi with h' | h'
        · rw [N.aft i hi] at h'; exact absurd h' (by simp)
        · exact absurd ht ((Oper.apart_spec h').2.2 t hdi)
    have := T.env (S := S) (w := w) (ρ := ρ) (t := t) (j - (i + 1)) (i + 1) (by have := N.lt; omega) (fun k o' h1 h2 ho' hd => by
      have := hmax k o' (ahead k o' (by omega) ho' hd) ho' hd
      omega) hv
    rw [show i + 1 + (j - (i + 1)) = j by omega] at this
    exact this
  · have := T.env (S := S) (w := w) (ρ := ρ) (t := t) j 0 (by have := N.lt; omega) (fun k o' h1 h2 ho' hd => hno k o' (ahead k o' (by omega) ho' hd) ho' hd) hv
    rw [Nat.zero_add] at this
    exact this
theorem JD.op_blk (T : TR C call ops st tch bs) (J : JD w0 S0 C ops st tch bs S ρ L a w) (N : Nxt ops bs L j o) {b : Nat} {wr : Bool} (hb : (b, wr) ∈ tch j) : ∀ blk, (st j).hp[b]? = some (some blk) → BR S ρ w b blk := by
  have ahead : ∀ k, k < j → (b, true) ∈ tch k → Li L k := fun k hk h => N.bef k (logs_pair T.l hk N.lt h hb rfl)
  rcases J.blk b with ⟨i, hi, hbi, hmax, hv⟩ | ⟨hno, hv⟩
  · have hne : i ≠ j := fun e => N.no (e ▸ hi)
    have hil : i < ops.size := J.lsz ▸ hi.lt
    have hij : i < j := by
      rcases Nat.lt_or_gt_of_ne hne with h | h
      · exact h
      · have := logs_pair T.l h hil hb hbi (by simp)
        rw [N.aft i hi] at this; exact absurd this (by simp)
    have := T.hp (b := b) (j - (i + 1)) (i + 1) (by have := N.lt; omega) (fun k h1 h2 h => by
      have := hmax k (ahead k (by omega) h) h
      omega)
    rw [show i + 1 + (j - (i + 1)) = j by omega] at this
    rw [this]
    exact hv
  · have := T.hp (b := b) j 0 (by have := N.lt; omega) (fun k h1 h2 h => hno k (ahead k (by omega) h) h)
    rw [Nat.zero_add] at this
    rw [this]
    exact hv
theorem JD.op_fresh (T : TR C call ops st tch bs) (J : JD w0 S0 C ops st tch bs S ρ L a w) (N : Nxt ops bs L j o) (hb : ((st j).hp.length, true) ∈ tch j) : ρ (st j).hp.length = none := by
  cases hr : ρ (st j).hp.length with
  | none => rfl
  | some i =>
    exfalso
    rcases J.dom _ _ hr with h | ⟨k, hk, h1, h2, h3⟩
    · have := T.len j 0 (by have := N.lt; omega)
      rw [Nat.zero_add] at this
      omega
    · have hne : k ≠ j := fun e => N.no (e ▸ hk)
      have hkl : k < ops.size := J.lsz ▸ hk.lt
      rcases Nat.lt_or_gt_of_ne hne with h | h
      · have := T.len (j - (k + 1)) (k + 1) (by have := N.lt; omega)
        rw [show k + 1 + (j - (k + 1)) = j by omega] at this
        omega
      · have := logs_pair T.l h hkl hb h3 (by simp)
        rw [N.aft k hk] at this; exact absurd this (by simp)
theorem JD.step (T : TR C call ops st tch bs) (J : JD w0 S0 C ops st tch bs S ρ L a w) (N : Nxt ops bs L j o) {S' : Stab} {ρ' : Rho} {w' : World} {p : PV} {u : Value}
    (cx : Cx w0 S' ρ' w') (hS : ∀ b o, S b o → S' b o ∧ w'.cell? ⟨b, o, none⟩ = w.cell? ⟨b, o, none⟩) (hρ : ∀ b i, ρ b = some i → ρ' b = some i) (hnew : ∀ b o, S' b o → ¬ S b o → w0.heap.size ≤ b)
    (henv : ∀ t, o.dst = some t → look (st (j + 1)).env t = p) (hp : VR S' w' ρ' p u)
    (hchg : ((st (j + 1)).hp = (st j).hp ∧ ρ' = ρ ∧ ∀ b i, ρ b = some i → w'.heap[i.id]? = w.heap[i.id]?) ∨
      (∃ b blk, (b, true) ∈ tch j ∧ BR S' ρ' w' b blk ∧ (∀ c, c ≠ b → ρ' c = ρ c) ∧ (∀ c i, c ≠ b → ρ c = some i → w'.heap[i.id]? = w.heap[i.id]?) ∧ ((b = (st j).hp.length ∧ (st (j + 1)).hp = (st j).hp ++ [some blk]) ∨ (b < (st j).hp.length ∧ ρ' = ρ ∧ (st (j + 1)).hp = (st j).hp.set b (some blk))))) :
    JD w0 S0 C ops st tch bs S' ρ' (L.setIfInBounds j true) (a.put o.dst u) w' := by
  have hjl : j < L.size := by rw [J.lsz]; exact N.lt
  have hd : ∀ x, o.dst = some x → x < a.tmps.size := fun x hx => by rw [J.size]; exact dst_ok (T.s j o N.o).2 x hx
  have keep : ∀ b, (b, true) ∉ tch j → ∀ blk, BR S ρ w b blk → BR S' ρ' w' b blk := fun b hb blk h => by
    refine h.mono hS hρ (fun i hi => ?_)
    rcases hchg with ⟨-, -, h3⟩ | ⟨c, _, hc, _, _, h3, _⟩
    · exact h3 b i hi
    · exact h3 b i (fun e => hb (e ▸ hc)) hi
  refine ⟨cx, fun b q h => (hS b q (J.s0 b q h)).1, fun b q h h0 => ?_, by rw [size_put]; exact J.size, by rw [defers_put]; exact J.defers, by rw [Array.size_setIfInBounds]; exact J.lsz, fun k hk i hi => ?_, fun t => ?_, fun b => ?_, fun b i hi => ?_⟩
  · by_cases hh : S b q
    · exact J.new b q hh h0
    · exact hnew b q h hh
  · rw [Li.set hjl] at hk ⊢
    rcases hk with rfl | hk
    · exact .inr (N.bef i hi)
    · exact .inr (J.closed k hk i hi)
  · rw [tmps_put _ _ _ _ hd]
    by_cases e : o.dst = some t
    · rw [if_pos e]
      refine .inl ⟨j, o, (Li.set hjl _).mpr (.inl rfl), N.o, e, fun k o' hk ho' hdk => ?_, by rw [henv t e]; exact hp⟩
      rcases (Li.set hjl _).mp hk with rfl | hk
      · exact Nat.le_refl _
      · rcases Nat.lt_or_ge j k with h | h
        · rcases tmpOk_at T.t h N.o ho' with h' | h'
          · rw [N.aft k hk] at h'; exact absurd h' (by simp)
          · exact absurd hdk ((Oper.apart_spec h').2.1 t e)
        · exact h
    · rw [if_neg e]
      rcases J.env t with ⟨i, oi, hi, hoi, hdi, hmax, hv⟩ | ⟨hno, hv⟩
      · refine .inl ⟨i, oi, (Li.set hjl _).mpr (.inr hi), hoi, hdi, fun k o' hk ho' hdk => ?_, hv.mono hS hρ⟩
        rcases (Li.set hjl _).mp hk with rfl | hk
        · rw [N.o] at ho'; injection ho' with ho'; subst ho'; exact absurd hdk e
        · exact hmax k o' hk ho' hdk
      · refine .inr ⟨fun k o' hk ho' hdk => ?_, hv.mono hS hρ⟩
        rcases (Li.set hjl _).mp hk with rfl | hk
        · rw [N.o] at ho'; injection ho' with ho'; subst ho'; exact absurd hdk e
        · exact hno k o' hk ho' hdk
  · by_cases hb : (b, true) ∈ tch j
    · refine .inl ⟨j, (Li.set hjl _).mpr (.inl rfl), hb, fun k hk hbk => ?_, fun blk hblk => ?_⟩
      · rcases (Li.set hjl _).mp hk with rfl | hk
        · exact Nat.le_refl _
        · rcases Nat.lt_or_ge j k with h | h
          · have := logs_pair T.l h (J.lsz ▸ hk.lt) hb hbk rfl
            rw [N.aft k hk] at this; exact absurd this (by simp)
          · exact h
      · rcases hchg with ⟨h1, h2, h3⟩ | ⟨c, blk', hc, h1, h2, h3, h4⟩
        · rw [h1] at hblk
          exact (J.op_blk T N hb blk hblk).mono hS hρ (fun i hi => h3 b i hi)
        · by_cases e : b = c
          · subst e
            have : blk = blk' := by
              rcases h4 with ⟨h5, h6⟩ | ⟨h5, h6, h7⟩
              · rw [h6, h5, List.getElem?_append_right (Nat.le_refl _), Nat.sub_self] at hblk
                simpa using hblk.symm
              · rw [h7, List.getElem?_set_self h5] at hblk
                simpa using hblk.symm
            rw [this]; exact h1
          · have hb' : (st j).hp[b]? = some (some blk) := by
              rcases h4 with ⟨h5, h6⟩ | ⟨h5, h6, h7⟩
              · rw [h6] at hblk
                rcases Nat.lt_or_ge b (st j).hp.length with hl | hl
                · rw [List.getElem?_append_left hl] at hblk; exact hblk
                · rw [List.getElem?_append_right hl, List.getElem?_eq_none (by simp; omega)] at hblk; exact absurd hblk (by simp)
              · rw [h7, List.getElem?_set_ne (fun e' => e e'.symm)] at hblk; exact hblk
            exact (J.op_blk T N hb blk hb').mono hS hρ (fun i hi => h3 b i e hi)
    · rcases J.blk b with ⟨i, hi, hbi, hmax, hv⟩ | ⟨hno, hv⟩
      · refine .inl ⟨i, (Li.set hjl _).mpr (.inr hi), hbi, fun k hk hbk => ?_, fun blk hblk => keep b hb blk (hv blk hblk)⟩
        rcases (Li.set hjl _).mp hk with rfl | hk
        · exact absurd hbk hb
        · exact hmax k hk hbk
      · refine .inr ⟨fun k hk hbk => ?_, fun blk hblk => keep b hb blk (hv blk hblk)⟩
        rcases (Li.set hjl _).mp hk with rfl | hk
        · exact absurd hbk hb
        · exact hno k hk hbk
  · have old : ∀ i, ρ b = some i → b < (st 0).hp.length ∨ ∃ k, Li (L.setIfInBounds j true) k ∧ b = (st k).hp.length ∧ (st (k + 1)).hp.length = b + 1 ∧ (b, true) ∈ tch k := fun i hi => by
      rcases J.dom b i hi with h | ⟨k, hk, h⟩
      · exact .inl h
      · exact .inr ⟨k, (Li.set hjl _).mpr (.inr hk), h⟩
    rcases hchg with ⟨h1, h2, h3⟩ | ⟨c, blk', hc, h1, h2, h3, h4⟩
    · rw [h2] at hi; exact old i hi
    · rcases h4 with ⟨h5, h6⟩ | ⟨h5, h6, h7⟩
      · by_cases e : b = c
        · refine .inr ⟨j, (Li.set hjl _).mpr (.inl rfl), e.trans h5, ?_, e ▸ hc⟩
          rw [h6, List.length_append, List.length_singleton, ← h5, e]
        · rw [h2 b e] at hi; exact old i hi
      · rw [h6] at hi; exact old i hi
end
end

section
variable {w0 : World} {S0 : Stab} {C : Cfg} {R : Type} {r : R} {call : FuncId → List PV → Option (List PV)} {ops : Array Oper} {st : Nat → St} {tch : Nat → List (Nat × Bool)} {bs : List Nat} {Q : Exit → Act → World → Prop} {S : Stab} {w : World} {ρ : Rho} {a : Act} {s : St}
theorem looks_op {o : Oper} {t : Nat} (h : Operand.tmp t ∈ o.op.operands) : t ∈ o.looksAt ops := by
  refine List.mem_append_left _ (List.mem_filterMap.mpr ⟨.tmp t, by simpa using h, rfl⟩)
theorem JD.wpOp (hcall : CallOK C.P call) (T : TR C call ops st tch bs) {L : Array Bool} (J : JD w0 S0 C ops st tch bs S ρ L a w) {j : Nat} (hr : j ∈ Region.ready .any ops L) {K : Act → World → Prop}
    (hK : ∀ a w, (∃ S ρ, JD w0 S0 C ops st tch bs S ρ (L.setIfInBounds j true) a w) → K a w) : wpOp C.P ops Q j K a w := by
  obtain ⟨o, N⟩ := J.next T hr
  unfold Go.wpOp
  simp only [N.o]
  have run : ∀ (sp : St), sp.hp = (st j).hp → touch C sp o = tch j → (∀ t, t ∈ o.looksAt ops → VR S w ρ (look sp.env t) (a.tmps.getD t undef)) → (∃ v s1, st1 C call sp o = some (v, s1) ∧ st (j + 1) = s1.put o.dst v) → o.wp C.P a w K Q := by
    intro sp hhp htc hv ⟨v, s1, h1, h2⟩
    refine op_steps hcall J.cx (fun h => ?_) h1 (fun t ht => hv t (looks_op ht)) (fun b wr hb blk hblk => J.op_blk T N (htc ▸ hb) blk (hhp ▸ hblk)) K Q (fun p s' u w' S' ρ' hF out hp => hK _ _ ⟨S', ρ', ?_⟩)
    · rw [hhp]; rw [hhp, htc] at h; exact J.op_fresh T N h
    · simp only [Option.some.injEq, Prod.mk.injEq] at hF
      obtain ⟨rfl, rfl⟩ := hF
      refine J.step T N out.cx out.st out.rho out.new (fun t ht => by rw [h2, look_put, if_pos ht]) hp ?_
      rw [h2, hp_put, ← hhp, ← htc]
      exact out.chg
  rcases (T.s j o N.o).1 with ⟨hg, v, s1, h1, h2, h3⟩ | ⟨k, want, t, b, hg, ht, hb, h⟩ | ⟨k, want, t, cs, hg, ht, hcs, h2, h3⟩
  · rw [show Region.wanted o (yielded ops a.tmps) = true by simp [Region.wanted, hg], if_pos rfl]
    exact .inl (run (st j) rfl h2.symm (fun t ht => J.op_env T N ht) ⟨v, s1, h1, h3⟩)
  · have htl : t ∈ o.looksAt ops := by simp [Oper.looksAt, hg, ht]
    have hbv := hb.value (J.op_env T N htl)
    have hy := yielded_of ht hbv
    have hw : Region.wanted o (yielded ops a.tmps) = (b == want) := by
      simp only [Region.wanted, hg, hy]
      cases b <;> cases want <;> rfl
    have told : ∀ u, u ∈ o.looksAt ops → VR S w ρ (look ((st j).put (some t) (.bool b)).env u) (a.tmps.getD u undef) := fun u hu => by
      rw [look_put]
      by_cases e : some t = some u
      · rw [if_pos e]; injection e with e; subst e; rw [hbv]; exact .bool b
      · rw [if_neg e]; exact J.op_env T N hu
    rw [hw]
    rcases h with ⟨hbw, v, s1, h1, h2, h3⟩ | ⟨hbw, h2, h3⟩
    · rw [hbw, if_pos rfl]
      exact .inl (run _ (hp_put _ _ _) h2.symm told ⟨v, s1, h1, h3⟩)
    · rw [hbw, if_neg Bool.false_ne_true]
      refine hK _ _ ⟨S, ρ, J.step T N J.cx (fun _ _ h => ⟨h, rfl⟩) (fun _ _ h => h) (fun _ _ h h' => absurd h h') (fun u hu => by rw [h3, look_put, if_pos hu]) (.tup [] #[] .nil) (.inl ⟨by rw [h3, hp_put, hp_put], rfl, fun _ _ _ => rfl⟩)⟩
  · have htl : t ∈ o.looksAt ops := by simp [Oper.looksAt, hg, ht]
    have hvt := J.op_env T N htl
    rw [hcs] at hvt
    generalize hq : a.tmps.getD t undef = q at hvt
    cases hvt with
    | tup _ vs _ =>
      have hw : Region.wanted o (yielded ops a.tmps) = false := by simp [Region.wanted, hg, yielded_none ht hq]
      rw [hw, if_neg Bool.false_ne_true]
      refine hK _ _ ⟨S, ρ, J.step T N J.cx (fun _ _ h => ⟨h, rfl⟩) (fun _ _ h => h) (fun _ _ h h' => absurd h h') (fun u hu => by rw [h3, look_put, if_pos hu]) (.tup [] #[] .nil) (.inl ⟨by rw [h3, hp_put], rfl, fun _ _ _ => rfl⟩)⟩
theorem JD.all (hcall : CallOK C.P call) (T : TR C call ops st tch bs) {K : Act → World → Prop} (hQ : ∀ a w, K a w → Q .normal a w) (hK : ∀ a w, SX w0 S0 C.nt (st ops.size) a w → K a w) :
    ∀ (fuel : Nat) (L : Array Bool) (U : List Nat) (a : Act) (w : World), U.length = fuel → (∀ i, i < ops.size → (Li L i ↔ i ∉ U)) → (∃ S ρ, JD w0 S0 C ops st tch bs S ρ L a w) → wpAny C.P .any ops Q fuel L a w := by
  have fin : ∀ (L : Array Bool) (a : Act) (w : World), (∀ i, i < ops.size → Li L i) → (∃ S ρ, JD w0 S0 C ops st tch bs S ρ L a w) → Q .normal a w := by
    intro L a w hall ⟨S, ρ, J⟩
    refine hQ _ _ (hK _ _ ⟨S, ρ, J.cx, J.s0, J.new, fun t => ?_, fun b blk hb => ?_, fun b hb => ?_, J.size, J.defers⟩)
    · rcases J.env t with ⟨i, o, hi, ho, hd, hmax, hv⟩ | ⟨hno, hv⟩
      · have hil : i < ops.size := J.lsz ▸ hi.lt
        have := T.env (S := S) (w := w) (ρ := ρ) (t := t) (ops.size - (i + 1)) (i + 1) (by omega) (fun k o' h1 h2 ho' hd' => by
          have := hmax k o' (hall k (by omega)) ho' hd'
          omega) hv
        rw [show i + 1 + (ops.size - (i + 1)) = ops.size by omega] at this
        exact this
      · have := T.env (S := S) (w := w) (ρ := ρ) (t := t) ops.size 0 (by omega) (fun k o' h1 h2 ho' hd' => hno k o' (hall k (by omega)) ho' hd') hv
        rw [Nat.zero_add] at this
        exact this
    · rcases J.blk b with ⟨i, hi, hbi, hmax, hv⟩ | ⟨hno, hv⟩
      · have hil : i < ops.size := J.lsz ▸ hi.lt
        have := T.hp (b := b) (ops.size - (i + 1)) (i + 1) (by omega) (fun k h1 h2 h => by
          have := hmax k (hall k (by omega)) h
          omega)
        rw [show i + 1 + (ops.size - (i + 1)) = ops.size by omega] at this
        rw [this] at hb
        exact hv blk hb
      · have := T.hp (b := b) ops.size 0 (by omega) (fun k h1 h2 h => hno k (hall k (by omega)) h)
        rw [Nat.zero_add] at this
        rw [this] at hb
        exact hv blk hb
    · cases hr : ρ b with
      | none => rfl
      | some i =>
        exfalso
        rcases J.dom b i hr with h | ⟨k, hk, h1, h2, h3⟩
        · have := T.len ops.size 0 (by omega)
          rw [Nat.zero_add] at this
          omega
        · have hkl : k < ops.size := J.lsz ▸ hk.lt
          have := T.len (ops.size - (k + 1)) (k + 1) (by omega)
          rw [show k + 1 + (ops.size - (k + 1)) = ops.size by omega] at this
          omega
  have stop : ∀ (L : Array Bool), L.size = ops.size → Region.ready .any ops L = [] → ∀ i, i < ops.size → Li L i := by
    intro L hL hnil i hi
    induction i using Nat.strongRecOn with
    | _ i ih =>
      refine Classical.byContradiction (fun hno => ?_)
      have ho : ops[i]? = some ops[i] := Array.getElem?_eq_getElem hi
      have : i ∈ Region.ready .any ops L := by
        refine mem_ready.mpr ⟨?_, ops[i], ho, fun e he hb => ?_⟩
        · unfold Li at hno
          rw [Array.getD_eq_getD_getElem?, Array.getElem?_eq_getElem (by omega)] at hno ⊢
          simpa using hno
        · have := edgesOk_at ops.toList 0 T.e i ops[i] (by simpa using ho) e he hb
          exact ih e.on (by omega) (by omega)
      rw [hnil] at this
      exact absurd this (by simp)
  intro fuel
  induction fuel with
  | zero =>
    intro L U a w hU hL hJ
    have hall : ∀ i, i < ops.size → Li L i := fun i hi => (hL i hi).mpr (by rw [List.length_eq_zero_iff.mp hU]; simp)
    refine ⟨?_, fin L a w hall hJ⟩
    obtain ⟨S, ρ, J⟩ := hJ
    cases hr : Region.ready .any ops L with
    | nil => rfl
    | cons j l =>
      exfalso
      obtain ⟨o, N⟩ := J.next T (by rw [hr]; exact List.mem_cons_self)
      exact N.no (hall j N.lt)
  | succ fuel ih =>
    intro L U a w hU hL hJ
    refine ⟨fun hnil => fin L a w (stop L (by obtain ⟨S, ρ, J⟩ := hJ; exact J.lsz) hnil) hJ, fun j hj => ?_⟩
    obtain ⟨S, ρ, J⟩ := hJ
    obtain ⟨o, N⟩ := J.next T hj
    have hjU : j ∈ U := Classical.byContradiction (fun h => N.no ((hL j N.lt).mpr h))
    refine J.wpOp hcall T hj (fun a w h => ?_)
    by_cases hdup : j ∈ U.erase j
    · -- a list with a number twice: one of them is dropped
      refine ih (L.setIfInBounds j true) ((U.erase j).filter (fun x => x ≠ j) ++ List.replicate ((U.erase j).length - ((U.erase j).filter (fun x => x ≠ j)).length) ops.size) a w ?_ (fun i hi => ?_) h
      · have h1 := List.length_filter_le (fun x => decide (x ≠ j)) (U.erase j)
        have h2 := List.length_erase_of_mem hjU
        simp only [List.length_append, List.length_replicate]
        omega
      · rw [Li.set (by rw [J.lsz]; exact N.lt)]
        simp only [List.mem_append, List.mem_filter, List.mem_replicate, decide_eq_true_eq, ne_eq]
        by_cases e : i = j
        · subst e; simp; intro _ h'; omega
        · simp only [e, false_or, not_false_eq_true, and_true]
          rw [hL i hi, List.mem_erase_of_ne e]
          constructor
          · rintro h' (h'' | ⟨_, h''⟩)
            · exact h' h''
            · omega
          · intro h' h''; exact h' (.inl h'')
    · refine ih (L.setIfInBounds j true) (U.erase j) a w (by rw [List.length_erase_of_mem hjU, hU]; rfl) (fun i hi => ?_) h
      rw [Li.set (by rw [J.lsz]; exact N.lt)]
      by_cases e : i = j
      · subst e; simp [hdup]
      · rw [List.mem_erase_of_ne e, ← hL i hi]; simp [e]
theorem region_ok (hcall : CallOK C.P call) (hm : C.P.follows .mixedOrders = true) {draw : Bool} {id : Nat} {F : St → Option R} (h : evRegion C call ops draw s F = some r) (hs : SX w0 S0 C.nt s a w)
    (hF : ∀ s a w, F s = some r → SX w0 S0 C.nt s a w → Q .normal a w) : (Code.region id ops draw).wp C.P Q a w := by
  unfold evRegion at h
  cases draw with
  | false =>
    rw [cond_false] at h
    have := evOps_seq (ops := ops) (Q := Q) hcall (F := fun s _ => F s) (K := Q .normal) (fun s l a w h hs => hF s a w h hs) (fun _ _ h => h) ops.toList 0 s [] a w rfl h hs
    refine wp_region ?_
    rw [List.range_eq_range']
    rw [Array.length_toList] at this
    exact this
  | true =>
    rw [cond_true] at h
    by_cases hc : (edgesOk ops.toList 0 && tmpOk ops (befs ops.toList 0 [])) = true
    case neg => rw [Bool.not_eq_true] at hc; rw [hc, cond_false] at h; exact absurd h (by simp)
    rw [hc, cond_true] at h
    rw [Bool.and_eq_true] at hc
    obtain ⟨st, tch, h1, h2, h3⟩ := evOps_trace (ops := ops) ops.toList 0 s [] rfl h
    (try dsimp only at h3)
    simp only [Nat.zero_add, Array.length_toList] at h3
    by_cases hl : logOk ops.size (befs ops.toList 0 []) (logs tch 0 ops.size []) = true
    case neg => rw [Bool.not_eq_true] at hl; rw [hl, cond_false] at h3; exact absurd h3 (by simp)
    rw [hl, cond_true] at h3
    have T : TR C call ops st tch (befs ops.toList 0 []) := ⟨fun k o ho => h2 k o (Nat.zero_le _) ho, hc.1, rfl, hc.2, hl⟩
    obtain ⟨S, ρ, hs⟩ := hs
    refine wp_region_any hm ?_
    refine JD.all (w0 := w0) (S0 := S0) hcall T (K := Q .normal) (fun _ _ h => h) (fun a w hx => hF _ a w h3 hx) ops.size _ (List.range ops.size) a _ (List.length_range) (fun i hi => ?_) ⟨S, ρ, ?_⟩
    · unfold Li
      rw [Array.getD_eq_getD_getElem?, Array.getElem?_replicate, if_pos hi]
      simp [hi]
    · have no : ∀ i, ¬ Li (Array.replicate ops.size false) i := fun i h => by
        unfold Li at h
        rw [Array.getD_eq_getD_getElem?, Array.getElem?_replicate] at h
        split at h <;> exact absurd h (by simp)
      have hcell : ∀ b o, S b o → S b o ∧ ({ w with drawn := w.drawn + 1 } : World).cell? ⟨b, o, none⟩ = w.cell? ⟨b, o, none⟩ := fun b o h => ⟨h, rfl⟩
      exact ⟨⟨hs.cx.bel.trans ⟨rfl, rfl, rfl, Nat.le_refl _, fun _ _ => rfl⟩, hs.cx.st, hs.cx.own, hs.cx.inj⟩, hs.s0, hs.new, hs.size, hs.defers, by simp, fun j hj => absurd hj (no j),
        fun t => .inr ⟨fun k _ hk => absurd hk (no k), by rw [h1]; exact (hs.env t).mono hcell (fun _ _ h => h)⟩,
        fun b => .inr ⟨fun k hk => absurd hk (no k), fun blk hb => by rw [h1] at hb; exact (hs.blk b blk hb).mono hcell (fun _ _ h => h) (fun _ _ => rfl)⟩,
        fun b i hi => .inl (by
          rw [h1]
          rcases Nat.lt_or_ge b s.hp.length with h | h
          · exact h
          · rw [hs.fresh b h] at hi; exact absurd hi (by simp))⟩
end

section
variable {w0 : World} {S0 : Stab} {C : Cfg} {R : Type} {r : R} {call : FuncId → List PV → Option (List PV)} {Q : Exit → Act → World → Prop} {S : Stab} {w : World} {ρ : Rho} {a : Act} {s : St}
theorem look_keep (m : Nat) (e : Env) (t : Nat) : ∀ ts : List Tmp, look (keepEnv m e ts) t = (look e t).cut m ∨ look (keepEnv m e ts) t = .bad
  | [] => .inr rfl
  | u :: ts => by
    simp only [keepEnv, look]
    by_cases h : Nat.beq u t = true
    · rw [h, cond_true, Nat.eq_of_beq_eq_true h]; exact .inl rfl
    · rw [Bool.not_eq_true] at h; rw [h, cond_false]; exact look_keep m e t ts
theorem SR.canon {n : Nat} (h : SR w0 S0 n S ρ s a w) (c : Code) : SX w0 S0 n (Go.Vm.canon C c s) a w := by
  unfold Go.Vm.canon
  split
  · exact ⟨S, ρ, h⟩
  · split
    · exact ⟨S, ρ, h⟩
    · rename_i an _
      have hlt : ∀ b i, (if b < an.blocks then ρ b else none) = some i → ρ b = some i := fun b i hb => by
        by_cases e : b < an.blocks
        · rw [if_pos e] at hb; exact hb
        · rw [if_neg e] at hb; exact absurd hb (by simp)
      refine ⟨S, fun b => if b < an.blocks then ρ b else none, ⟨h.cx.bel, h.cx.st, fun b i hb => h.cx.own b i (hlt b i hb), fun b c i j hb hc => h.cx.inj b c i j (hlt b i hb) (hlt c j hc)⟩, h.s0, h.new, fun t => ?_, fun b blk hb => ?_, fun b hb => ?_, h.size, h.defers⟩
      · rcases look_keep an.blocks s.env t an.keep with e | e
        · rw [show look (keepEnv an.blocks s.env an.keep) t = _ from e]; exact (h.env t).cut _
        · rw [show look (keepEnv an.blocks s.env an.keep) t = _ from e]; exact .bad _
      · (try dsimp only at hb)
        rw [List.getElem?_map, List.getElem?_take] at hb
        by_cases e : b < an.blocks
        · rw [if_pos e] at hb
          cases hq : s.hp[b]? with
          | none => rw [hq] at hb; exact absurd hb (by simp)
          | some z =>
            rw [hq, Option.map_some, Option.some.injEq] at hb
            cases z with
            | none => exact absurd hb (by simp [PB.cut])
            | some blk' =>
              have hB := h.blk b blk' hq
              cases blk' with
              | box cs =>
                simp only [PB.cut, Option.some.injEq] at hb; subst hb
                obtain ⟨i, vs, t, h1, h2, h3⟩ := hB
                exact ⟨i, vs, t, by (try dsimp only); rw [if_pos e]; exact h1, h2, h3.cut1 _⟩
              | row es m get =>
                simp only [PB.cut, Option.some.injEq] at hb; subst hb
                obtain ⟨i, vs, t, h1, h2, h3, h4, h5, h6⟩ := hB
                exact ⟨i, vs, t, by (try dsimp only); rw [if_pos e]; exact h1, h2, h3, h4, h5, fun k hk => ⟨by (try dsimp only); rw [List.length_map]; exact (h6 k hk).1, (h6 k hk).2.cut1 _⟩⟩
        · rw [if_neg e] at hb; exact absurd hb (by simp)
      · (try dsimp only at hb ⊢)
        rw [List.length_map, List.length_take] at hb
        by_cases e : b < an.blocks
        · rw [if_pos e]; exact h.fresh b (by omega)
        · rw [if_neg e]
theorem SX.canon {n : Nat} (h : SX w0 S0 n s a w) (c : Code) : SX w0 S0 n (Go.Vm.canon C c s) a w := by
  obtain ⟨S, ρ, h⟩ := h
  exact h.canon c
theorem wp_loop_of {P : Program} {c : Code} (I : Nat → Act → World → Prop) {m : Nat} (h₀ : I m a w) (round : ∀ m a w, I m a w → c.wp P (Exit.then (fun a w => ∃ m', m' < m ∧ I m' a w) Q) a w) : (Code.loop c).wp P Q a w := by
  classical
  have least : ∀ (p : Nat → Prop), (∃ m, p m) → ∃ m, p m ∧ ∀ k, p k → m ≤ k := by
    intro p ⟨m, hm⟩
    induction m using Nat.strongRecOn with
    | _ m ih =>
      by_cases h : ∃ k, k < m ∧ p k
      · obtain ⟨k, hk, hp⟩ := h; exact ih k hk hp
      · exact ⟨m, hm, fun k hk => Nat.le_of_not_lt (fun hl => h ⟨k, hl, hk⟩)⟩
  let μ : Act → World → Nat := fun a w => if h : ∃ m, I m a w then (least (fun m => I m a w) h).choose else 0
  have hμ : ∀ a w, (∃ m, I m a w) → I (μ a w) a w ∧ ∀ k, I k a w → μ a w ≤ k := fun a w h => by
    have := (least (fun m => I m a w) h).choose_spec
    simp only [μ, dif_pos h]
    exact this
  refine wp_loop (fun a w => ∃ m, I m a w) μ ⟨m, h₀⟩ (fun a w hI => ?_)
  have h1 := hμ a w hI
  refine wp_mono (round (μ a w) a w h1.1) (fun e a' w' hq => ?_)
  cases e with
  | normal =>
    obtain ⟨m', hm', hI'⟩ := hq
    exact ⟨⟨m', hI'⟩, Nat.lt_of_le_of_lt ((hμ a' w' ⟨m', hI'⟩).2 m' hI') hm'⟩
  | _ => exact hq
theorem evC_ok (hcall : CallOK C.P call) (hm : C.P.follows .mixedOrders = true) {k : Nat} {Rt : St → Option R} (c : Code) : ∀ (Q : Exit → Act → World → Prop) (s : St) (a : Act) (w : World) (F : St → Option R) (X : Nat → St → Option R),
    evC C call k Rt c s F X = some r → SX w0 S0 C.nt s a w → (∀ s a w, Rt s = some r → SX w0 S0 C.nt s a w → Q .ret a w) → (∀ s a w, F s = some r → SX w0 S0 C.nt s a w → Q .normal a w) → (∀ i s a w, X i s = some r → SX w0 S0 C.nt s a w → Q (.exit i) a w) → c.wp C.P Q a w := by
  induction c with
  | skip => intro Q s a w F X h hs hR hF hX; exact wp_skip (hF s a w h hs)
  | region id ops draw => intro Q s a w F X h hs hR hF hX; exact region_ok hcall hm h hs hF
  | seq x y ihx ihy =>
    intro Q s a w F X h hs hR hF hX
    simp only [evC] at h
    exact wp_seq (ihx _ s a w _ _ h hs hR (fun s a w h hs => ihy Q _ a w F X h (hs.canon y) hR hF hX) hX)
  | cond c x y ihx ihy =>
    intro Q s a w F X h hs hR hF hX
    simp only [evC] at h
    obtain ⟨S, ρ, hs'⟩ := hs
    obtain ⟨b, hb, h, -⟩ := forkB_ok h (val_VR (C := C) 0 (fun u _ => hs'.env u) : VR S w ρ (val C 0 s.env c) (a.eval c))
    refine wp_cond hb ?_
    cases b with
    | true => rw [cond_true] at h; exact ihx Q s a w F X h ⟨S, ρ, hs'⟩ hR hF hX
    | false => rw [cond_false] at h; exact ihy Q s a w F X h ⟨S, ρ, hs'⟩ hR hF hX
  | block id x ih =>
    intro Q s a w F X h hs hR hF hX
    simp only [evC] at h
    refine wp_block (ih _ s a w F _ h hs hR hF (fun i s a w h hs => ?_))
    by_cases e : i = id
    · subst e
      rw [show Nat.beq i i = true by simp, cond_true] at h
      simp only [Exit.inBlock, if_true]
      exact hF s a w h hs
    · have : Nat.beq i id = false := by rw [← Bool.not_eq_true]; exact fun h => e (Nat.eq_of_beq_eq_true h)
      rw [this, cond_false] at h
      simp only [Exit.inBlock, if_neg e]
      exact hX i s a w h hs
  | loop x ih =>
    intro Q s a w F X h hs hR hF hX
    simp only [evC] at h
    refine wp_loop_of (fun m a w => ∃ s, SX w0 S0 C.nt s a w ∧ rounds (fun s G => evC C call k Rt x s (fun s => G (canon C x s)) X) m s = some r) ⟨_, hs.canon x, h⟩ (fun m a w hI => ?_)
    obtain ⟨s, hs, h⟩ := hI
    cases m with
    | zero => exact absurd h (by simp [rounds])
    | succ m =>
      simp only [rounds] at h
      exact ih _ s a w _ X h hs hR (fun s a w h hs => ⟨m, Nat.lt_succ_self m, _, hs.canon x, h⟩) hX
  | exit id => intro Q s a w F X h hs hR hF hX; exact wp_exit (hX id s a w h hs)
  | ret => intro Q s a w F X h hs hR hF hX; exact wp_ret (hR s a w h hs)
  | rangeFunc f p x y => intro Q s a w F X h; exact absurd h (by simp [evC])
  | scope x => intro Q s a w F X h; exact absurd h (by simp [evC])
  | label l => intro Q s a w F X h; exact absurd h (by simp [evC])
  | goto l => intro Q s a w F X h; exact absurd h (by simp [evC])
  | refuse y => intro Q s a w F X h; exact absurd h (by simp [evC])
end
section
variable {P : Program} {zv : TypeId → List PV} {ann : FuncId → Nat → Option Ann}
theorem look_params : ∀ (ps : List PV) (i t : Nat), look (params ps i) t = if i ≤ t then (ps[t - i]?).getD .bad else .bad
  | [], i, t => by simp [params, look]
  | p :: ps, i, t => by
    simp only [params, look]
    by_cases h : i = t
    · subst h; simp
    · have : Nat.beq i t = false := by rw [← Bool.not_eq_true]; exact fun e => h (Nat.eq_of_beq_eq_true e)
      rw [this, cond_false, look_params ps (i + 1) t]
      by_cases h1 : i ≤ t
      · rw [if_pos h1, if_pos (by omega), show t - i = (t - (i + 1)) + 1 by omega, List.getElem?_cons_succ]
      · rw [if_neg h1, if_neg (by omega)]
theorem results_run {fn : Func} {S : Stab} {w : World} {ρ : Rho} {s : St} {a : Act} {r : List PV} (h : results s.env fn.results.toList = some r) (hv : ∀ t, VR S w ρ (look s.env t) (a.tmps.getD t undef)) :
    ∃ u, (Go.results fn a.tmps).run P w = .ok u w ∧ ResR S w r u := by
  have key : ∀ (l : List ResultVar) (r : List PV), results s.env l = some r → ∃ us : List Value, us.length = l.length ∧ (l.mapM (fun (x : ResultVar) => (match x with | .tmp t => (pure (a.tmps.getD t undef) : Sem Value) | .cell x t => do loadVar t (← asAddr (a.tmps.getD x undef)) : Sem Value))).run P w = .ok us w ∧ VRs S w noRho r us := by
    intro l
    induction l with
    | nil => intro r h; simp only [results, Option.some.injEq] at h; subst h; exact ⟨[], rfl, rfl, .nil⟩
    | cons x l ih =>
      intro r h
      cases x with
      | cell x t => exact absurd h (by simp [results])
      | tmp t =>
        simp only [results] at h
        cases hr : results s.env l with
        | none => rw [hr] at h; exact absurd h (by simp)
        | some r' =>
          rw [hr, Option.map_some, Option.some.injEq] at h
          subst h
          obtain ⟨us, h1, h2, h3⟩ := ih r' hr
          refine ⟨a.tmps.getD t undef :: us, by rw [List.length_cons, List.length_cons, h1], ?_, .cons _ _ _ _ (hv t).resDry h3⟩
          rw [List.mapM_cons, Sem.run_bind]
          simp only [Sem.run_pure, Result.andThen_ok, Sem.run_bind, h2]
  obtain ⟨us, h1, h2, h3⟩ := key fn.results.toList r h
  have hm : (fn.results.mapM (fun (x : ResultVar) => (match x with | .tmp t => (pure (a.tmps.getD t undef) : Sem Value) | .cell x t => do loadVar t (← asAddr (a.tmps.getD x undef)) : Sem Value))).run P w = .ok us.toArray w := by
    rw [Array.mapM_eq_mapM_toList, Sem.run_map, h2]
    rfl
  have hl := h3.length
  refine ⟨if h : us.toArray.size = 1 then us.toArray[0] else .tuple us.toArray, ?_, ?_⟩
  · unfold Go.results
    rw [Sem.run_bind]
    have e : (fn.results.mapM fun (x : ResultVar) => (match x with | .tmp t => (pure (a.tmps.getD t undef) : Sem Value) | .cell x t => do loadVar t (← asAddr (a.tmps.getD x undef)) : Sem Value)).run P w = .ok us.toArray w := hm
    exact (congrArg (fun z => Result.andThen z (fun b w' => (pure (if h : b.size = 1 then b[0] else Value.tuple b) : Sem Value).run P w')) e).trans rfl
  · unfold ResR
    match r, us, h3 with
    | [], [], h3 => exact ⟨#[], by simp, .nil⟩
    | [p], [u], h3 =>
      cases h3 with
      | cons _ _ _ _ hp _ => simpa using hp
    | p :: q :: ps, u :: v :: us, h3 => exact ⟨(u :: v :: us).toArray, by rw [dif_neg (by simp)], h3⟩
theorem evF_ok (hm : P.follows .mixedOrders = true) : ∀ k, CallOK P (evF P zv ann k) := by
  intro k
  induction k with
  | zero => intro f pargs r h; exact absurd h (by simp [evF])
  | succ k ih =>
    intro f pargs r h S w args hS hargs
    simp only [evF] at h
    cases hf : P.funcs[f]? with
    | none => rw [hf] at h; exact absurd h (by simp)
    | some fn =>
      rw [hf] at h
      dsimp only at h
      cases hb : fn.body with
      | none => rw [hb] at h; exact absurd h (by simp)
      | some c =>
        rw [hb] at h
        dsimp only at h
        by_cases hle : Nat.ble pargs.length fn.ntmps = true
        case neg => rw [Bool.not_eq_true] at hle; rw [hle, cond_false] at h; exact absurd h (by simp)
        rw [hle, cond_true] at h
        rw [Nat.ble_eq] at hle
        have hlen := hargs.length
        rw [Array.length_toList] at hlen
        have hlen' : pargs.length = args.size := hlen
        refine calls_of_wp hf hb ?_
        have fin : ∀ (s : St) (a : Act) (w' : World), results s.env fn.results.toList = some r → SX w S fn.ntmps s a w' → a.defers = [] ∧ ∃ v, (Go.results fn a.tmps).run P w' = .ok v w' ∧ CallPost w S r (.returned v) w' := by
          intro s a w' hr ⟨S', ρ, hs⟩
          obtain ⟨u, h1, h2⟩ := results_run (P := P) hr hs.env
          exact ⟨hs.defers, u, h1, u, S', rfl, hs.cx.bel, hs.s0, hs.new, hs.cx.st, h2⟩
        refine evC_ok (C := ⟨P, zv, ann f, fn.ntmps⟩) (w0 := w) (S0 := S) ih hm c (bodyPost P fn (CallPost w S r)) ⟨params pargs 0, []⟩ _ w _ _ h ⟨S, noRho, ⟨Below.refl _ _, hS, fun b i h => absurd h (by simp [noRho]), fun b c i j h => absurd h (by simp [noRho])⟩, fun _ _ h => h, fun _ _ h h' => absurd h h', fun t => ?_, fun b blk hb => absurd hb (by simp), fun _ _ => rfl, by simp; omega, rfl⟩ (fun s a w' hr hs => fin s a w' hr hs) (fun s a w' hr hs => fin s a w' hr hs) (fun i s a w' hx => absurd hx (by simp))
        rw [look_params, if_pos (Nat.zero_le _), Nat.sub_zero]
        cases hp : pargs[t]? with
        | none => exact .bad _
        | some p =>
          obtain ⟨v, h1, h2⟩ := hargs.get t p hp
          have hv : args[t]? = some v := by simpa using h1
          have : (args ++ Array.replicate (fn.ntmps - args.size) undef).getD t undef = v := by
            rw [Array.getD_eq_getD_getElem?, Array.getElem?_append_left (Array.getElem?_eq_some_iff.1 hv).1, hv]
            rfl
          rw [this]
          exact h2
end

def oldS (w : World) : Stab := fun b _ => b < w.heap.size
theorem cell_lt {w : World} {a : Addr} {v : Value} (h : w.cell? a = some v) : a.block < w.heap.size ∧ a.spot = none := by
  unfold World.cell? at h
  cases hh : w.heap[a.block]? with
  | none => rw [hh] at h; exact absurd h (by simp)
  | some o =>
    refine ⟨(Array.getElem?_eq_some_iff.1 hh).1, ?_⟩
    rw [hh] at h
    cases o with
    | cells c e f =>
      dsimp only at h
      cases hs : a.spot with
      | none => rfl
      | some k => rw [hs] at h; exact absurd h (by simp)
    | _ => exact absurd h (by simp)
theorem VR.row {α : Type} {w : World} {ρ : Rho} {sz n c : Nat} {A : Option Addr} {xs : List α} (enc : α → List PV) (z : α) (hsz : 0 < sz) (hn : xs.length = n) (hc : n ≤ c)
    (h : 0 < n → ∃ ad, A = some ad ∧ ∀ j p, xs[j]? = some p → ∃ cs, cs.length = sz ∧ VRs (oldS w) w noRho (enc p) cs ∧ ∀ i u, cs[i]? = some u → w.cell? (ad.add (j * sz + i)) = some u) :
    VR (oldS w) w ρ (.vsl none false sz xs.length (fun j => enc (xs.getD j z))) (.slice A n c) := by
  subst hn
  have key : ∀ j, j < xs.length → ∃ cs, cs.length = sz ∧ VRs (oldS w) w noRho (enc (xs.getD j z)) cs ∧ ∃ ad, A = some ad ∧ ∀ i u, cs[i]? = some u → w.cell? (ad.add (j * sz + i)) = some u := by
    intro j hj
    obtain ⟨ad, e, h1⟩ := h (by omega)
    obtain ⟨cs, h2, h3, h4⟩ := h1 j _ (List.getElem?_eq_getElem hj)
    refine ⟨cs, h2, ?_, ad, e, h4⟩
    rw [List.getD_eq_getElem?_getD, List.getElem?_eq_getElem hj]
    exact h3
  have hA : 0 < xs.length → ∃ b o, A = some ⟨b, o, none⟩ := fun hj => by
    obtain ⟨cs, h2, h3, ad, e, h4⟩ := key 0 hj
    have hcell := h4 0 cs[0] (List.getElem?_eq_getElem (by omega))
    obtain ⟨b, o, sp⟩ := ad
    rw [show 0 * sz + 0 = 0 by omega] at hcell
    have h0 : sp = none := by simpa [Addr.add] using (cell_lt hcell).2
    subst h0
    exact ⟨b, o, e⟩
  let vs : Nat → List Value := fun j => if hj : j < xs.length then (key j hj).choose else []
  have hvs : ∀ j (hj : j < xs.length), vs j = (key j hj).choose := fun j hj => dif_pos hj
  refine .vsl none false sz xs.length _ A c vs (fun j hj => ?_) (fun j hj => ?_) (fun j hj i u hu => ?_) hA hc (fun h => absurd h (by simp))
  · rw [hvs j hj]; exact (key j hj).choose_spec.1
  · rw [hvs j hj]; exact (key j hj).choose_spec.2.1
  · rw [hvs j hj] at hu
    obtain ⟨ad, e, h4⟩ := (key j hj).choose_spec.2.2
    have hcell := h4 i u hu
    obtain ⟨b, o, e'⟩ := hA (by omega)
    rw [e', Option.some.injEq] at e
    subst e
    rw [Addr.add_mid] at hcell
    exact ⟨b, o, e', (cell_lt hcell).1, hcell⟩
theorem Calls.plain {P : Program} {f : FuncId} {args : Array Value} {w : World} {zv : TypeId → List PV} {ann : FuncId → Nat → Option Ann} (hm : P.follows .mixedOrders = true) {k : Nat} {pargs r : List PV} (h : evF P zv ann k f pargs = some r) (ha : VRs (oldS w) w noRho pargs args.toList) : Calls P f args w (CallPost w (oldS w) r) :=
  evF_ok hm k f pargs r h (oldS w) w args (fun _ _ h => h) ha

end Go.Vm
