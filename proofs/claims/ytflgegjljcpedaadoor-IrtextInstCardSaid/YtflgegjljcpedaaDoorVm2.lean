-- The machine of plain values (wip/vm3 in the session's repo), written for this claim. Lean checks it.
import Derived.Test.YtflgegjljcpedaaDoorVm1
import Derived.Laws.BytesString
import Derived.Scope
set_option linter.all false
namespace Go.Vm
open Go Go.RowKit
section
variable {N : Nat → Type} {C : Cfg N} {w0 : World} {X : Nat → Prop} {S S1 : Stab} {w : World} {ρ ρ1 : Rho} {a : Act} {s s' : St N} {p : PV N} {o : Oper} {call : FuncId → List (PV N) → Heap N → Option (List (PV N) × Heap N)}
/-- A row whose elements stay is appended to: an old block that may be appended to no more, and a new one. -/
theorem app_out {E : Enc N} {w' : World} {hp : Heap N} {tc : List (Nat × Bool)} {b v : Nat} {e : TypeId} {c : TC} {l l2 : List (El N c)} {i i' : BI} (cx : Cx w0 X S ρ w) (h1 : ρ b = some i) (hk : i.kind = 1) (hm : i.md = 1) (hv : i.ver = v) (hes : i.es = sizeE E c) (hn : i.n = l.length) (hr : RowR E S w i e c l)
    (hfresh : ρ hp.length = none) (hlt : b < hp.length) (hG : Grew E S w w' e c l l2 i.base i'.base i'.cap) (k' : i'.kind = 1 ∧ i'.md = 1 ∧ i'.ver = 0 ∧ i'.es = sizeE E c ∧ i'.n = l.length + l2.length) (htc : (b, true) ∈ tc) (htn : (hp.length, true) ∈ tc) :
    ∃ S', Out E w0 X S ρ w S' (setRho (setRho ρ b { i with md := 2 }) hp.length i') w' tc hp (hp.set b (some (.row 2 v e c l)) ++ [some (.row 1 0 e c (l ++ l2))]) := by
  obtain ⟨k1, k2, k3, k4, k5⟩ := k'
  have hne : b ≠ hp.length := by omega
  have hnb : ∀ c j, ρ c = some j → c ≠ hp.length := fun c j h e => by rw [e, hfresh] at h; exact absurd h (by simp)
  have hlen : (l ++ l2).length = l.length + l2.length := List.length_append
  have hle : l.length * sizeE E c ≤ (l.length + l2.length) * sizeE E c := Nat.mul_le_mul_right _ (by omega)
  have own : ∀ q, i.base = some q → (X q ∨ w0.heap.size ≤ q) ∧ ∀ o, l.length * sizeE E c ≤ o → ¬ S q o := fun q hq => by
    obtain ⟨a1, -, a3⟩ := cx.own b i q h1 hq (by omega)
    exact ⟨a1, fun o ho => a3 hm o (by rw [hn, hes]; exact ho)⟩
  let S' : Stab := fun q o => S q o ∨ (i'.base = some q ∧ o < (l ++ l2).length * sizeE E c)
  have hsz := hG.hgrown.size
  have hcell : ∀ c o, S c o → S' c o ∧ w'.cell? ⟨c, o, none⟩ = w.cell? ⟨c, o, none⟩ := fun c0 o0 h => by
    refine ⟨.inl h, ?_⟩
    by_cases hq : i.base = some c0
    · rcases Nat.lt_or_ge o0 (l.length * sizeE E c) with ho | ho
      · exact hG.hkept c0 o0 hq ho
      · exact absurd h ((own c0 hq).2 o0 ho)
    · exact cell_grown hG.hgrown (cx.st c0 o0 h) hq
  have other : ∀ c0 j q, c0 ≠ b → ρ c0 = some j → j.base = some q → j.md < 2 → w'.heap[q]? = w.heap[q]? := fun c0 j q hc hj hq hmj =>
    hG.hgrown.block q (cx.lt c0 j q hj hq hmj) (fun e => hc (cx.inj c0 b j i q hj h1 hq e.symm hmj (by omega)))
  have blt : ∀ q, i'.base = some q → q < w'.heap.size := fun q hq => by
    rcases hG.hbase with hb | ⟨g, hb, hb1, hb2⟩
    · exact Nat.lt_of_lt_of_le (cx.lt b i q h1 (hb ▸ hq) (by omega)) hsz
    · rw [hb] at hq; injection hq with hq; subst hq; exact hb2
  have rho1 : ∀ c0, c0 ≠ b → c0 ≠ hp.length → setRho (setRho ρ b { i with md := 2 }) hp.length i' c0 = ρ c0 := fun c0 e1 e2 => by rw [setRho_ne _ _ e2, setRho_ne _ _ e1]
  have rhob : setRho (setRho ρ b { i with md := 2 }) hp.length i' b = some { i with md := 2 } := by rw [setRho_ne _ _ hne, setRho_self]
  have rhon : setRho (setRho ρ b { i with md := 2 }) hp.length i' hp.length = some i' := setRho_self _ _ _
  have inv : ∀ c0 j q, setRho (setRho ρ b { i with md := 2 }) hp.length i' c0 = some j → j.base = some q → j.md < 2 → (c0 ≠ b ∧ c0 ≠ hp.length ∧ ρ c0 = some j) ∨ (c0 = hp.length ∧ j = i') := fun c0 j q hj hq hmj => by
    by_cases e1 : c0 = hp.length
    · subst e1; rw [rhon] at hj; injection hj with hj; exact .inr ⟨rfl, hj.symm⟩
    · by_cases e2 : c0 = b
      · subst e2; rw [rhob] at hj; injection hj with hj; subst hj; exact absurd hmj (by show ¬ 2 < 2; omega)
      · rw [rho1 c0 e2 e1] at hj; exact .inl ⟨e2, e1, hj⟩
  have hρ : Rle ρ (setRho (setRho ρ b { i with md := 2 }) hp.length i') := by
    intro c0 j hj
    by_cases e : c0 = b
    · subst e; rw [h1] at hj; injection hj with hj; subst hj
      exact ⟨_, rhob, rfl, fun h => absurd hk h, fun _ => .inr ⟨rfl, rfl, rfl, rfl, rfl⟩⟩
    · exact ⟨j, by rw [rho1 c0 e (hnb c0 j hj)]; exact hj, .refl _⟩
  have hrow' : RowR E S' w' i' e c (l ++ l2) := hG.rowR i' rfl rfl hcell (fun _ g o hg ho => .inr ⟨hg, ho⟩)
  refine ⟨S', ⟨bel_grown cx hG.hgrown (fun q hq => (own q hq).1), fun c0 o0 h => ?_, fun c0 j q hj hq hmj => ?_, fun c0 j q hj hq hmj => ?_, fun b1 b2 j1 j2 q hj1 hj2 hq1 hq2 hm1 hm2 => ?_⟩, hcell, hρ, fun c0 o0 h h' => ?_, fun c0 hc0 => ?_, fun c0 blk hc0 hblk => ?_, fun c0 j h0 hj => ?_, ?_⟩
  · rcases h with h | ⟨h, -⟩
    · exact Nat.lt_of_lt_of_le (cx.st c0 o0 h) hsz
    · exact blt c0 h
  · rcases inv c0 j q hj hq hmj with ⟨-, -, h⟩ | ⟨-, rfl⟩
    · exact Nat.lt_of_lt_of_le (cx.lt c0 j q h hq hmj) hsz
    · exact blt q hq
  · rcases inv c0 j q hj hq hmj with ⟨e2, -, h⟩ | ⟨-, rfl⟩
    · obtain ⟨a1, a2, a3⟩ := cx.own c0 j q h hq hmj
      have hnq : i'.base ≠ some q := fun e0 => by
        rcases hG.hbase with hb | ⟨g, hb, hb1, hb2⟩
        · exact e2 (cx.inj c0 b j i q h h1 hq (hb ▸ e0) hmj (by omega))
        · rw [hb] at e0; injection e0 with e0; subst e0
          have := cx.lt c0 j g h hq hmj; omega
      exact ⟨a1, fun hm0 o0 hs => hs.elim (a2 hm0 o0) (fun h => hnq h.1), fun hm0 o0 ho hs => hs.elim (a3 hm0 o0 ho) (fun h => hnq h.1)⟩
    · refine ⟨?_, fun h => absurd h (by omega), fun _ o0 ho hs => ?_⟩
      · rcases hG.hbase with hb | ⟨g, hb, hb1, hb2⟩
        · exact (own q (hb ▸ hq)).1
        · rw [hb] at hq; injection hq with hq; subst hq; exact .inr (Nat.le_trans cx.bel.size hb1)
      · rw [k4, k5] at ho
        rcases hs with hs | ⟨-, hs⟩
        · rcases hG.hbase with hb | ⟨g, hb, hb1, hb2⟩
          · exact (own q (hb ▸ hq)).2 o0 (by omega) hs
          · rw [hb] at hq; injection hq with hq; subst hq
            have := cx.st _ _ hs; omega
        · rw [hlen] at hs; omega
  · rcases inv b1 j1 q hj1 hq1 hm1 with ⟨e1, -, g1⟩ | ⟨e1, rfl⟩
    · rcases inv b2 j2 q hj2 hq2 hm2 with ⟨e2, -, g2⟩ | ⟨e2, rfl⟩
      · exact cx.inj b1 b2 j1 j2 q g1 g2 hq1 hq2 hm1 hm2
      · exfalso
        rcases hG.hbase with hb | ⟨g, hb, hb1, hb2⟩
        · exact e1 (cx.inj b1 b j1 i q g1 h1 hq1 (hb ▸ hq2) hm1 (by omega))
        · rw [hb] at hq2; injection hq2 with hq2; subst hq2
          have := cx.lt b1 j1 g g1 hq1 hm1; omega
    · rcases inv b2 j2 q hj2 hq2 hm2 with ⟨e2, -, g2⟩ | ⟨e2, rfl⟩
      · exfalso
        rcases hG.hbase with hb | ⟨g, hb, hb1, hb2⟩
        · exact e2 (cx.inj b2 b j2 i q g2 h1 hq2 (hb ▸ hq1) hm2 (by omega))
        · rw [hb] at hq1; injection hq1 with hq1; subst hq1
          have := cx.lt b2 j2 g g2 hq2 hm2; omega
      · rw [e1, e2]
  · rcases h with h | ⟨h, -⟩
    · exact absurd h h'
    · rcases hG.hbase with hb | ⟨g, hb, hb1, hb2⟩
      · exact (own c0 (hb ▸ h)).1
      · rw [hb] at h; injection h with h; subst h; exact .inr (Nat.le_trans cx.bel.size hb1)
  · have e1 : c0 ≠ b := fun e => hc0 (e ▸ htc)
    have e2 : c0 ≠ hp.length := fun e => hc0 (e ▸ htn)
    refine ⟨rho1 c0 e1 e2, ?_, fun j q hj hq hmj => other c0 j q e1 hj hq hmj⟩
    rcases Nat.lt_or_ge c0 hp.length with hl | hl
    · rw [List.getElem?_append_left (by rw [List.length_set]; exact hl), List.getElem?_set_ne (fun h => e1 h.symm)]
    · rw [List.getElem?_eq_none (by simp; omega), List.getElem?_eq_none hl]
  · by_cases e1 : c0 = b
    · subst e1
      rw [List.getElem?_append_left (by rw [List.length_set]; exact hlt), List.getElem?_set_self hlt] at hblk
      injection hblk with hblk; injection hblk with hblk; subst hblk
      right
      refine ⟨_, rhob, hk, rfl, hv, hes, hn, fun h => absurd (show 2 < 2 from h) (by omega), fun _ => ?_⟩
      exact (row_vsl (S' := S) hr (.inr trivial) (fun _ _ h => h) (fun q hq o ho => by
        obtain ⟨vs, -, -, -, -, -, -, g7⟩ := hr.2 q hq
        exact g7 (by omega) o ho)).mono hcell (Rle.refl _)
    · by_cases e2 : c0 = hp.length
      · subst e2
        rw [List.getElem?_append_right (by rw [List.length_set]; exact Nat.le_refl _), List.length_set, Nat.sub_self] at hblk
        simp only [List.getElem?_cons_zero, Option.some.injEq] at hblk
        subst hblk
        exact .inr ⟨i', rhon, k1, k2, k3, k4, by rw [hlen]; exact k5, fun _ => hrow', fun h => absurd h (by omega)⟩
      · refine .inl ⟨?_, rho1 c0 e1 e2, fun j q hj hq hmj => other c0 j q e1 hj hq hmj⟩
        rcases Nat.lt_or_ge c0 hp.length with hl | hl
        · rw [List.getElem?_append_left (by rw [List.length_set]; exact hl), List.getElem?_set_ne (fun h => e1 h.symm)] at hblk; exact hblk
        · rw [List.getElem?_eq_none (by simp; omega)] at hblk; exact absurd hblk (by simp)
  · by_cases e1 : c0 = hp.length
    · exact ⟨by omega, by simp; omega, e1 ▸ htn⟩
    · by_cases e2 : c0 = b
      · subst e2; rw [h1] at h0; exact absurd h0 (by simp)
      · rw [rho1 c0 e2 e1, h0] at hj; exact absurd hj (by simp)
  · simp
theorem zeroSize_some {inf : TypeInfo} (h : zeroSize inf = true) : ∃ z, inf.zero = some z ∧ z.cells.size = inf.size := by
  unfold zeroSize at h
  cases hz : inf.zero with
  | none => rw [hz] at h; exact absurd h (by simp)
  | some z => rw [hz] at h; exact ⟨z, rfl, Nat.eq_of_beq_eq_true h⟩
theorem append_steps {c : Call} (cx : Cx w0 X S ρ w) (hfresh : ∀ b, s.hp.length ≤ b → b < s'.hp.length → ρ b = none) (ho : o.op = .call c) (hc : c.callee = .builtin .append) (h : stepOp C call s o some2 = some (p, s')) (hv : OpsVR C.E S w ρ s a o) (hb : TchBR S w ρ C s o) : Steps_ w0 X S w ρ C a s o p s' := by
  obtain ⟨callee, args, argTypes⟩ := c
  dsimp only at hc
  subst hc
  obtain ⟨args⟩ := args
  obtain ⟨ats⟩ := argTypes
  simp only [stepOp, ho] at h
  match args, ats, h, ho with
  | [x, y], [t, t'], h, ho =>
    dsimp only at h
    cases he : elemOf? C.P t with
    | none => rw [he] at h; exact absurd h (by simp)
    | some e =>
      rw [he] at h
      dsimp only at h
      have hu := elem_of he
      have hx := at_VR (C := C) hv t (x := x) (by simp [ho, Op.operands, Call.operands])
      have hy := at_VR (C := C) hv t (x := y) (by simp [ho, Op.operands, Call.operands])
      have ht : touch C s o = (match val C t s.env x with | .sl b _ => [(b, true)] | _ => []) ++ tchV (val C t s.env y) := by simp only [touch, ho] <;> rfl
      split at h
      · rename_i inf c hi htc
        obtain ⟨hq, h9⟩ := bif_true h
        clear h
        have h := h9
        clear h9
        simp only [Bool.and_eq_true, Nat.blt_eq] at hq
        obtain ⟨⟨⟨⟨b1, b2⟩, b3⟩, b4⟩, b5⟩ := hq
        have b4 := Nat.eq_of_beq_eq_true b4
        obtain ⟨z, hzz, hz⟩ := zeroSize_some b3
        obtain ⟨l2, hl2, h9⟩ := Option.bind_eq_some_iff.mp h
        clear h
        have h := h9
        clear h9
        have app : ∀ (i : BI) (l : List (El N c)), RowR C.E S w i e c l → (l.length + l2.length) * inf.bytes ≤ 140737488355328 → ∃ base' cap' w', (Builtin.append_ #[t, t'] o.type #[.slice (rowAt i.base) l.length i.cap, a.eval y]).run C.P w = .ok (.slice (rowAt base') (l.length + l2.length) cap') w' ∧ Grew C.E S w w' e c l l2 i.base base' cap' := by
          unfold appEls at hl2
          by_cases ett : t = t'
          · subst ett
            rw [show Nat.beq t t = true from Nat.beq_refl t] at hl2
            obtain ⟨Ay, cy, huy, hnews⟩ := elems_ok (w := w) (S := S) (ρ := ρ) (by omega) hl2 hy (fun b v e0 => hb b false (by rw [ht, e0]; exact List.mem_append_right _ (by simp [tchV])))
            intro i l hr hbound
            rw [huy]
            exact append_run hu hi hzz hz b1 b2 b4 hr hnews hbound
          · have bt : Nat.beq t t' = false := Bool.eq_false_iff.mpr (fun h => ett (Nat.eq_of_beq_eq_true h))
            rw [bt] at b5 hl2
            simp only [Bool.false_or, Bool.and_eq_true] at b5
            obtain ⟨b5, b6⟩ := b5
            have hl2 : strEls c (val C t' s.env y) = some l2 := hl2
            have hy' := at_VR (C := C) hv t' (x := y) (by simp [ho, Op.operands, Call.operands])
            have hs : C.P.underlying t' = some .string := by
              unfold isStr at b5
              split at b5
              · assumption
              · exact absurd b5 (by simp)
            unfold u8Zero at b6
            simp only [Bool.and_eq_true] at b6
            obtain ⟨⟨z1, z2⟩, z3⟩ := b6
            have z1 := Nat.eq_of_beq_eq_true z1
            have z2 := Nat.eq_of_beq_eq_true z2
            have z4 : inf.zero = some (.int .u8 0) := by
              split at z3
              · rename_i n hn
                rw [hn, beq_iff_eq.mp z3]
              · exact absurd z3 (by simp)
            intro i l hr hbound
            rw [z2, Nat.mul_one] at hbound
            exact append_els hl2 hy' hu hs hi z4 z1 z2 i l hr hbound
        have exec : ∀ (A : Option Addr) (n cp : Nat) (u : Value) (w' : World), a.eval x = .slice A n cp → (Builtin.append_ #[t, t'] o.type #[.slice A n cp, a.eval y]).run C.P w = .ok u w' → (execOp a.eval o).run C.P w = .ok (.value u) w' := fun A n cp u w' hux hrun => by
          simp only [execOp, ho, resolve, Sem.run_bind, Sem.run_pure, Result.andThen_ok, invoke, builtin, List.map_toArray, List.map_cons, List.map_nil, hux, hrun]
        split at h
        · rename_i b v hpx
          rw [hpx] at hx ht
          generalize hux : a.eval x = u at hx
          cases hx with
          | sl _ _ n cap i A hib hk hvv hf =>
            cases hh : s.hp[b]? with
            | none => rw [hh] at h; exact absurd h (by simp)
            | some zz =>
              have hbl := (List.getElem?_eq_some_iff.mp hh).1
              cases zz with
              | none => rw [hh] at h; exact absurd h (by simp)
              | some blk =>
                rw [hh] at h
                cases blk with
                | box bt cs => exact absurd h (by simp)
                | map nl ck cv m => exact absurd h (by simp)
                | row md v' e' c' l =>
                  dsimp only at h
                  obtain ⟨hq, h9⟩ := bif_true h
                  clear h
                  have h := h9
                  clear h9
                  rw [Bool.and_eq_true] at hq
                  have q1 := Nat.eq_of_beq_eq_true hq.1
                  have q2 := Nat.eq_of_beq_eq_true hq.2
                  subst q2
                  split at h
                  · rename_i hcc _
                    subst hcc
                    obtain ⟨hbound, h9⟩ := chk_true h
                    clear h
                    have h := h9
                    clear h9
                    have h : grownK md v' e c' l l2 b s some2 = some (p, s') := h
                    have htt : (b, true) ∈ touch C s o := by rw [ht]; simp
                    obtain ⟨i0, g1, g2, g3, g4, g5, g6, g7, -⟩ := hb b true htt _ hh
                    rw [hib] at g1; injection g1 with g1; subst g1
                    obtain ⟨rfl, hn, hcap⟩ := hf (by omega)
                    have hn : n = l.length := by omega
                    subst hn hcap
                    match md, g3, h with
                    | 0, g3, h =>
                      simp only [grownK] at h
                      injection h with h; injection h with h1 h2; subst h1 h2
                      obtain ⟨base', cap', w', hrun, hG⟩ := app _ _ (g7 (by omega)) hbound
                      refine steps_of (exec _ _ _ _ w' hux hrun) (ρ' := setRho ρ b ⟨1, base', sizeE C.E c', l.length + l2.length, cap', v' + 1, 0⟩)
                        (chg_out (i' := ⟨1, base', sizeE C.E c', l.length + l2.length, cap', v' + 1, 0⟩) cx hib g3 hG.hgrown ⟨g2.symm, fun h => absurd g2 h, fun _ => .inl (by show i.ver < v' + 1; omega)⟩ rfl hG.hbase (fun hc => ?_) (List.mem_append_left _ htt) hbl) (.sl b (v' + 1) _ _ _ _ (setRho_self _ _ _) rfl (Nat.le_refl _) (fun _ => ⟨rfl, rfl, rfl⟩))
                      exact ⟨_, setRho_self _ _ _, rfl, rfl, rfl, rfl, List.length_append.symm, fun _ => hG.rowR _ rfl rfl hc (fun h => absurd (show 1 ≤ 0 from h) (by omega)), fun h => absurd (show 2 ≤ 0 from h) (by omega)⟩
                    | 1, g3, h =>
                      simp only [grownK] at h
                      injection h with h; injection h with h1 h2; subst h1 h2
                      obtain ⟨base', cap', w', hrun, hG⟩ := app _ _ (g7 (by omega)) hbound
                      have htn : (s.hp.length, true) ∈ tchO C s o ⟨s.env, s.hp.set b (some (.row 2 v' e c' l)) ++ [some (.row 1 0 e c' (l ++ l2))]⟩ := List.mem_append_right _ (made_mem (Nat.le_refl _) (by simp))
                      obtain ⟨S', o1⟩ := app_out (tc := tchO C s o ⟨s.env, s.hp.set b (some (.row 2 v' e c' l)) ++ [some (.row 1 0 e c' (l ++ l2))]⟩) (i' := ⟨1, base', sizeE C.E c', l.length + l2.length, cap', 0, 1⟩) cx hib g2 g3 g4 g5 g6 (g7 (by omega)) (hfresh _ (Nat.le_refl _) (by simp)) hbl hG ⟨rfl, rfl, rfl, rfl, rfl⟩ (List.mem_append_left _ htt) htn
                      exact steps_of (exec _ _ _ _ w' hux hrun) o1 (.sl s.hp.length 0 _ _ _ _ (setRho_self _ _ _) rfl (Nat.le_refl _) (fun _ => ⟨rfl, rfl, rfl⟩))
                    | _ + 2, _, h => exact absurd h (by simp [grownK])
                  · exact absurd h (by simp)
        · rename_i nt c0 l0 hpx
          rw [hpx] at hx
          obtain ⟨hbound, h9⟩ := chk_true h
          clear h
          have h := h9
          clear h9
          injection h with h; injection h with h1 h2; subst h1 h2
          generalize hux : a.eval x = u at hx
          cases hx with
          | vsl _ _ _ A cap vs hl hr hcc hA hcap hnl =>
            obtain ⟨rfl, rfl, rfl⟩ := hnl (by simp)
            have hr0 : RowR C.E S w ⟨1, none, sizeE C.E c, 0, 0, 0, 0⟩ e c [] := ⟨fun _ => ⟨rfl, rfl⟩, fun q hq => absurd hq (by simp)⟩
            obtain ⟨base', cap', w', hrun, hG⟩ := app _ [] hr0 (by simpa using hbound)
            have hgr : w.grownBy w' none := hG.hgrown
            have hbase : base' = none ∨ ∃ g, base' = some g ∧ w.heap.size ≤ g ∧ g < w'.heap.size := hG.hbase
            have htn : (s.hp.length, true) ∈ tchO C s o ⟨s.env, s.hp ++ [some (.row 0 0 e c l2)]⟩ := List.mem_append_right _ (made_mem (Nat.le_refl _) (by simp))
            refine steps_of (exec _ _ _ _ w' hux (by simpa [rowAt] using hrun)) (ρ' := setRho ρ s.hp.length ⟨1, base', sizeE C.E c, l2.length, cap', 0, 0⟩)
              (add_out (i' := ⟨1, base', sizeE C.E c, l2.length, cap', 0, 0⟩) cx (hfresh _ (Nat.le_refl _) (by simp)) hgr rfl hbase (fun hc => ?_) htn) (.sl s.hp.length 0 _ _ _ _ (setRho_self _ _ _) rfl (Nat.le_refl _) (fun _ => ⟨by simp [rowAt], by simp, by simp⟩))
            exact ⟨_, setRho_self _ _ _, rfl, rfl, rfl, rfl, rfl, fun _ => by
              have := hG.rowR ⟨1, base', sizeE C.E c, l2.length, cap', 0, 0⟩ rfl rfl hc (fun h => absurd (show 1 ≤ 0 from h) (by omega))
              simpa using this, fun h => absurd (show 2 ≤ 0 from h) (by omega)⟩
        · exact absurd h (by simp)
      · exact absurd h (by simp)
  | [], _, h, _ => exact absurd h (by simp)
  | [_], _, h, _ => exact absurd h (by simp)
  | [_, _], [], h, _ => exact absurd h (by simp)
  | [_, _], [_], h, _ => exact absurd h (by simp)
  | [_, _], _ :: _ :: _ :: _, h, _ => exact absurd h (by simp)
  | _ :: _ :: _ :: _, _, h, _ => exact absurd h (by simp)
end
/-! ### parts of slices and strings, conversions -/
section
variable {N : Nat → Type} {C : Cfg N} {w0 : World} {X : Nat → Prop} {S S1 : Stab} {w : World} {ρ ρ1 : Rho} {a : Act} {s s' : St N} {p : PV N} {o : Oper} {call : FuncId → List (PV N) → Heap N → Option (List (PV N) × Heap N)} {R : Type} {r : R}
theorem bnd_ok {x : Option Operand} {d : Int} {G : Int → Option R} (h : bnd C s.env x d G = some r) (hv : ∀ y, x = some y → VR C.E S w ρ (val C 0 s.env y) (a.eval y)) : ∃ n, G n = some r ∧ ((x = none ∧ n = d) ∨ ∃ y k, x = some y ∧ a.eval y = .int k n) := by
  cases x with
  | none => exact ⟨d, h, .inl ⟨rfl, rfl⟩⟩
  | some y =>
    have hy := hv y rfl
    simp only [bnd] at h
    split at h
    · rename_i k n hp
      rw [hp] at hy
      generalize hq : a.eval y = u at hy
      cases hy with
      | int k n => exact ⟨n, h, .inr ⟨y, k, rfl, hq⟩⟩
    · exact absurd h (by simp)
theorem cutK_ok {len cap : Nat} {isS : Bool} {lo hi : Option Operand} {G : Nat → Nat → Option R} (h : cutK C s.env len lo hi G = some r) (hcap : len ≤ cap) (hlo : ∀ y, lo = some y → VR C.E S w ρ (val C 0 s.env y) (a.eval y)) (hhi : ∀ y, hi = some y → VR C.E S w ρ (val C 0 s.env y) (a.eval y)) :
    ∃ l m : Nat, l ≤ m ∧ m ≤ len ∧ G l m = some r ∧ (Instr.sliceBounds isS len cap (lo.map a.eval) (hi.map a.eval) none).run C.P w = .ok (l, m, cap) w := by
  unfold cutK at h
  obtain ⟨m, h, hm⟩ := bnd_ok h hhi
  obtain ⟨l, h, hl⟩ := bnd_ok h hlo
  by_cases c1 : 0 ≤ m
  case neg => rw [if_neg c1] at h; exact absurd h (by simp)
  by_cases c2 : m ≤ (len : Int)
  case neg => rw [if_pos c1, if_neg c2] at h; exact absurd h (by simp)
  by_cases c3 : 0 ≤ l
  case neg => rw [if_pos c1, if_pos c2, if_neg c3] at h; exact absurd h (by simp)
  by_cases c4 : l ≤ m
  case neg => rw [if_pos c1, if_pos c2, if_pos c3, if_neg c4] at h; exact absurd h (by simp)
  rw [if_pos c1, if_pos c2, if_pos c3, if_pos c4] at h
  refine ⟨l.toNat, m.toNat, by omega, by omega, h, ?_⟩
  have bound : ∀ (y : Value) (k : IntKind) (n : Int) (b : Nat) (code : BoundsCode), y = .int k n → 0 ≤ n → n ≤ (b : Int) → (Instr.sliceBound y b code).run C.P w = .ok n.toNat w := by
    intro y k n b code hy h0 h1
    subst hy
    simp only [Instr.sliceBound, asIntOf, Sem.run_bind, Sem.run_pure, Result.andThen_ok]
    rw [if_pos ⟨h0, h1⟩]
    rfl
  unfold Instr.sliceBounds
  rcases hm with ⟨rfl, rfl⟩ | ⟨y, k, rfl, hy⟩
  · rcases hl with ⟨rfl, rfl⟩ | ⟨y', k', rfl, hy'⟩
    · simp
    · have hb := bound _ k' l len .sliceB hy' c3 c4
      simp only [Option.map_none, Option.map_some, Sem.run_bind, Sem.run_pure, Result.andThen_ok, Option.isSome_none, Bool.false_eq_true, if_false, hb]
      simp
  · have hb := bound _ k m cap (if isS then .sliceAcap else .sliceAlen) hy c1 (by omega)
    rcases hl with ⟨rfl, rfl⟩ | ⟨y', k', rfl, hy'⟩
    · simp only [Option.map_none, Option.map_some, Sem.run_bind, Sem.run_pure, Result.andThen_ok, hb]
      simp
    · have hb' := bound _ k' l m.toNat .sliceB hy' c3 (by omega)
      simp only [Option.map_some, Sem.run_bind, Sem.run_pure, Result.andThen_ok, Option.isSome_none, Bool.false_eq_true, if_false, hb, hb']
theorem cutK_raw {len : Nat} {lo hi : Option Operand} {G : Nat → Nat → Option R} (h : cutK C s.env len lo hi G = some r) (hlo : ∀ y, lo = some y → VR C.E S w ρ (val C 0 s.env y) (a.eval y)) (hhi : ∀ y, hi = some y → VR C.E S w ρ (val C 0 s.env y) (a.eval y)) :
    ∃ l m : Nat, l ≤ m ∧ m ≤ len ∧ G l m = some r ∧ (∀ y, hi = some y → ∀ (b : Nat) code, m ≤ b → (Instr.sliceBound (a.eval y) b code).run C.P w = .ok m w) ∧ (lo = none → l = 0) ∧ (∀ y, lo = some y → ∀ (b : Nat) code, l ≤ b → (Instr.sliceBound (a.eval y) b code).run C.P w = .ok l w) := by
  unfold cutK at h
  obtain ⟨m, h, hm⟩ := bnd_ok h hhi
  obtain ⟨l, h, hl⟩ := bnd_ok h hlo
  by_cases c1 : 0 ≤ m
  case neg => rw [if_neg c1] at h; exact absurd h (by simp)
  by_cases c2 : m ≤ (len : Int)
  case neg => rw [if_pos c1, if_neg c2] at h; exact absurd h (by simp)
  by_cases c3 : 0 ≤ l
  case neg => rw [if_pos c1, if_pos c2, if_neg c3] at h; exact absurd h (by simp)
  by_cases c4 : l ≤ m
  case neg => rw [if_pos c1, if_pos c2, if_pos c3, if_neg c4] at h; exact absurd h (by simp)
  rw [if_pos c1, if_pos c2, if_pos c3, if_pos c4] at h
  have bound : ∀ (y : Value) (k : IntKind) (n : Int) (b : Nat) (code : BoundsCode), y = .int k n → 0 ≤ n → n.toNat ≤ b → (Instr.sliceBound y b code).run C.P w = .ok n.toNat w := by
    intro y k n b code hy h0 h1
    subst hy
    simp only [Instr.sliceBound, asIntOf, Sem.run_bind, Sem.run_pure, Result.andThen_ok]
    rw [if_pos ⟨h0, by omega⟩]
    rfl
  refine ⟨l.toNat, m.toNat, by omega, by omega, h, fun y hy b code hb => ?_, fun h0 => ?_, fun y hy b code hb => ?_⟩
  · rcases hm with ⟨e, -⟩ | ⟨y', k, e, e2⟩
    · rw [hy] at e; exact absurd e (by simp)
    · rw [hy] at e; injection e with e; subst e
      exact bound _ k m b code e2 c1 hb
  · rcases hl with ⟨-, e⟩ | ⟨y', k, e, e2⟩
    · rw [e]; rfl
    · rw [h0] at e; exact absurd e (by simp)
  · rcases hl with ⟨e, -⟩ | ⟨y', k, e, e2⟩
    · rw [hy] at e; exact absurd e (by simp)
    · rw [hy] at e; injection e with e; subst e
      exact bound _ k l b code e2 c3 hb
theorem VR.cut {nl : Option TypeId} {c : TC} {q : List (El N c)} {A : Option Addr} {n cap0 cap l m : Nat} {E : Enc N} (h : VR E S w ρ (.vsl nl c q) (.slice A n cap0)) (hlm : l ≤ m) (hm : m ≤ q.length) (hcap : m ≤ cap) :
    VR E S w ρ (.vsl none c ((q.take m).drop l)) (.slice (if cap = l then A else A.map (·.add (l * sizeE E c))) (m - l) (cap - l)) := by
  obtain ⟨hn, hA, -, hnl, vs, h1, h2⟩ := h.vsl_inv
  subst hn
  have hlen : ((q.take m).drop l).length = m - l := by rw [List.length_drop, List.length_take]; omega
  have hget : ∀ (j : Nat) x, ((q.take m).drop l)[j]? = some x → q[l + j]? = some x := fun j x hj => by
    rw [List.getElem?_drop, List.getElem?_take] at hj
    split at hj
    · exact hj
    · exact absurd hj (by simp)
  have hA' : 0 < m - l → ∃ b o, A = some ⟨b, o, none⟩ ∧ (if cap = l then A else A.map (·.add (l * sizeE E c))) = some ⟨b, o + l * sizeE E c, none⟩ := fun hpos => by
    obtain ⟨b, o, rfl⟩ := hA (by omega)
    refine ⟨b, o, rfl, ?_⟩
    rw [if_neg (by omega), Option.map_some, Addr.add_mid]
  have := VR.vsl (E := E) (S := S) (w := w) (ρ := ρ) none c ((q.take m).drop l) (if cap = l then A else A.map (·.add (l * sizeE E c))) (cap - l) (fun j => vs (l + j)) (fun j x hj => (h1 _ _ (hget j x hj)).1) (fun j x hj => (h1 _ _ (hget j x hj)).2) (fun j hj k v hk => by
    rw [hlen] at hj
    obtain ⟨b, o, hb, hb'⟩ := hA' (by omega)
    obtain ⟨b1, o1, e1, e2, e3, e4⟩ := h2 (l + j) (by omega) k v hk
    rw [hb] at e1; injection e1 with e1; injection e1 with e1 e1'; subst e1 e1'
    refine ⟨b, o + l * sizeE E c, hb', ?_, ?_, e4⟩
    · rw [show o + l * sizeE E c + (j * sizeE E c + k) = o + ((l + j) * sizeE E c + k) by rw [Nat.add_mul]; omega]; exact e2
    · rw [show o + l * sizeE E c + (j * sizeE E c + k) = o + ((l + j) * sizeE E c + k) by rw [Nat.add_mul]; omega]; exact e3) (fun hp => by rw [hlen] at hp; obtain ⟨b, o, -, h⟩ := hA' hp; exact ⟨b, _, h⟩) (by rw [hlen]; omega) (fun h => absurd rfl h)
  rw [hlen] at this
  exact this
theorem bytes_cut (b : ByteArray) (l m : Nat) : (b.data.toList.take m).drop l = (b.extract l m).data.toList := by
  simp [ByteArray.data_extract, List.extract, List.drop_take]
theorem slice_steps {t : TypeId} {x : Operand} {lo hi mx : Option Operand} (cx : Cx w0 X S ρ w) (ho : o.op = .slice t x lo hi mx) (h : stepOp C call s o some2 = some (p, s')) (hv : OpsVR C.E S w ρ s a o) (hb : TchBR S w ρ C s o) : Steps_ w0 X S w ρ C a s o p s' := by
  simp only [stepOp, ho] at h
  cases mx with
  | some m =>
    cases hi with
    | none => exact absurd h (by simp)
    | some hi =>
    dsimp only at h
    have hx := at_VR (C := C) hv t (x := x) (by simp [ho, Op.operands])
    have hlo : ∀ y, lo = some y → VR C.E S w ρ (val C 0 s.env y) (a.eval y) := fun y e => at_VR (C := C) hv 0 (by subst e; simp [ho, Op.operands])
    have hhi : ∀ y, some hi = some y → VR C.E S w ρ (val C 0 s.env y) (a.eval y) := fun y e => at_VR (C := C) hv 0 (by injection e with e; subst e; simp [ho, Op.operands])
    have hmx : ∀ y, some m = some y → VR C.E S w ρ (val C 0 s.env y) (a.eval y) := fun y e => at_VR (C := C) hv 0 (by injection e with e; subst e; simp [ho, Op.operands])
    have ht : touch C s o = tchF s.hp [val C t s.env x] := by simp only [touch, ho]
    split at h
    · rename_i e hu
      split at h
      · rename_i nl0 c q hth
        obtain ⟨hq, h⟩ := bif_true h
        rw [Bool.and_eq_true] at hq
        have hsz := Nat.eq_of_beq_eq_true hq.1
        obtain ⟨inf, hinf⟩ := Option.isSome_iff_exists.mp hq.2
        obtain ⟨S1, ρ1, o1, k1⟩ := frz_pre (s := s) (vs := [val C t s.env x]) (tc := tchO C s o s') cx (fun x hx => List.mem_append_left _ (by rw [ht]; exact hx)) (fun b' wr' hm => hb b' wr' (by rw [ht]; exact hm))
        have hv1 := k1 _ _ (.inl (List.mem_singleton.mpr rfl)) hx
        rw [hth] at hv1
        have hsl : ∃ A n cap, a.eval x = .slice A n cap := by
          generalize a.eval x = u at hv1
          cases hv1 with
          | vsl _ _ _ A cap => exact ⟨A, _, cap, rfl⟩
        obtain ⟨A, n, cap, hux⟩ := hsl
        rw [hux] at hv1
        have hinv := hv1.vsl_inv
        unfold cut3 at h
        obtain ⟨mm, h, hm⟩ := bnd_ok h hmx
        obtain ⟨c1, h⟩ := chk_true h
        obtain ⟨c2, h⟩ := chk_true h
        obtain ⟨ym, km, em, hym⟩ : ∃ y k, some m = some y ∧ a.eval y = .int k mm := by
          rcases hm with ⟨hm, -⟩ | hm
          · exact absurd hm (by simp)
          · exact hm
        injection em with em; subst em
        obtain ⟨l, hh, h1, h2, h3, b1, b0, b2⟩ := cutK_raw (w := w) (a := a) h hlo hhi
        injection h3 with h3; injection h3 with e1 e2; subst e1 e2
        have hn := hinv.1
        subst hn
        have hs : (sizeOf e).run C.P w = .ok (sizeE C.E c) w := by simp [sizeOf, typeInfo, hinf, ← hsz, cellsOf_eq hinf]
        have hmc : mm ≤ (cap : Int) := by have := hinv.2.2.1; omega
        have hbm : ∀ code, (Instr.sliceBound (a.eval m) cap code).run C.P w = .ok mm.toNat w := fun code => by
          rw [hym]
          simp only [Instr.sliceBound, asIntOf, Sem.run_bind, Sem.run_pure, Result.andThen_ok]
          rw [if_pos ⟨c1, hmc⟩]
          rfl
        have h5 : (Instr.sliceBounds true q.length cap (lo.map a.eval) (some (a.eval hi)) (some (a.eval m))).run C.P w = .ok (l, hh, mm.toNat) w := by
          have b1 := fun code => b1 hi rfl mm.toNat code h2
          unfold Instr.sliceBounds
          simp only [Sem.run_bind, hbm, Result.andThen_ok, Option.isSome_some, if_true, b1]
          cases lo with
          | none =>
            have := b0 rfl
            subst this
            simp
          | some y =>
            have b2 := fun code => b2 y rfl hh code h1
            simp only [Option.map_some, b2, Sem.run_pure, Sem.run_bind, Result.andThen_ok]
        refine steps_of ?_ o1 (VR.cut hv1 h1 (by omega) h2)
        simp only [execOp, ho, hux, Option.map_some, Instr.sliceAt, Instr.slice, Sem.run_bind, run_underlying hu w, Result.andThen_ok, h5, hs, Sem.run_pure]
      · exact absurd h (by simp)
    · exact absurd h (by simp)
  | none =>
  dsimp only at h
  have hx := at_VR (C := C) hv t (x := x) (by simp [ho, Op.operands])
  have hlo : ∀ y, lo = some y → VR C.E S w ρ (val C 0 s.env y) (a.eval y) := fun y e => at_VR (C := C) hv 0 (by subst e; simp [ho, Op.operands])
  have hhi : ∀ y, hi = some y → VR C.E S w ρ (val C 0 s.env y) (a.eval y) := fun y e => at_VR (C := C) hv 0 (by subst e; simp [ho, Op.operands])
  have ht : touch C s o = tchF s.hp [val C t s.env x] := by simp only [touch, ho]
  split at h
  · rename_i b hu hpx
    rw [hpx] at hx
    generalize hux : a.eval x = u at hx
    cases hx with
    | str b =>
      obtain ⟨l, m, h1, h2, h3, h4⟩ := cutK_ok (isS := false) (cap := b.size) (w := w) (a := a) h (by exact Nat.le_refl _) hlo hhi
      injection h3 with h3; injection h3 with e1 e2; subst e1 e2
      refine steps_of (u := .string (b.extract l m)) ?_ (Out.refl cx) (by rw [bytes_cut]; exact .str _)
      have h4 : (Instr.sliceBounds false b.size b.size (lo.map a.eval) (hi.map a.eval) none).run C.P w = .ok (l, m, b.size) w := h4
      simp only [execOp, ho, hux, Option.map_none, Instr.sliceAt, Instr.slice, Sem.run_bind, run_underlying hu w, Result.andThen_ok, Option.isSome_none, Bool.false_eq_true, if_false, h4, Sem.run_pure]
  · rename_i e hu
    split at h
    · rename_i nl0 c q hth
      obtain ⟨hq, h⟩ := bif_true h
      rw [Bool.and_eq_true] at hq
      have hsz := Nat.eq_of_beq_eq_true hq.1
      obtain ⟨inf, hinf⟩ := Option.isSome_iff_exists.mp hq.2
      obtain ⟨S1, ρ1, o1, k1⟩ := frz_pre (s := s) (vs := [val C t s.env x]) (tc := tchO C s o s') cx (fun x hx => List.mem_append_left _ (by rw [ht]; exact hx)) (fun b' wr' hm => hb b' wr' (by rw [ht]; exact hm))
      have hv1 := k1 _ _ (.inl (List.mem_singleton.mpr rfl)) hx
      rw [hth] at hv1
      have hsl : ∃ A n cap, a.eval x = .slice A n cap := by
        generalize a.eval x = u at hv1
        cases hv1 with
        | vsl _ _ _ A cap => exact ⟨A, _, cap, rfl⟩
      obtain ⟨A, n, cap, hux⟩ := hsl
      rw [hux] at hv1
      have hinv := hv1.vsl_inv
      obtain ⟨l, m, h1, h2, h3, h4⟩ := cutK_ok (isS := true) (cap := cap) (w := w) (a := a) h hinv.2.2.1 hlo hhi
      injection h3 with h3; injection h3 with e1 e2; subst e1 e2
      have hn := hinv.1
      subst hn
      have hs : (sizeOf e).run C.P w = .ok (sizeE C.E c) w := by simp [sizeOf, typeInfo, hinf, ← hsz, cellsOf_eq hinf]
      refine steps_of ?_ o1 (VR.cut hv1 h1 h2 (Nat.le_trans h2 hinv.2.2.1))
      simp only [execOp, ho, hux, Option.map_none, Instr.sliceAt, Instr.slice, Sem.run_bind, run_underlying hu w, Result.andThen_ok, h4, hs, Sem.run_pure]
    · exact absurd h (by simp)
  · exact absurd h (by simp)
theorem ofBytes_push : ∀ (l : List Int) (b : ByteArray), (l.foldl (fun r n => r.push (UInt8.ofNat n.toNat)) b).data.toList = b.data.toList ++ ofBytes l
  | [], b => by simp [ofBytes]
  | n :: l, b => by
    rw [List.foldl_cons, ofBytes_push l]
    simp [ofBytes, ByteArray.push]
theorem RowsL.bytes {E : Enc N} {l : List Int} {cs : List Value} (h : RowsL E S w (.int .u8) l cs) (hl : cs.length = l.length) : cs = l.map (Value.int .u8) := by
  apply List.ext_getElem?
  intro k
  rw [List.getElem?_map]
  cases hk : l[k]? with
  | none =>
    have := List.getElem?_eq_none_iff.mp hk
    rw [List.getElem?_eq_none (by omega)]; rfl
  | some x =>
    have h1 : VRs E S w noRho [.int .u8 x] ((cs.drop (k * 1)).take 1) := h k x hk
    rw [Nat.mul_one] at h1
    have hkl := (List.getElem?_eq_some_iff.mp hk).1
    have hd : (cs.drop k).take 1 = [cs[k]'(by omega)] := by
      rw [List.drop_eq_getElem_cons (by omega)]; rfl
    rw [hd] at h1
    cases h1 with
    | cons _ v _ _ hv _ =>
      generalize hq : cs[k]'(by omega) = u at hv
      cases hv
      rw [List.getElem?_eq_getElem (by omega), hq]; rfl
theorem run_convert_int (src dst : TypeId) {d : TypeDesc} {k kk : IntKind} {n : Int} (hs : C.P.underlying src = some d) (hd : C.P.underlying dst = some (.int k)) : (convert src dst (.int kk n)).run C.P w = .ok (.int k (k.wrap n)) w := by
  simp [convert, run_underlying hs, run_underlying hd, Conv.intToInt]
theorem convert_steps {src dst : TypeId} {x : Operand} (cx : Cx w0 X S ρ w) (hfresh : ∀ b, s.hp.length ≤ b → b < s'.hp.length → ρ b = none) (ho : o.op = .convert src dst x) (h : stepOp C call s o some2 = some (p, s')) (hv : OpsVR C.E S w ρ s a o) (hb : TchBR S w ρ C s o) : Steps_ w0 X S w ρ C a s o p s' := by
  simp only [stepOp, ho] at h
  have hx := at_VR (C := C) hv src (x := x) (by simp [ho, Op.operands])
  have ht : touch C s o = tchV (val C src s.env x) := by simp only [touch, ho]
  split at h
  · rename_i k0 k kk n hs hd hpx
    rw [hpx] at hx
    injection h with h; injection h with e1 e2; subst e1 e2
    generalize hux : a.eval x = u at hx
    cases hx with
    | int kk n =>
      refine steps_of (u := .int k (k.wrap n)) ?_ (Out.refl cx) (by rw [wr_eq]; exact .int _ _)
      simp only [execOp, ho, hux, Sem.run_bind, run_convert_int src dst hs hd, Result.andThen_ok, Sem.run_pure]
  · rename_i b hs hd hpx
    rw [hpx] at hx
    injection h with h; injection h with e1 e2; subst e1 e2
    generalize hux : a.eval x = u at hx
    cases hx with
    | str b =>
      refine steps_of (u := .string b) ?_ (Out.refl cx) (.str _)
      simp [execOp, ho, hux, convert, run_underlying hs, run_underlying hd]
  · exact absurd h (by simp)
  · rename_i e hs hd
    split at h
    · rename_i he
      obtain ⟨l, hl, h⟩ := Option.bind_eq_some_iff.mp h
      injection h with h; injection h with e1 e2; subst e1 e2
      obtain ⟨A, cap, hux, hA⟩ := elems_ok (w := w) (S := S) (ρ := ρ) (by show 0 < 1; omega) hl hx (fun b v e0 => hb b false (by rw [ht, e0]; simp [tchV]))
      have hrun : (Conv.bytesToString (.slice A l.length cap)).run C.P w = .ok (.string (l.foldl (fun (r : ByteArray) (n : Int) => r.push (UInt8.ofNat n.toNat)) ByteArray.empty)) w := by
        cases hl0 : (l : List Int) with
        | nil =>
          cases A with
          | none => rfl
          | some ad => exact run_bytesToString w ad 0 cap [] (by exact run_firstCells_some (P := C.P) w 1 0 ad 0 cap [] (by simp) (fun j v h => absurd h (by simp)))
        | cons n ns =>
          obtain ⟨b, o', rfl, news, n1, n2, n3, n4⟩ := hA (by rw [hl0]; simp)
          have hlen : news.length = l.length := by rw [n1]; exact Nat.mul_one _
          have hnews := RowsL.bytes n2 hlen
          rw [hl0] at hnews hlen
          rw [← hl0]
          refine run_bytesToString w ⟨b, o', none⟩ l.length cap l ?_
          rw [hl0, ← hnews]
          have := run_firstCells_some (P := C.P) w 1 l.length ⟨b, o', none⟩ l.length cap news (by rw [hlen, hl0]; simp) (fun j u hj => by rw [Addr.add_mid]; exact n3 j u hj)
          simp only [Builtin.firstCells, Nat.mul_one] at this
          rw [hl0] at this
          exact this
      refine steps_of (u := .string _) (w' := w) (by
        simp only [execOp, ho, hux, Sem.run_bind]
        rw [run_convert_bytes_string w src dst e A l.length cap hs he hd, hrun]
        rfl) (Out.refl cx) ?_
      have e0 := ofBytes_push l ByteArray.empty
      simp only [ByteArray.data_empty, Array.toList_empty, List.nil_append] at e0
      show VR C.E S w ρ (.str (ofBytes l)) _
      rw [← e0]
      exact .str _
    · exact absurd h (by simp)
  · exact absurd h (by simp)
end
/-! ### one form of a state -/
section
variable {N : Nat → Type} {E : Enc N} {w0 : World} {X : Nat → Prop} {w : World} {tc : List (Nat × Bool)} {u : Nat → Value} {S0 S : Stab} {ρ0 ρ : Rho} {hp0 : Heap N} {M : Nat} {s : St N}
structure PreR (E : Enc N) (w0 : World) (X : Nat → Prop) (w : World) (tc : List (Nat × Bool)) (u : Nat → Value) (S0 : Stab) (ρ0 : Rho) (hp0 : Heap N) (S : Stab) (ρ : Rho) (s : St N) : Prop where
  out : Out E w0 X S0 ρ0 w S ρ w tc hp0 s.hp
  env : ∀ t, VR E S w ρ (look s.env t) (u t)
/-- What is known ahead: the blocks of tc, and that the numbers behind are new. -/
structure Know (E : Enc N) (w : World) (tc : List (Nat × Bool)) (S0 : Stab) (ρ0 : Rho) (hp0 : Heap N) (M : Nat) : Prop where
  br : ∀ b wr, (b, wr) ∈ tc → ∀ blk, hp0[b]? = some (some blk) → BR E S0 ρ0 w b blk
  fresh : ∀ b, hp0.length ≤ b → b < M → ρ0 b = none
  new : ∀ b, hp0.length ≤ b → b < M → (b, true) ∈ tc
theorem PreR.freshAt (h : PreR E w0 X w tc u S0 ρ0 hp0 S ρ s) (k : Know E w tc S0 ρ0 hp0 M) (hM : s.hp.length < M) : ρ s.hp.length = none := by
  have hle := h.out.len
  cases hb : ρ s.hp.length with
  | none => rfl
  | some i => have := h.out.dom _ i (k.fresh _ hle hM) hb; omega
theorem look_cons (e : Env N) (t t' : Nat) (p : PV N) : look ((t, p) :: e) t' = if t = t' then p else look e t' := by
  simp only [look]
  by_cases h : t = t'
  · subst h; simp
  · have : Nat.beq t t' = false := by rw [← Bool.not_eq_true]; exact fun e => h (Nat.eq_of_beq_eq_true e)
    rw [this, cond_false, if_neg h]
theorem PreR.push {S' : Stab} {ρ' : Rho} {hp' : Heap N} {t : Nat} {p : PV N} (h : PreR E w0 X w tc u S0 ρ0 hp0 S ρ s) (o : Out E w0 X S ρ w S' ρ' w tc s.hp hp') (hp : VR E S' w ρ' p (u t)) : PreR E w0 X w tc u S0 ρ0 hp0 S' ρ' ⟨(t, p) :: s.env, hp'⟩ := by
  refine ⟨h.out.trans o, fun t' => ?_⟩
  show VR E S' w ρ' (look ((t, p) :: s.env) t') (u t')
  rw [look_cons]
  by_cases e : t = t'
  · subst e; rw [if_pos rfl]; exact hp
  · rw [if_neg e]; exact (h.env t').mono o.st o.rho
theorem PreR.keep {S' : Stab} {ρ' : Rho} {hp' : Heap N} (h : PreR E w0 X w tc u S0 ρ0 hp0 S ρ s) (o : Out E w0 X S ρ w S' ρ' w tc s.hp hp') : PreR E w0 X w tc u S0 ρ0 hp0 S' ρ' ⟨s.env, hp'⟩ :=
  ⟨h.out.trans o, fun t' => (h.env t').mono o.st o.rho⟩
/-- The rows that a temporary shows may be kept as they are. -/
def Frz (E : Enc N) (w : World) (tc : List (Nat × Bool)) (S : Stab) (ρ : Rho) (hp : Heap N) (b : Nat) : Prop := (∀ blk, hp[b]? = some (some blk) → BR E S ρ w b blk) ∧ ∀ v e c l, hp[b]? = some (some (.row 0 v e c l)) → (b, true) ∈ tc
def HasSl (p : PV N) : Prop := ∃ b v, PV.sl b v ∈ slIn p
theorem thaw_nosl (hp : Heap N) (p : PV N) : ∀ b v, thaw hp p ≠ .sl b v := by
  intro b v
  cases p with
  | sl c u =>
    rw [thaw_sl]
    split
    · generalize Nat.beq u _ = q
      cases q <;> simp
    · simp
  | _ => simp [thaw]
theorem frzT_pre {t : Tmp} (h : PreR E w0 X w tc u S0 ρ0 hp0 S ρ s) (hf : ∀ b v, .sl b v ∈ slIn (look s.env t) → Frz E w tc S ρ s.hp b) : ∃ S' ρ', PreR E w0 X w tc u S0 ρ0 hp0 S' ρ' (frzT s t) ∧ Out E w0 X S ρ w S' ρ' w tc s.hp (frzT s t).hp := by
  have ht := h.env t
  unfold frzT
  split
  · rename_i b v hl
    rw [hl] at ht hf
    have hb := hf b v (List.mem_singleton.mpr rfl)
    obtain ⟨S', ρ', o, k⟩ := frzB_out (v := v) h.out.cx hb.1 hb.2
    exact ⟨S', ρ', h.push o (k _ ht), o⟩
  · rename_i nl c l hl
    rw [hl] at ht
    refine ⟨S, ρ, h.push (Out.refl h.out.cx) ?_, Out.refl h.out.cx⟩
    exact thaw_VR (hp := s.hp) ht (fun _ _ e => by cases e)
  · rename_i cs hl
    rw [hl] at ht hf
    obtain ⟨S', ρ', o, k⟩ := frzVs_out cs h.out.cx (fun b v hm => hf b v hm)
    refine ⟨S', ρ', h.push o ?_, o⟩
    generalize u t = ut at ht
    cases ht with
    | agg _ vs hcs => exact .agg _ _ (thaws_VRs k (fun _ h => h) hcs)
  · exact ⟨S, ρ, h, Out.refl h.out.cx⟩
theorem frzVs_row0 : ∀ (vs : List (PV N)) {hp : Heap N} {c : Nat} {v : Nat} {e : TypeId} {cc : TC} {l : List (El N cc)}, (frzVs hp vs)[c]? = some (some (.row 0 v e cc l)) → ∃ v e cc l, hp[c]? = some (some (.row 0 v e cc l))
  | [], _, _, _, _, _, _, h => ⟨_, _, _, _, h⟩
  | q :: vs, _, _, _, _, _, _, h => by
    obtain ⟨_, _, _, _, h1⟩ := frzVs_row0 vs h
    exact frzV_row0 h1
theorem frzT_row0 {t : Tmp} {c : Nat} {v : Nat} {e : TypeId} {cc : TC} {l : List (El N cc)} (h : (frzT s t).hp[c]? = some (some (.row 0 v e cc l))) : ∃ v e cc l, s.hp[c]? = some (some (.row 0 v e cc l)) := by
  unfold frzT at h
  split at h
  · exact frzV_row0 (q := .sl _ _) h
  · exact ⟨_, _, _, _, h⟩
  · exact frzVs_row0 _ h
  · exact ⟨_, _, _, _, h⟩
theorem frzT_sl {t t' : Tmp} {b v : Nat} (h : .sl b v ∈ slIn (look (frzT s t).env t')) : .sl b v ∈ slIn (look s.env t') := by
  unfold frzT at h
  have aux : ∀ (p : PV N) (hp' : Heap N), (∀ b v, PV.sl b v ∉ slIn p) → .sl b v ∈ slIn (look ((t, p) :: s.env) t') → .sl b v ∈ slIn (look s.env t') := by
    intro p hp' hp hm
    rw [look_cons] at hm
    by_cases e : t = t'
    · rw [if_pos e] at hm; exact absurd hm (hp b v)
    · rw [if_neg e] at hm; exact hm
  split at h
  · rename_i c u hl
    refine aux _ s.hp ?_ h
    intro b v hm
    cases hq : thaw s.hp (.sl c u : PV N) with
    | sl b' v' => exact thaw_nosl _ _ _ _ hq
    | agg cs =>
      rw [thaw_sl] at hq
      split at hq
      · generalize Nat.beq u _ = q at hq
        cases q <;> cases hq
      · cases hq
    | _ => rw [hq] at hm; exact absurd hm (by simp [slIn])
  · exact aux _ s.hp (fun b v hm => absurd hm (by simp [slIn])) h
  · rename_i cs hl
    refine aux _ s.hp ?_ h
    intro b v hm
    obtain ⟨q, -, hq⟩ := List.mem_map.mp hm
    exact thaw_nosl _ _ _ _ hq
  · exact h
theorem frzTs_pre : ∀ (ts : List Tmp) {S : Stab} {ρ : Rho} {s : St N}, PreR E w0 X w tc u S0 ρ0 hp0 S ρ s → (∀ t b v, .sl b v ∈ slIn (look s.env t) → Frz E w tc S ρ s.hp b) → ∃ S' ρ', PreR E w0 X w tc u S0 ρ0 hp0 S' ρ' (frzTs s ts)
  | [], S, ρ, s, h, _ => ⟨S, ρ, h⟩
  | t :: ts, S, ρ, s, h, hf => by
    obtain ⟨S1, ρ1, h1, o1⟩ := frzT_pre (t := t) h (hf t)
    exact frzTs_pre ts h1 (fun t' b v hm => ⟨o1.br (hf t' b v (frzT_sl hm)).1, fun v' e c l h0 => by
      obtain ⟨_, _, _, _, h2⟩ := frzT_row0 h0
      exact (hf t' b v (frzT_sl hm)).2 _ _ _ _ h2⟩)
/-- A nil slice, as a row without memory. -/
theorem nilrow_out {e : TypeId} {c : TC} {hp : Heap N} (cx : Cx w0 X S ρ w) (hfresh : ρ hp.length = none) (htc : (hp.length, true) ∈ tc) : Out E w0 X S ρ w S (setRho ρ hp.length ⟨1, none, sizeE E c, 0, 0, 0, 0⟩) w tc hp (hp ++ [some (.row 0 0 e c [])]) :=
  add_out cx hfresh (grown_refl w _) rfl (.inl rfl) (fun _ => ⟨_, setRho_self _ _ _, rfl, rfl, rfl, rfl, rfl, fun _ => ⟨fun _ => ⟨rfl, rfl⟩, fun q hq => absurd hq (by simp)⟩, fun h => absurd (show 2 ≤ 0 from h) (by omega)⟩) htc
theorem nil_value {e : TypeId} {c : TC} {v : Value} (h : VR E S w ρ (.vsl (some e) c []) v) : v = .slice none 0 0 := by
  generalize hl : ([] : List (El N c)) = l at h
  cases h with
  | vsl _ _ _ A cap vs hl' hr hc hA hcap hnl =>
    obtain ⟨h1, h2, h3⟩ := hnl (by simp)
    subst h1 h2 h3; rfl
theorem nilT_pre {t : Tmp} (h : PreR E w0 X w tc u S0 ρ0 hp0 S ρ s) (k : Know E w tc S0 ρ0 hp0 M) (hM : (nilT s t).hp.length ≤ M) : ∃ S' ρ', PreR E w0 X w tc u S0 ρ0 hp0 S' ρ' (nilT s t) := by
  have ht := h.env t
  unfold nilT at hM ⊢
  split
  · rename_i e c hl
    rw [hl] at hM ht
    have hlt : s.hp.length < M := by simp at hM; omega
    have o := nilrow_out (E := E) (e := e) (c := c) h.out.cx (h.freshAt k hlt) (k.new _ h.out.len hlt)
    refine ⟨S, _, h.push o ?_⟩
    rw [nil_value ht]
    exact .sl s.hp.length 0 0 0 _ none (setRho_self _ _ _) rfl (Nat.le_refl _) (fun _ => ⟨rfl, rfl, rfl⟩)
  · exact ⟨S, ρ, h⟩
theorem nilT_len (s : St N) (t : Tmp) : s.hp.length ≤ (nilT s t).hp.length := by
  unfold nilT
  split
  · simp
  · exact Nat.le_refl _
theorem nilTs_len : ∀ (ts : List Tmp) (s : St N), s.hp.length ≤ (nilTs s ts).hp.length
  | [], s => Nat.le_refl _
  | t :: ts, s => Nat.le_trans (nilT_len s t) (nilTs_len ts _)
theorem nilTs_pre : ∀ (ts : List Tmp) {S : Stab} {ρ : Rho} {s : St N}, PreR E w0 X w tc u S0 ρ0 hp0 S ρ s → Know E w tc S0 ρ0 hp0 M → (nilTs s ts).hp.length ≤ M → ∃ S' ρ', PreR E w0 X w tc u S0 ρ0 hp0 S' ρ' (nilTs s ts)
  | [], S, ρ, s, h, _, _ => ⟨S, ρ, h⟩
  | t :: ts, S, ρ, s, h, k, hM => by
    obtain ⟨S1, ρ1, h1⟩ := nilT_pre (t := t) h k (Nat.le_trans (nilTs_len ts _) hM)
    exact nilTs_pre ts h1 k hM
theorem boxAt_some {hp : Heap N} {b : Nat} {cs : List (PV N)} (h : boxAt hp b = some cs) : hp[b]? = some (some (.box (boxT hp b) cs)) := by
  unfold boxAt at h
  split at h
  · rename_i t cs' hb; injection h with h; subst h; rw [hb]; unfold boxT; rw [hb]
  · exact absurd h (by simp)
theorem nilC_pre {b j : Nat} (h : PreR E w0 X w tc u S0 ρ0 hp0 S ρ s) (k : Know E w tc S0 ρ0 hp0 M) (hM : (nilC s b j).hp.length ≤ M) (hb : (b, true) ∈ tc) : ∃ S' ρ', PreR E w0 X w tc u S0 ρ0 hp0 S' ρ' (nilC s b j) := by
  unfold nilC at hM ⊢
  split
  · rename_i cs hbx
    rw [hbx] at hM
    dsimp only at hM
    split
    · rename_i e c hj
      rw [hj] at hM
      have hlt : s.hp.length < M := by simp at hM; omega
      have hh := boxAt_some hbx
      have hbl := (List.getElem?_eq_some_iff.mp hh).1
      have hB := h.out.br (k.br b true hb) _ hh
      have o1 := nilrow_out (E := E) (e := e) (c := c) h.out.cx (h.freshAt k hlt) (k.new _ h.out.len hlt)
      obtain ⟨i, q, vs, g1, g2, g3, g4, g5, g6⟩ := hB.mono o1.st o1.rho (setRho_ne _ _ (by omega)) (fun _ _ _ _ _ => rfl)
      have o2 := chg_out (E := E) (hp := s.hp ++ [some (.row 0 0 e c [])]) (tc := tc) (i' := i) (blk := .box (boxT s.hp b) (cs.set j (.sl s.hp.length 0))) o1.cx g1 g4 (grown_refl w _) (.refl _) g4 (.inl rfl) (fun hc => by
        have e0 : setRho (setRho ρ s.hp.length ⟨1, none, sizeE E c, 0, 0, 0, 0⟩) b i = setRho ρ s.hp.length ⟨1, none, sizeE E c, 0, 0, 0, 0⟩ := by funext c'; by_cases e : c' = b <;> simp [setRho, e] at g1 ⊢; exact g1.symm
        rw [e0]
        refine ⟨i, q, vs, g1, g2, g3, g4, g5, g6.setL j hj (fun v hv => ?_)⟩
        rw [nil_value hv]
        exact .sl s.hp.length 0 0 0 _ none (setRho_self _ _ _) rfl (Nat.le_refl _) (fun _ => ⟨rfl, rfl, rfl⟩)) hb (by simp; omega)
      have e1 : (s.hp ++ [some (PB.row 0 0 e c [])]).set b (some (.box (boxT s.hp b) (cs.set j (.sl s.hp.length 0)))) = s.hp.set b (some (.box (boxT s.hp b) (cs.set j (.sl s.hp.length 0)))) ++ [some (.row 0 0 e c [])] := List.set_append_left _ _ hbl
      rw [e1] at o2
      exact ⟨_, _, h.keep (o1.trans o2)⟩
    · exact ⟨S, ρ, h⟩
  · exact ⟨S, ρ, h⟩
theorem nilC_len (s : St N) (b j : Nat) : s.hp.length ≤ (nilC s b j).hp.length := by
  unfold nilC
  split
  · split
    · simp
    · exact Nat.le_refl _
  · exact Nat.le_refl _
theorem nilCs_len : ∀ (n : Nat) (s : St N) (b : Nat), s.hp.length ≤ (nilCs s b n).hp.length
  | 0, s, _ => Nat.le_refl _
  | n + 1, s, b => Nat.le_trans (nilCs_len n s b) (nilC_len _ _ _)
theorem nilCs_pre {b : Nat} : ∀ (n : Nat) {S : Stab} {ρ : Rho} {s : St N}, PreR E w0 X w tc u S0 ρ0 hp0 S ρ s → Know E w tc S0 ρ0 hp0 M → (nilCs s b n).hp.length ≤ M → (b, true) ∈ tc → ∃ S' ρ', PreR E w0 X w tc u S0 ρ0 hp0 S' ρ' (nilCs s b n)
  | 0, S, ρ, s, h, _, _, _ => ⟨S, ρ, h⟩
  | n + 1, S, ρ, s, h, k, hM, hb => by
    obtain ⟨S1, ρ1, h1⟩ := nilCs_pre (b := b) n h k (Nat.le_trans (nilC_len _ b n) hM) hb
    exact nilC_pre h1 k hM hb
theorem nilBs_len : ∀ (bs : List Nat) (s : St N), s.hp.length ≤ (nilBs s bs).hp.length
  | [], s => Nat.le_refl _
  | b :: bs, s => Nat.le_trans (nilCs_len _ s b) (nilBs_len bs _)
theorem nilBs_pre : ∀ (bs : List Nat) {S : Stab} {ρ : Rho} {s : St N}, PreR E w0 X w tc u S0 ρ0 hp0 S ρ s → Know E w tc S0 ρ0 hp0 M → (nilBs s bs).hp.length ≤ M → (∀ b ∈ bs, (b, true) ∈ tc) → ∃ S' ρ', PreR E w0 X w tc u S0 ρ0 hp0 S' ρ' (nilBs s bs)
  | [], S, ρ, s, h, _, _, _ => ⟨S, ρ, h⟩
  | b :: bs, S, ρ, s, h, k, hM, hb => by
    obtain ⟨S1, ρ1, h1⟩ := nilCs_pre (b := b) _ h k (Nat.le_trans (nilBs_len bs _) hM) (hb b List.mem_cons_self)
    exact nilBs_pre bs h1 k hM (fun b' hm => hb b' (List.mem_cons_of_mem _ hm))
/-- A cell's row, as a value. -/
theorem frzC_pre {b j : Nat} (h : PreR E w0 X w tc u S0 ρ0 hp0 S ρ s) (hall : ∀ c, c < s.hp.length → (c, true) ∈ tc) (hbr : ∀ c blk, s.hp[c]? = some (some blk) → BR E S ρ w c blk) : ∃ S' ρ', PreR E w0 X w tc u S0 ρ0 hp0 S' ρ' (frzC s b j) ∧ Out E w0 X S ρ w S' ρ' w tc s.hp (frzC s b j).hp ∧ (frzC s b j).hp.length = s.hp.length := by
  have box : ∀ {S1 : Stab} {ρ1 : Rho} {hp1 : Heap N} {bt : TypeId} {cs : List (PV N)} {p q : PV N}, Out E w0 X S ρ w S1 ρ1 w tc s.hp hp1 → hp1[b]? = some (some (.box bt cs)) → (∀ blk, hp1[b]? = some (some blk) → BR E S1 ρ1 w b blk) → cs[j]? = some q → (∀ v, VR E S1 w ρ1 q v → VR E S1 w ρ1 p v) → (b, true) ∈ tc → Out E w0 X S1 ρ1 w S1 ρ1 w tc hp1 (hp1.set b (some (.box bt (cs.set j p)))) := by
    intro S1 ρ1 hp1 bt cs p q o hh hB hj hp hb
    obtain ⟨i, q', vs, g1, g2, g3, g4, g5, g6⟩ := hB _ hh
    have e0 : setRho ρ1 b i = ρ1 := by funext c'; by_cases e : c' = b <;> simp [setRho, e] at g1 ⊢; exact g1.symm
    have := chg_out (E := E) (hp := hp1) (tc := tc) (i' := i) (blk := .box bt (cs.set j p)) o.cx g1 g4 (grown_refl w _) (.refl _) g4 (.inl rfl) (fun hc => by
      rw [e0]
      exact ⟨i, q', vs, g1, g2, g3, g4, g5, g6.setL j hj hp⟩) hb (List.getElem?_eq_some_iff.mp hh).1
    rwa [e0] at this
  unfold frzC
  split
  · rename_i cs hbx
    have hh := boxAt_some hbx
    have hbl := (List.getElem?_eq_some_iff.mp hh).1
    split
    · rename_i c v hj
      obtain ⟨S1, ρ1, o1, k1⟩ := frzB_out (E := E) (tc := tc) (hp := s.hp) (b := c) (v := v) h.out.cx (hbr c) (fun _ _ _ _ h0 => hall c (List.getElem?_eq_some_iff.mp h0).1)
      have hh1 : (frzB s.hp c v)[b]? = some (some (.box (boxT s.hp b) cs)) := by
        rw [frzB_get]
        by_cases e : b = c
        · subst e; rw [if_pos rfl, hh]
        · rw [if_neg e, hh]
      obtain ⟨i, q', vs, g1, g2, g3, g4, g5, g6⟩ := hbr b _ hh
      -- the cell, thawed: by the value that stood there
      have o2 : Out E w0 X S1 ρ1 w S1 ρ1 w tc (frzB s.hp c v) ((frzB s.hp c v).set b (some (.box (boxT s.hp b) (cs.set j (thaw s.hp (.sl c v)))))) := by
        obtain ⟨i1, q1, vs1, f1, f2, f3, f4, f5, f6⟩ := o1.br (hbr b) _ hh1
        have hi : i1 = i := by
          obtain ⟨i', r1, r2⟩ := o1.rho b i g1
          rw [f1] at r1; injection r1 with r1; subst r1
          exact r2.2.1 (by rw [g2]; decide)
        subst hi
        rw [g3] at f3; injection f3 with f3; subst f3
        rw [g5] at f5; injection f5 with f5; injection f5 with f5; subst f5
        obtain ⟨uv, hu1, hu2⟩ := g6.get j _ hj
        have e0 : setRho ρ1 b i1 = ρ1 := by funext c'; by_cases e : c' = b <;> simp [setRho, e] at f1 ⊢; exact f1.symm
        have := chg_out (E := E) (hp := frzB s.hp c v) (tc := tc) (i' := i1) (blk := .box (boxT s.hp b) (cs.set j (thaw s.hp (.sl c v)))) o1.cx f1 f4 (grown_refl w _) (.refl _) f4 (.inl rfl) (fun hc => by
          rw [e0]
          refine ⟨i1, q', vs, f1, f2, g3, f4, g5, ?_⟩
          have := f6.set j (k1 uv hu2)
          have e1 : vs.toList.set j uv = vs.toList := by
            apply List.ext_getElem?
            intro i
            rw [List.getElem?_set]
            by_cases hi : j = i
            · subst hi
              rw [if_pos rfl, hu1, if_pos (List.getElem?_eq_some_iff.mp hu1).1]
            · rw [if_neg hi]
          rwa [e1] at this) (hall b hbl) (List.getElem?_eq_some_iff.mp hh1).1
        rwa [e0] at this
      exact ⟨S1, ρ1, h.keep (o1.trans o2), o1.trans o2, by rw [List.length_set, frzB_len]⟩
    · rename_i nl c l hj
      have o2 := box (Out.refl h.out.cx) hh (hbr b) hj (p := .vsl none c l) (fun v hv => thaw_VR (hp := s.hp) hv (fun _ _ e => by cases e)) (hall b hbl)
      exact ⟨S, ρ, h.keep o2, o2, by rw [List.length_set]⟩
    · exact ⟨S, ρ, h, Out.refl h.out.cx, rfl⟩
  · exact ⟨S, ρ, h, Out.refl h.out.cx, rfl⟩
theorem frzCs_pre : ∀ (l : List (Tmp × Nat)) {S : Stab} {ρ : Rho} {s : St N}, PreR E w0 X w tc u S0 ρ0 hp0 S ρ s → (l = [] ∨ ((∀ c, c < s.hp.length → (c, true) ∈ tc) ∧ ∀ c blk, s.hp[c]? = some (some blk) → BR E S ρ w c blk)) → ∃ S' ρ', PreR E w0 X w tc u S0 ρ0 hp0 S' ρ' (frzCs s l)
  | [], S, ρ, s, h, _ => ⟨S, ρ, h⟩
  | (t, j) :: l, S, ρ, s, h, hq => by
    rcases hq with hq | ⟨h1, h2⟩
    · exact absurd hq (by simp)
    · simp only [frzCs]
      split
      · rename_i b _
        obtain ⟨S1, ρ1, g1, g2, g3⟩ := frzC_pre (b := b) (j := j) h h1 h2
        exact frzCs_pre l g1 (.inr ⟨fun c hc => h1 c (by rw [← g3]; exact hc), fun c => g2.br (h2 c)⟩)
      · exact frzCs_pre l h (.inr ⟨h1, h2⟩)
theorem frzT_len (s : St N) (t : Tmp) : (frzT s t).hp.length = s.hp.length := by
  unfold frzT
  split
  · exact frzB_len _ _ _
  · rfl
  · exact frzVs_len _ _
  · rfl
theorem frzTs_len : ∀ (ts : List Tmp) (s : St N), (frzTs s ts).hp.length = s.hp.length
  | [], s => rfl
  | t :: ts, s => (frzTs_len ts _).trans (frzT_len s t)
theorem frzC_len (s : St N) (b j : Nat) : (frzC s b j).hp.length = s.hp.length := by
  unfold frzC
  split
  · split
    · rw [List.length_set, frzB_len]
    · rw [List.length_set]
    · rfl
  · rfl
theorem frzCs_len : ∀ (l : List (Tmp × Nat)) (s : St N), (frzCs s l).hp.length = s.hp.length
  | [], s => rfl
  | (t, j) :: l, s => by
    simp only [frzCs]
    split
    · rw [frzCs_len l, frzC_len]
    · exact frzCs_len l s
theorem prep_pre {a : Ann} (h : PreR E w0 X w tc u S0 ρ0 hp0 S ρ s) (k : Know E w tc S0 ρ0 hp0 M) (hM : (prep a s).hp.length ≤ M) (hf : ∀ t b v, .sl b v ∈ slIn (look s.env t) → Frz E w tc S ρ s.hp b) (hid : ∀ b ∈ midIds a s, (b, true) ∈ tc)
    (hc : a.cel = [] ∨ ∀ c, c < s.hp.length → (c, true) ∈ tc) : ∃ S' ρ', PreR E w0 X w tc u S0 ρ0 hp0 S' ρ' (prep a s) := by
  obtain ⟨S1, ρ1, h1⟩ := frzTs_pre (a.frz ++ aggTs s a.keep) h hf
  have l1 := frzTs_len (a.frz ++ aggTs s a.keep) s
  obtain ⟨S2, ρ2, h2⟩ := frzCs_pre a.cel h1 (hc.imp id (fun hc => ⟨fun c hlt => hc c (by rw [← l1]; exact hlt), fun c blk hblk => h1.out.br (k.br c true (hc c (by rw [← l1]; exact (List.getElem?_eq_some_iff.mp hblk).1))) blk hblk⟩))
  obtain ⟨S3, ρ3, h3⟩ := nilTs_pre a.keep h2 k (Nat.le_trans (nilBs_len _ _) hM)
  exact nilBs_pre (midIds a s) h3 k hM hid
theorem prep_len (a : Ann) (s : St N) : s.hp.length ≤ (prep a s).hp.length := by
  have h1 := nilTs_len a.keep (frzCs (frzTs s (a.frz ++ aggTs s a.keep)) a.cel)
  rw [frzCs_len, frzTs_len] at h1
  exact Nat.le_trans h1 (nilBs_len _ _)
end
/-! ### blocks under new numbers -/
section
variable {N : Nat → Type} {E : Enc N} {S : Stab} {w : World} {ρ ρ' : Rho}
theorem memN_iff {b : Nat} : ∀ {l : List Nat}, memN b l = true ↔ b ∈ l
  | [] => by simp [memN]
  | c :: l => by
    simp only [memN, Bool.or_eq_true, List.mem_cons, memN_iff (l := l)]
    exact ⟨fun h => h.imp Nat.eq_of_beq_eq_true id, fun h => h.imp (fun e => by subst e; simp) id⟩
theorem inv_some {b : Nat} : ∀ {l : List Nat} {i : Nat}, inv b l = some i → l[i]? = some b
  | [], _, h => absurd h (by simp [inv])
  | c :: l, i, h => by
    simp only [inv] at h
    cases hb : Nat.beq b c with
    | true =>
      rw [hb, cond_true] at h
      injection h with h; subst h
      rw [Nat.eq_of_beq_eq_true hb]; rfl
    | false =>
      rw [hb, cond_false] at h
      obtain ⟨j, hj, rfl⟩ := Option.map_eq_some_iff.mp h
      rw [List.getElem?_cons_succ]
      exact inv_some hj
theorem inv_mem {b : Nat} : ∀ {l : List Nat}, b ∈ l → ∃ i, inv b l = some i
  | [], h => absurd h (by simp)
  | c :: l, h => by
    simp only [inv]
    cases hb : Nat.beq b c with
    | true => exact ⟨0, rfl⟩
    | false =>
      rcases List.mem_cons.mp h with e | h
      · subst e; rw [show Nat.beq b b = true by simp] at hb; exact absurd hb (by simp)
      · obtain ⟨i, hi⟩ := inv_mem h
        exact ⟨i + 1, by rw [cond_false, hi]; rfl⟩
theorem nodupN_inj : ∀ {l : List Nat}, nodupN l = true → ∀ {i j b : Nat}, l[i]? = some b → l[j]? = some b → i = j
  | [], _, i, j, b, h, _ => absurd h (by simp)
  | c :: l, hn, i, j, b, h, h' => by
    simp only [nodupN, Bool.and_eq_true, Bool.not_eq_true'] at hn
    have hm : c ∉ l := fun h => by rw [memN_iff.mpr h] at hn; exact absurd hn.1 (by simp)
    cases i with
    | zero =>
      cases j with
      | zero => rfl
      | succ j =>
        rw [List.getElem?_cons_zero] at h; injection h with h; subst h
        rw [List.getElem?_cons_succ] at h'
        exact absurd (List.mem_of_getElem? h') hm
    | succ i =>
      cases j with
      | zero =>
        rw [List.getElem?_cons_zero] at h'; injection h' with h'; subst h'
        rw [List.getElem?_cons_succ] at h
        exact absurd (List.mem_of_getElem? h) hm
      | succ j => rw [List.getElem?_cons_succ] at h h'; rw [nodupN_inj hn.2 h h']
theorem inv_at {l : List Nat} (hn : nodupN l = true) {i b : Nat} (h : l[i]? = some b) : inv b l = some i := by
  obtain ⟨j, hj⟩ := inv_mem (List.mem_of_getElem? h)
  rw [hj, nodupN_inj hn (inv_some hj) h]
def resetI (i : BI) : BI := if i.kind = 1 then { i with ver := 0 } else i
theorem resetI_kind (i : BI) : (resetI i).kind = i.kind := by unfold resetI; split <;> rfl
theorem resetI_base (i : BI) : (resetI i).base = i.base := by unfold resetI; split <;> rfl
theorem resetI_md (i : BI) : (resetI i).md = i.md := by unfold resetI; split <;> rfl
theorem resetI_es (i : BI) : (resetI i).es = i.es := by unfold resetI; split <;> rfl
theorem resetI_n (i : BI) : (resetI i).n = i.n := by unfold resetI; split <;> rfl
theorem resetI_cap (i : BI) : (resetI i).cap = i.cap := by unfold resetI; split <;> rfl
theorem resetI_id {i : BI} (h : i.kind ≠ 1) : resetI i = i := if_neg h
def ordRho (ρ : Rho) (ord : List Nat) : Rho := fun i => (ord[i]?).bind fun b => (ρ b).map resetI
theorem ordRho_some {ord : List Nat} {i : Nat} {j : BI} (h : ordRho ρ ord i = some j) : ∃ b j0, ord[i]? = some b ∧ ρ b = some j0 ∧ j = resetI j0 := by
  unfold ordRho at h
  obtain ⟨b, h1, h2⟩ := Option.bind_eq_some_iff.mp h
  obtain ⟨j0, h3, rfl⟩ := Option.map_eq_some_iff.mp h2
  exact ⟨b, j0, h1, h3, rfl⟩
theorem ordRho_at {ord : List Nat} {i b : Nat} {j0 : BI} (h : ord[i]? = some b) (h' : ρ b = some j0) : ordRho ρ ord i = some (resetI j0) := by
  unfold ordRho; rw [h, Option.bind_some, h']; rfl
theorem verNew_some {hp : Heap N} {b v v' : Nat} (h : verNew hp b v = some v') : v' = 0 ∧ ∃ md e c l, hp[b]? = some (some (.row md v e c l)) := by
  unfold verNew isVer at h
  cases hv : verAt hp b with
  | none => rw [hv] at h; exact absurd h (by simp)
  | some u =>
    rw [hv] at h
    obtain ⟨h1, h2⟩ := bif_true h
    injection h2 with h2
    have := Nat.eq_of_beq_eq_true h1
    subst this
    refine ⟨h2.symm, ?_⟩
    unfold verAt at hv
    split at hv
    · rename_i hh; injection hv with hv; subst hv; exact ⟨_, _, _, _, hh⟩
    · exact absurd hv (by simp)
theorem moves_ord {hp : Heap N} {ord : List Nat} (hbr : ∀ b ∈ ord, ∀ blk, hp[b]? = some (some blk) → BR E S ρ w b blk) : Moves ρ (ordRho ρ ord) (fun b => inv b ord) (verNew hp) := by
  refine ⟨fun b b' i hg hi => ⟨resetI i, ordRho_at (inv_some hg) hi, resetI_kind i, resetI_base i, resetI_es i, resetI_n i, resetI_cap i, fun hk v v' hv _ => ?_⟩⟩
  obtain ⟨rfl, md, e, c, l, hh⟩ := verNew_some hv
  refine ⟨Nat.zero_le _, fun _ => ?_⟩
  obtain ⟨i', h1, -, -, h4, -⟩ := hbr b (List.mem_of_getElem? (inv_some hg)) _ hh
  rw [hi] at h1; injection h1 with h1; subst h1; exact h4
theorem mvB_BR {gb : Nat → Option Nat} {gv : Nat → Nat → Option Nat} {b b' : Nat} {rs : Bool} {blk blk' : PB N} (M : Moves ρ ρ' gb gv) (hρ : ∀ i, ρ b = some i → ρ' b' = some (bif rs then resetI i else i)) (h : BR E S ρ w b blk) (hm : mvB gb gv rs (some blk) = some blk') : BR E S ρ' w b' blk' := by
  cases blk with
  | box bt cs =>
    simp only [mvB, Option.some.injEq] at hm; subst hm
    obtain ⟨i, q, vs, h1, h2, h3, h4, h5, h6⟩ := h
    have e : (bif rs then resetI i else i) = i := by cases rs; rfl; exact resetI_id (by omega)
    exact ⟨i, q, vs, (hρ i h1).trans (by rw [e]), h2, h3, h4, h5, h6.map _ (fun _ _ h => h.mv1 M)⟩
  | map nl ck cv m =>
    simp only [mvB, Option.some.injEq] at hm; subst hm
    obtain ⟨i, h1, h2, h3⟩ := h
    have e : (bif rs then resetI i else i) = i := by cases rs; rfl; exact resetI_id (by omega)
    exact ⟨i, (hρ i h1).trans (by rw [e]), h2, h3⟩
  | row md v e c l =>
    simp only [mvB, Option.some.injEq] at hm; subst hm
    obtain ⟨i, h1, h2, h3, h4, h5, h6, h7, h8⟩ := h
    cases rs with
    | false => exact ⟨i, hρ i h1, h2, h3, h4, h5, h6, h7, h8⟩
    | true =>
      have e : (bif true then resetI i else i) = { i with ver := 0 } := if_pos h2
      exact ⟨{ i with ver := 0 }, (hρ i h1).trans (by rw [e]), h2, h3, rfl, h5, h6, h7, h8⟩
theorem look_keepEnv (gb : Nat → Option Nat) (gv : Nat → Nat → Option Nat) (e : Env N) (t : Nat) : ∀ ts : List Tmp, look (keepEnv gb gv e ts) t = mv gb gv (look e t) ∨ look (keepEnv gb gv e ts) t = .bad
  | [] => .inr rfl
  | t' :: ts => by
    simp only [keepEnv]
    rw [look_cons]
    by_cases h : t' = t
    · subst h; rw [if_pos rfl]; exact .inl rfl
    · rw [if_neg h]; exact look_keepEnv gb gv e t ts
theorem renum_blk {s : St N} {keep : List Tmp} {ord : List Nat} {i : Nat} {blk : PB N} (h : (renum s keep ord).hp[i]? = some (some blk)) : ∃ b blk0, ord[i]? = some b ∧ s.hp[b]? = some (some blk0) ∧ mvB (fun b => inv b ord) (verNew s.hp) true (some blk0) = some blk := by
  have h : (ord.map fun b => mvB (fun b => inv b ord) (verNew s.hp) true (s.hp.getD b none))[i]? = some (some blk) := h
  rw [List.getElem?_map] at h
  obtain ⟨b, h1, h2⟩ := Option.map_eq_some_iff.mp h
  rw [List.getD_eq_getElem?_getD] at h2
  cases hb : s.hp[b]? with
  | none => rw [hb] at h2; exact absurd h2 (by simp [mvB])
  | some z =>
    rw [hb] at h2
    cases z with
    | none => exact absurd h2 (by simp [mvB])
    | some blk0 => exact ⟨b, blk0, h1, hb, h2⟩
theorem renum_BR {s : St N} {keep : List Tmp} {ord : List Nat} (hbr : ∀ b ∈ ord, ∀ blk, s.hp[b]? = some (some blk) → BR E S ρ w b blk) : ∀ i blk, (renum s keep ord).hp[i]? = some (some blk) → BR E S (ordRho ρ ord) w i blk := by
  intro i blk h
  obtain ⟨b, blk0, h1, h2, h3⟩ := renum_blk h
  exact mvB_BR (rs := true) (moves_ord hbr) (fun j hj => ordRho_at h1 hj) (hbr b (List.mem_of_getElem? h1) _ h2) h3
end
/-! ### calls -/
def Xof (ρ : Rho) : Nat → Prop := fun q => ∃ b i, ρ b = some i ∧ i.base = some q ∧ i.md < 2
section
variable {N : Nat → Type}
/-- What a call's answer is. -/
def ResR (E : Enc N) (S : Stab) (w : World) (ρ : Rho) (r : List (PV N)) (u : Value) : Prop :=
  match r with
  | [p] => VR E S w ρ p u
  | ps => ∃ vs : Array Value, u = .tuple vs ∧ VRs E S w ρ ps vs.toList
def CallPost (E : Enc N) (w : World) (S : Stab) (ρ : Rho) (nb : Nat) (r : List (PV N) × Heap N) : Ending → World → Prop := fun e w' =>
  ∃ u S' ρ', e = .returned u ∧ Cx w (Xof ρ) S' ρ' w' ∧ (∀ b o, S b o → S' b o ∧ w'.cell? ⟨b, o, none⟩ = w.cell? ⟨b, o, none⟩) ∧ (∀ b o, S' b o → ¬ S b o → Xof ρ b ∨ w.heap.size ≤ b) ∧ ResR E S' w' ρ' r.1 u ∧
    (∀ b blk, r.2[b]? = some (some blk) → BR E S' ρ' w' b blk) ∧ (∀ b, b < nb → ρ' b = ρ b) ∧ (∀ b, r.2.length ≤ b → ρ' b = none)
/-- Package variables that hold what is said of them, in blocks that are not among X. -/
def Glob (gl : List (Nat × (Obj → Prop))) (w0 : World) (X : Nat → Prop) : Prop := ∀ q ∈ gl, ∃ v, w0.heap[q.1]? = some v ∧ q.2 v ∧ ¬ X q.1
def CallOK (P : Program) (E : Enc N) (gl : List (Nat × (Obj → Prop))) (call : FuncId → List (PV N) → Heap N → Option (List (PV N) × Heap N)) : Prop :=
  ∀ f pargs hp r, call f pargs hp = some r → ∀ (S : Stab) (ρ : Rho) (w : World) (args : Array Value), Cx w (Xof ρ) S ρ w → Glob gl w (Xof ρ) → VRs E S w ρ pargs args.toList → (∀ b blk, hp[b]? = some (some blk) → BR E S ρ w b blk) → (∀ b, hp.length ≤ b → ρ b = none) →
    Calls P f args w (CallPost E w S ρ (nbOf hp) r)
/-- Functions that write their row in place. -/
def InpOK (T : Tbl N) : Prop := ∀ f q, T.inp f = some q → ∀ (S : Stab) (w : World) (i : BI) (e : TypeId) (l : List (El N q.c)), i.md = 0 → RowR T.E S w i e q.c l → (∀ g, i.base = some g → g < w.heap.size ∧ ∀ o, ¬ S g o) →
  (q.g l).length = l.length ∧ Calls T.P f #[.slice (rowAt i.base) l.length i.cap] w (fun en w' => en = .returned (.tuple #[]) ∧ w.grownBy w' i.base ∧ ((∀ c o, S c o → S c o ∧ w'.cell? ⟨c, o, none⟩ = w.cell? ⟨c, o, none⟩) → RowR T.E S w' i e q.c (q.g l)))
end
section
variable {N : Nat → Type} {E : Enc N} {S : Stab} {w : World} {ρ : Rho} {R : Type} {r : R}
theorem asC_ok {c : TC} {p : PV N} {u : Value} {G : PV N → Option R} (h : asC c p G = some r) (hp : VR E S w ρ p u) : ∃ q, G q = some r ∧ VR E S w ρ q u := by
  cases c with
  | int k =>
    simp only [asC, asI] at h
    cases hp with
    | int k' n =>
      dsimp only at h
      by_cases hk : k' = k
      · rw [if_pos hk] at h; subst hk; exact ⟨_, h, .int _ n⟩
      · rw [if_neg hk] at h; exact absurd h (by simp)
    | _ => exact absurd h (by simp)
  | bool =>
    simp only [asC, asB] at h
    cases hp with
    | bool b => exact ⟨_, h, .bool b⟩
    | prop p d => exact ⟨_, h, .bool _⟩
    | _ => exact absurd h (by simp)
  | str =>
    simp only [asC, asS] at h
    cases hp with
    | str s => exact ⟨_, h, .str s⟩
    | _ => exact absurd h (by simp)
  | list c =>
    simp only [asC, asL] at h
    cases hp with
    | vsl nl c' l A cap vs hl hr hc hA hcap hnl =>
      dsimp only at h
      split at h
      · rename_i e _
        subst e
        exact ⟨_, h, .vsl _ _ _ _ _ vs hl hr hc hA hcap (fun h => absurd rfl h)⟩
      · exact absurd h (by simp)
    | _ => exact absurd h (by simp)
  | named i => exact absurd h (by simp [asC])
theorem asCs_ok : ∀ {cs : List TC} {ps : List (PV N)} {us : List Value} {G : List (PV N) → Option R}, asCs cs ps G = some r → VRs E S w ρ ps us → ∃ qs, G qs = some r ∧ VRs E S w ρ qs us
  | [], [], _, G, h, hp => ⟨[], h, hp⟩
  | [], _ :: _, _, G, h, _ => absurd h (by simp [asCs, nilR])
  | _ :: _, [], _, G, h, _ => absurd h (by simp [asCs, consR])
  | c :: cs, p :: ps, _, G, h, hp => by
    cases hp with
    | cons _ u _ us hp hps =>
      simp only [asCs, consR] at h
      obtain ⟨q, h1, h2⟩ := asC_ok h hp
      obtain ⟨qs, h3, h4⟩ := asCs_ok h1 hps
      exact ⟨q :: qs, h3, .cons _ _ _ _ h2 h4⟩
theorem asH_ok {p q : PV N} {x : Option R} (h : asH p q x = some r) : x = some r ∧ ((∃ b v, q = .sl b v ∧ p = .sl b 0) ∨ (∃ b, q = .mp b ∧ p = .mp b) ∨ ∃ b j, q = .bptr b j ∧ p = .bptr b j) := by
  unfold asH at h
  split at h
  · obtain ⟨h1, h2⟩ := bif_true h
    rw [Nat.eq_of_beq_eq_true h1]; exact ⟨h2, .inl ⟨_, _, rfl, rfl⟩⟩
  · obtain ⟨h1, h2⟩ := bif_true h
    rw [Nat.eq_of_beq_eq_true h1]; exact ⟨h2, .inr (.inl ⟨_, rfl, rfl⟩)⟩
  · obtain ⟨h1, h2⟩ := bif_true h
    rw [Bool.and_eq_true] at h1
    rw [Nat.eq_of_beq_eq_true h1.1, Nat.eq_of_beq_eq_true h1.2]; exact ⟨h2, .inr (.inr ⟨_, _, rfl, rfl⟩)⟩
  · exact absurd h (by simp)
theorem asH_sl {p : PV N} {b : Nat} {x : Option R} (h : asH p (.sl b 0) x = some r) : x = some r ∧ p = .sl b 0 := by
  obtain ⟨h1, h2⟩ := asH_ok h
  rcases h2 with ⟨b', v, e1, e2⟩ | ⟨b', e1, e2⟩ | ⟨b', j, e1, e2⟩
  · injection e1 with e1; subst e1; exact ⟨h1, e2⟩
  · cases e1
  · cases e1
theorem asH_mp {p : PV N} {b : Nat} {x : Option R} (h : asH p (.mp b) x = some r) : x = some r ∧ p = .mp b := by
  obtain ⟨h1, h2⟩ := asH_ok h
  rcases h2 with ⟨b', v, e1, e2⟩ | ⟨b', e1, e2⟩ | ⟨b', j, e1, e2⟩
  · cases e1
  · injection e1 with e1; subst e1; exact ⟨h1, e2⟩
  · cases e1
theorem asH_bptr {p : PV N} {b j : Nat} {x : Option R} (h : asH p (.bptr b j) x = some r) : x = some r ∧ p = .bptr b j := by
  obtain ⟨h1, h2⟩ := asH_ok h
  rcases h2 with ⟨b', v, e1, e2⟩ | ⟨b', e1, e2⟩ | ⟨b', j, e1, e2⟩
  · cases e1
  · cases e1
  · injection e1 with e1 e1'; subst e1 e1'; exact ⟨h1, e2⟩
theorem asSh_ok {g : Sh} {p : PV N} {u : Value} {G : PV N → Option R} (h : asSh g p G = some r) (hp : VR E S w ρ p u) : ∃ q, G q = some r ∧ VR E S w ρ q u := by
  cases g with
  | val c => exact asC_ok h hp
  | agg l =>
    simp only [asSh, asA] at h
    cases hp with
    | agg cs vs hcs =>
      obtain ⟨qs, h1, h2⟩ := asCs_ok h hcs
      exact ⟨_, h1, .agg _ _ h2⟩
    | _ => exact absurd h (by simp)
  | sl b => obtain ⟨h1, rfl⟩ := asH_sl h; exact ⟨_, h1, hp⟩
  | bptr b j => obtain ⟨h1, rfl⟩ := asH_bptr h; exact ⟨_, h1, hp⟩
  | mp b => obtain ⟨h1, rfl⟩ := asH_mp h; exact ⟨_, h1, hp⟩
  | err =>
    simp only [asSh, asErr] at h
    cases hp with
    | nilif => exact ⟨_, h, .nilif⟩
    | iface t t' p v hv => exact ⟨_, h, .iface _ _ _ _ (.bad _)⟩
    | _ => exact absurd h (by simp)
  | nsl e c =>
    cases hp with
    | vsl nl c' l A cap vs hl hr hc hA hcap hnl =>
      cases nl with
      | some e' =>
        obtain ⟨rfl, rfl, rfl⟩ := hnl (by simp)
        exact ⟨_, h, .vsl (some e) c [] none 0 (fun _ => []) (fun j x h => absurd h (by simp)) (fun j x h => absurd h (by simp)) (fun j h => absurd h (by simp)) (fun h => absurd h (by simp)) (Nat.le_refl _) (fun _ => ⟨rfl, rfl, rfl⟩)⟩
      | none =>
        simp only [asSh, asN] at h
        split at h
        · rename_i hcc _
          subst hcc
          exact ⟨_, h, .vsl none c' l A cap vs hl hr hc hA hcap hnl⟩
        · exact absurd h (by simp)
    | _ => exact absurd h (by simp [asSh, asN])
theorem asShs_ok : ∀ {cs : List Sh} {ps : List (PV N)} {us : List Value} {G : List (PV N) → Option R}, asShs cs ps G = some r → VRs E S w ρ ps us → ∃ qs, G qs = some r ∧ VRs E S w ρ qs us
  | [], [], _, G, h, hp => ⟨[], h, hp⟩
  | [], _ :: _, _, G, h, _ => absurd h (by simp [asShs, nilR])
  | _ :: _, [], _, G, h, _ => absurd h (by simp [asShs, consR])
  | c :: cs, p :: ps, _, G, h, hp => by
    cases hp with
    | cons _ u _ us hp hps =>
      simp only [asShs, consR] at h
      obtain ⟨q, h1, h2⟩ := asSh_ok h hp
      obtain ⟨qs, h3, h4⟩ := asShs_ok h1 hps
      exact ⟨q :: qs, h3, .cons _ _ _ _ h2 h4⟩
theorem asSc_ok {g : Sc} {p : PV N} {u : Value} {G : PV N → Option R} (h : asSc g p G = some r) (hp : VR E S w ρ p u) : ∃ q, G q = some r ∧ VR E S w ρ q u := by
  cases g with
  | val c => exact asC_ok h hp
  | sl b => obtain ⟨h1, rfl⟩ := asH_sl h; exact ⟨_, h1, hp⟩
  | bptr b j => obtain ⟨h1, rfl⟩ := asH_bptr h; exact ⟨_, h1, hp⟩
  | mp b => obtain ⟨h1, rfl⟩ := asH_mp h; exact ⟨_, h1, hp⟩
theorem asScs_ok : ∀ {cs : List Sc} {ps : List (PV N)} {us : List Value} {G : List (PV N) → Option R}, asScs cs ps G = some r → VRs E S w ρ ps us → ∃ qs, G qs = some r ∧ VRs E S w ρ qs us
  | [], [], _, G, h, hp => ⟨[], h, hp⟩
  | [], _ :: _, _, G, h, _ => absurd h (by simp [asScs, nilR])
  | _ :: _, [], _, G, h, _ => absurd h (by simp [asScs, consR])
  | c :: cs, p :: ps, _, G, h, hp => by
    cases hp with
    | cons _ u _ us hp hps =>
      simp only [asScs, consR] at h
      obtain ⟨q, h1, h2⟩ := asSc_ok h hp
      obtain ⟨qs, h3, h4⟩ := asScs_ok h1 hps
      exact ⟨q :: qs, h3, .cons _ _ _ _ h2 h4⟩
/-- A block's reading says the same of the model's. -/
theorem asSb_ok {g : Sb} {z : Option (PB N)} {b : Nat} {G : Option (PB N) → Option R} (h : asSb g z G = some r) (hz : ∀ blk, z = some blk → BR E S ρ w b blk) : ∃ blk', G (some blk') = some r ∧ BR E S ρ w b blk' ∧ z ≠ none := by
  cases g with
  | box bt l =>
    simp only [asSb, asBox] at h
    split at h
    · rename_i bt' cs
      have hk := bif_true h
      clear h
      have e0 := Nat.eq_of_beq_eq_true hk.1
      subst e0
      have h := hk.2
      obtain ⟨i, q, vs, h1, h2, h3, h4, h5, h6⟩ := hz _ rfl
      obtain ⟨qs, g1, g2⟩ := asScs_ok h h6
      exact ⟨_, g1, ⟨i, q, vs, h1, h2, h3, h4, h5, g2⟩, by simp⟩
    · exact absurd h (by simp)
  | row md e c =>
    simp only [asSb, asRow] at h
    split at h
    · rename_i md' e' c' l
      obtain ⟨h1, h9⟩ := bif_true h
      clear h
      rw [Bool.and_eq_true] at h1
      have e1 := Nat.eq_of_beq_eq_true h1.1
      have e2 := Nat.eq_of_beq_eq_true h1.2
      subst e1 e2
      split at h9
      · rename_i e3 _
        subst e3
        exact ⟨_, h9, hz _ rfl, by simp⟩
      · exact absurd h9 (by simp)
    · exact absurd h (by simp)
  | map nl ck cv =>
    simp only [asSb, asMap] at h
    split at h
    · rename_i nl' ck' cv' m
      obtain ⟨h1, h9⟩ := bif_true h
      clear h
      have e1 := eq_of_beq h1
      subst e1
      split at h9
      · rename_i e2 e3 _ _
        subst e2 e3
        exact ⟨_, h9, hz _ rfl, by simp⟩
      · exact absurd h9 (by simp)
    · exact absurd h (by simp)
theorem asSbs_ok : ∀ {gs : List Sb} {hp : Heap N} {b0 : Nat} {G : Heap N → Option R}, asSbs gs hp G = some r → (∀ b blk, hp[b]? = some (some blk) → BR E S ρ w (b0 + b) blk) → ∃ hp', G hp' = some r ∧ hp'.length = hp.length ∧ ∀ b blk, hp'[b]? = some (some blk) → BR E S ρ w (b0 + b) blk
  | [], [], _, G, h, hz => ⟨[], h, rfl, hz⟩
  | [], _ :: _, _, G, h, _ => absurd h (by simp [asSbs, nilR])
  | _ :: _, [], _, G, h, _ => absurd h (by simp [asSbs, consR])
  | g :: gs, z :: hp, b0, G, h, hz => by
    simp only [asSbs, consR] at h
    obtain ⟨blk', h1, h2, -⟩ := asSb_ok (b := b0) h (fun blk e => by have := hz 0 blk (by rw [e]; rfl); rwa [Nat.add_zero] at this)
    obtain ⟨hp', h3, h4, h5⟩ := asSbs_ok (b0 := b0 + 1) h1 (fun b blk hb => by have := hz (b + 1) blk (by simpa using hb); rwa [show b0 + (b + 1) = b0 + 1 + b by omega] at this)
    refine ⟨some blk' :: hp', h3, by rw [List.length_cons, List.length_cons, h4], fun b blk hb => ?_⟩
    cases b with
    | zero => simp only [List.getElem?_cons_zero, Option.some.injEq] at hb; subst hb; exact h2
    | succ b => rw [show b0 + (b + 1) = b0 + 1 + b by omega]; exact h5 b blk (by simpa using hb)
theorem asSig_ok {g : Sig} {q : List (PV N) × Heap N} {G : List (PV N) → Heap N → Option R} {us : List Value} (h : asSig g q G = some r) (hv : VRs E S w ρ q.1 us) (hb : ∀ b blk, q.2[b]? = some (some blk) → BR E S ρ w b blk) :
    ∃ vs hp, G vs hp = some r ∧ VRs E S w ρ vs us ∧ hp.length = q.2.length ∧ ∀ b blk, hp[b]? = some (some blk) → BR E S ρ w b blk := by
  unfold asSig at h
  obtain ⟨hp, h1, h2, h3⟩ := asSbs_ok (b0 := 0) h (fun b blk hh => by rw [Nat.zero_add]; exact hb b blk hh)
  obtain ⟨vs, h4, h5⟩ := asShs_ok h1 hv
  exact ⟨vs, hp, h4, h5, h2, fun b blk hh => by have := h3 b blk hh; rwa [Nat.zero_add] at this⟩
theorem asC_any {c : TC} {p : PV N} {G : PV N → Option R} {T : Prop} (h : asC c p G = some r) (k : ∀ q, G q = some r → T) : T := by
  cases c with
  | int kk =>
    simp only [asC, asI] at h
    split at h
    · split at h
      · exact k _ h
      · exact absurd h (by simp)
    · exact absurd h (by simp)
  | bool =>
    simp only [asC, asB] at h
    split at h
    · exact k _ h
    · exact k _ h
    · exact absurd h (by simp)
  | str =>
    simp only [asC, asS] at h
    split at h
    · exact k _ h
    · exact absurd h (by simp)
  | list c =>
    simp only [asC, asL] at h
    split at h
    · split at h
      · exact k _ h
      · exact absurd h (by simp)
    · exact absurd h (by simp)
  | named i => exact absurd h (by simp [asC])
theorem asCs_any {T : Prop} : ∀ {cs : List TC} {ps : List (PV N)} {G : List (PV N) → Option R}, asCs cs ps G = some r → (∀ q, G q = some r → T) → T
  | [], [], G, h, k => k _ h
  | [], _ :: _, G, h, _ => absurd h (by simp [asCs, nilR])
  | _ :: _, [], G, h, _ => absurd h (by simp [asCs, consR])
  | c :: cs, p :: ps, G, h, k => by
    simp only [asCs, consR] at h
    exact asC_any h (fun q h => asCs_any h (fun qs h => k _ h))
theorem asSh_any {g : Sh} {p : PV N} {G : PV N → Option R} {T : Prop} (h : asSh g p G = some r) (k : ∀ q, G q = some r → T) : T := by
  cases g with
  | val c => exact asC_any h k
  | agg l =>
    simp only [asSh, asA] at h
    split at h
    · exact asCs_any h (fun qs h => k _ h)
    · exact absurd h (by simp)
  | sl b => exact k _ (asH_sl h).1
  | bptr b j => exact k _ (asH_bptr h).1
  | mp b => exact k _ (asH_mp h).1
  | err =>
    simp only [asSh, asErr] at h
    split at h
    · exact k _ h
    · exact k _ h
    · exact absurd h (by simp)
  | nsl e c =>
    simp only [asSh, asN] at h
    split at h
    · exact k _ h
    · split at h
      · exact k _ h
      · exact absurd h (by simp)
    · exact absurd h (by simp)
theorem asSc_any {g : Sc} {p : PV N} {G : PV N → Option R} {T : Prop} (h : asSc g p G = some r) (k : ∀ q, G q = some r → T) : T := by
  cases g with
  | val c => exact asC_any h k
  | sl b => exact k _ (asH_sl h).1
  | bptr b j => exact k _ (asH_bptr h).1
  | mp b => exact k _ (asH_mp h).1
theorem asScs_any {T : Prop} : ∀ {cs : List Sc} {ps : List (PV N)} {G : List (PV N) → Option R}, asScs cs ps G = some r → (∀ q, G q = some r → T) → T
  | [], [], G, h, k => k _ h
  | [], _ :: _, G, h, _ => absurd h (by simp [asScs, nilR])
  | _ :: _, [], G, h, _ => absurd h (by simp [asScs, consR])
  | c :: cs, p :: ps, G, h, k => by
    simp only [asScs, consR] at h
    exact asSc_any h (fun q h => asScs_any h (fun qs h => k _ h))
theorem asShs_any {T : Prop} : ∀ {cs : List Sh} {ps : List (PV N)} {G : List (PV N) → Option R}, asShs cs ps G = some r → (∀ q, G q = some r → T) → T
  | [], [], G, h, k => k _ h
  | [], _ :: _, G, h, _ => absurd h (by simp [asShs, nilR])
  | _ :: _, [], G, h, _ => absurd h (by simp [asShs, consR])
  | c :: cs, p :: ps, G, h, k => by
    simp only [asShs, consR] at h
    exact asSh_any h (fun q h => asShs_any h (fun qs h => k _ h))
theorem asSb_any {g : Sb} {z : Option (PB N)} {G : Option (PB N) → Option R} {T : Prop} (h : asSb g z G = some r) (k : ∀ q, G q = some r → T) : T := by
  cases g with
  | box bt l =>
    simp only [asSb, asBox] at h
    split at h
    · exact asScs_any (bif_true h).2 (fun qs h => k _ h)
    · exact absurd h (by simp)
  | row md e c =>
    simp only [asSb, asRow] at h
    split at h
    · obtain ⟨-, h⟩ := bif_true h
      split at h
      · exact k _ h
      · exact absurd h (by simp)
    · exact absurd h (by simp)
  | map nl ck cv =>
    simp only [asSb, asMap] at h
    split at h
    · obtain ⟨-, h⟩ := bif_true h
      split at h
      · exact k _ h
      · exact absurd h (by simp)
    · exact absurd h (by simp)
theorem asSbs_any {T : Prop} : ∀ {gs : List Sb} {hp : Heap N} {G : Heap N → Option R}, asSbs gs hp G = some r → (∀ q, G q = some r → T) → T
  | [], [], G, h, k => k _ h
  | [], _ :: _, G, h, _ => absurd h (by simp [asSbs, nilR])
  | _ :: _, [], G, h, _ => absurd h (by simp [asSbs, consR])
  | g :: gs, z :: hp, G, h, k => by
    simp only [asSbs, consR] at h
    exact asSb_any h (fun q h => asSbs_any h (fun qs h => k _ h))
theorem asSig_any {g : Sig} {q : List (PV N) × Heap N} {G : List (PV N) → Heap N → Option R} {T : Prop} (h : asSig g q G = some r) (k : ∀ vs hp, G vs hp = some r → T) : T := by
  unfold asSig at h
  exact asSbs_any h (fun hp h => asShs_any h (fun vs h => k vs hp h))
theorem nbOf_ids : ∀ (l : List (Option (PB N))) (l2 : Heap N), (∀ z ∈ l, isIdB z = true) → l.length ≤ nbOf (l ++ l2)
  | [], _, _ => Nat.zero_le _
  | z :: l, l2, h => by
    rw [List.cons_append, nbOf, h z List.mem_cons_self, cond_true, List.length_cons]
    have := nbOf_ids l l2 (fun z hz => h z (List.mem_cons_of_mem _ hz))
    omega
theorem look_params : ∀ (ps : List (PV N)) (i t : Nat), look (params ps i) t = if i ≤ t then (ps[t - i]?).getD .bad else .bad
  | [], i, t => by simp [params, look]
  | p :: ps, i, t => by
    simp only [params]
    rw [look_cons]
    by_cases h : i = t
    · subst h; simp
    · rw [if_neg h, look_params ps (i + 1) t]
      by_cases h1 : i ≤ t
      · rw [if_pos h1, if_pos (by omega), show t - i = (t - (i + 1)) + 1 by omega, List.getElem?_cons_succ]
      · rw [if_neg h1, if_neg (by omega)]
end
section
variable {N : Nat → Type} {E : Enc N} {w0 : World} {X : Nat → Prop} {S1 S2 : Stab} {w w2 : World} {ρ1 ρ2 : Rho} {tc : List (Nat × Bool)}
def deadI (i : BI) : BI := { i with md := 3, ver := i.ver + 1 }
/-- What is known of the caller's blocks behind a call. -/
def backRho (ρ1 ρ2 : Rho) (ord : List Nat) (nb len fin : Nat) : Rho := fun b =>
  if b < len then (match inv b ord with | some i => if i < nb then ρ1 b else (ρ1 b).map deadI | none => ρ1 b) else if b < fin then ρ2 (nb + (b - len)) else ρ1 b
structure Back (E : Enc N) (w0 : World) (X : Nat → Prop) (S1 : Stab) (ρ1 : Rho) (w : World) (S2 : Stab) (ρ2 : Rho) (w2 : World) (tc : List (Nat × Bool)) (hp1 : Heap N) (ord : List Nat) (nb : Nat) (h : Heap N) : Prop where
  cx1 : Cx w0 X S1 ρ1 w
  nd : nodupN ord = true
  ids : ∀ (i b : Nat), i < nb → ord[i]? = some b → ∃ j, ρ1 b = some j ∧ j.kind ≠ 1
  rows : ∀ (i b : Nat), nb ≤ i → ord[i]? = some b → ∃ j, ρ1 b = some j ∧ j.kind = 1
  inn : ∀ b ∈ ord, b < hp1.length ∧ (b, true) ∈ tc
  nbl : nb ≤ ord.length ∧ nb ≤ h.length
  cx2 : Cx w (Xof (ordRho ρ1 ord)) S2 ρ2 w2
  st : ∀ b o, S1 b o → S2 b o ∧ w2.cell? ⟨b, o, none⟩ = w.cell? ⟨b, o, none⟩
  new : ∀ b o, S2 b o → ¬ S1 b o → Xof (ordRho ρ1 ord) b ∨ w.heap.size ≤ b
  id : ∀ i, i < nb → ρ2 i = ordRho ρ1 ord i
  fr2 : ∀ i, h.length ≤ i → ρ2 i = none
  br : ∀ i blk, h[i]? = some (some blk) → BR E S2 ρ2 w2 i blk
  fr1 : ∀ b, hp1.length ≤ b → b < hp1.length + (h.length - nb) → ρ1 b = none ∧ (b, true) ∈ tc
theorem backHp_get {hp : Heap N} {ord : List Nat} {nb : Nat} {h : Heap N} (b : Nat) : (backHp hp ord nb h)[b]? = if b < hp.length + (h.length - nb) then some (if b < hp.length then (match inv b ord with
    | some i => if i < nb then mvB (sig2 ord nb hp.length) (fun _ v => some v) false (h.getD i none) else none
    | none => hp.getD b none) else mvB (sig2 ord nb hp.length) (fun _ v => some v) false (h.getD (nb + (b - hp.length)) none)) else none := by
  unfold backHp
  rw [List.getElem?_map]
  have hb : ∀ m n : Nat, Nat.blt m n = decide (m < n) := fun m n => by
    by_cases h : m < n
    · rw [decide_eq_true h, Nat.blt_eq.mpr h]
    · rw [decide_eq_false h, ← Bool.not_eq_true]; simpa [Nat.blt_eq] using h
  by_cases hlt : b < hp.length + (h.length - nb)
  · rw [List.getElem?_range hlt, if_pos hlt, Option.map_some]
    congr 1
    rw [hb]
    by_cases h1 : b < hp.length
    · rw [decide_eq_true h1, cond_true, if_pos h1]
      cases inv b ord with
      | none => rfl
      | some i =>
        dsimp only
        rw [hb]
        by_cases h2 : i < nb
        · rw [decide_eq_true h2, cond_true, if_pos h2]
        · rw [decide_eq_false h2, cond_false, if_neg h2]
    · rw [decide_eq_false h1, cond_false, if_neg h1]
  · rw [if_neg hlt, List.getElem?_eq_none (by simp; omega)]; rfl
theorem backHp_len {hp : Heap N} {ord : List Nat} {nb : Nat} {h : Heap N} : (backHp hp ord nb h).length = hp.length + (h.length - nb) := by simp [backHp]
section
variable {hp1 : Heap N} {ord : List Nat} {nb : Nat} {h : Heap N}
theorem Back.idEq (B : Back E w0 X S1 ρ1 w S2 ρ2 w2 tc hp1 ord nb h) {i b : Nat} (hi : i < nb) (hb : ord[i]? = some b) : ∃ j, ρ1 b = some j ∧ j.kind ≠ 1 ∧ ρ2 i = some j := by
  obtain ⟨j, h1, h2⟩ := B.ids i b hi hb
  exact ⟨j, h1, h2, by rw [B.id i hi, ordRho_at hb h1, resetI_id h2]⟩
theorem Back.rho_id (B : Back E w0 X S1 ρ1 w S2 ρ2 w2 tc hp1 ord nb h) {i b : Nat} (hi : i < nb) (hb : ord[i]? = some b) (fin : Nat) : backRho ρ1 ρ2 ord nb hp1.length fin b = ρ1 b := by
  unfold backRho
  rw [if_pos (B.inn b (List.mem_of_getElem? hb)).1, inv_at B.nd hb]
  dsimp only
  rw [if_pos hi]
theorem Back.rho_row (B : Back E w0 X S1 ρ1 w S2 ρ2 w2 tc hp1 ord nb h) {i b : Nat} (hi : nb ≤ i) (hb : ord[i]? = some b) (fin : Nat) : backRho ρ1 ρ2 ord nb hp1.length fin b = (ρ1 b).map deadI := by
  unfold backRho
  rw [if_pos (B.inn b (List.mem_of_getElem? hb)).1, inv_at B.nd hb]
  dsimp only
  rw [if_neg (by omega)]
theorem Back.rho_old (_B : Back E w0 X S1 ρ1 w S2 ρ2 w2 tc hp1 ord nb h) {b : Nat} (hb : b < hp1.length) (ho : b ∉ ord) (fin : Nat) : backRho ρ1 ρ2 ord nb hp1.length fin b = ρ1 b := by
  unfold backRho
  rw [if_pos hb]
  cases hi : inv b ord with
  | none => rfl
  | some i => exact absurd (List.mem_of_getElem? (inv_some hi)) ho
theorem Back.rho_new (_B : Back E w0 X S1 ρ1 w S2 ρ2 w2 tc hp1 ord nb h) {i : Nat} (hi : nb ≤ i) (hl : i < h.length) : backRho ρ1 ρ2 ord nb hp1.length (hp1.length + (h.length - nb)) (hp1.length + (i - nb)) = ρ2 i := by
  unfold backRho
  rw [if_neg (by omega), if_pos (by omega)]
  congr 1
  omega
/-- A block behind the call: where it comes from. -/
theorem Back.cases (B : Back E w0 X S1 ρ1 w S2 ρ2 w2 tc hp1 ord nb h) {b : Nat} {j : BI} (hj : backRho ρ1 ρ2 ord nb hp1.length (hp1.length + (h.length - nb)) b = some j) :
    (∃ i, i < nb ∧ ord[i]? = some b ∧ ρ1 b = some j ∧ ρ2 i = some j) ∨ (∃ j0, b ∈ ord ∧ ρ1 b = some j0 ∧ j = deadI j0) ∨ (b ∉ ord ∧ ρ1 b = some j ∧ (b < hp1.length ∨ hp1.length + (h.length - nb) ≤ b)) ∨ ∃ i, nb ≤ i ∧ i < h.length ∧ b = hp1.length + (i - nb) ∧ ρ2 i = some j := by
  rcases Nat.lt_or_ge b hp1.length with hb | hb
  · by_cases ho : b ∈ ord
    · obtain ⟨i, hi⟩ := inv_mem ho
      have hio := inv_some hi
      rcases Nat.lt_or_ge i nb with hin | hin
      · rw [B.rho_id hin hio] at hj
        obtain ⟨j', h1, -, h2⟩ := B.idEq hin hio
        rw [hj] at h1; injection h1 with h1; subst h1
        exact .inl ⟨i, hin, hio, hj, h2⟩
      · rw [B.rho_row hin hio] at hj
        obtain ⟨j0, h1, h2⟩ := Option.map_eq_some_iff.mp hj
        exact .inr (.inl ⟨j0, ho, h1, h2.symm⟩)
    · rw [B.rho_old hb ho] at hj
      exact .inr (.inr (.inl ⟨ho, hj, .inl hb⟩))
  · rcases Nat.lt_or_ge b (hp1.length + (h.length - nb)) with hf | hf
    · have e : b = hp1.length + ((nb + (b - hp1.length)) - nb) := by omega
      have hl : nb + (b - hp1.length) < h.length := by omega
      rw [e, B.rho_new (by omega) hl] at hj
      exact .inr (.inr (.inr ⟨nb + (b - hp1.length), by omega, hl, e, hj⟩))
    · refine .inr (.inr (.inl ⟨fun ho => ?_, ?_, .inr hf⟩))
      · have := (B.inn b ho).1; omega
      · unfold backRho at hj
        rw [if_neg (by omega), if_neg (by omega)] at hj; exact hj
theorem Back.moves (B : Back E w0 X S1 ρ1 w S2 ρ2 w2 tc hp1 ord nb h) : Moves ρ2 (backRho ρ1 ρ2 ord nb hp1.length (hp1.length + (h.length - nb))) (sig2 ord nb hp1.length) (fun _ v => some v) := by
  refine ⟨fun i b' j hg hj => ?_⟩
  have hl : i < h.length := by
    rcases Nat.lt_or_ge i h.length with hl | hl
    · exact hl
    · rw [B.fr2 i hl] at hj; exact absurd hj (by simp)
  have key : backRho ρ1 ρ2 ord nb hp1.length (hp1.length + (h.length - nb)) b' = some j := by
    unfold sig2 at hg
    injection hg with hg
    subst hg
    rcases Nat.lt_or_ge i nb with hin | hin
    · have : Nat.blt i nb = true := by rw [Nat.blt_eq]; exact hin
      rw [this, cond_true]
      have hil : i < ord.length := by have := B.nbl.1; omega
      have ho : ord[i]? = some (ord.getD i 0) := by rw [List.getD_eq_getElem?_getD, List.getElem?_eq_getElem hil]; rfl
      obtain ⟨j', h1, -, h2⟩ := B.idEq hin ho
      rw [B.rho_id hin ho, h1, ← hj, h2]
    · have : Nat.blt i nb = false := by rw [← Bool.not_eq_true]; simp [Nat.blt_eq]; omega
      rw [this, cond_false, B.rho_new hin hl]
      exact hj
  exact ⟨j, key, rfl, rfl, rfl, rfl, rfl, fun _ v v' hv hle => by injection hv with hv; subst hv; exact ⟨hle, fun h => h⟩⟩
theorem Back.own (B : Back E w0 X S1 ρ1 w S2 ρ2 w2 tc hp1 ord nb h) {q : Nat} (hq : Xof (ordRho ρ1 ord) q) : ∃ b j, b ∈ ord ∧ ρ1 b = some j ∧ j.base = some q ∧ j.md < 2 := by
  obtain ⟨i, j, h1, h2, h3⟩ := hq
  obtain ⟨b, j0, g1, g2, rfl⟩ := ordRho_some h1
  exact ⟨b, j0, List.mem_of_getElem? g1, g2, by rw [← resetI_base]; exact h2, by rw [← resetI_md]; exact h3⟩
theorem Back.ownX (B : Back E w0 X S1 ρ1 w S2 ρ2 w2 tc hp1 ord nb h) {q : Nat} (hq : Xof (ordRho ρ1 ord) q ∨ w.heap.size ≤ q) : X q ∨ w0.heap.size ≤ q := by
  rcases hq with hq | hq
  · obtain ⟨b, j, -, h1, h2, h3⟩ := B.own hq
    exact (B.cx1.own b j q h1 h2 h3).1
  · exact .inr (Nat.le_trans B.cx1.bel.size hq)
theorem Back.out (B : Back E w0 X S1 ρ1 w S2 ρ2 w2 tc hp1 ord nb h) : Out E w0 X S1 ρ1 w S2 (backRho ρ1 ρ2 ord nb hp1.length (hp1.length + (h.length - nb))) w2 tc hp1 (backHp hp1 ord nb h) := by
  -- memory of blocks that were not handed over
  have notin : ∀ b j q, b ∉ ord → ρ1 b = some j → j.base = some q → j.md < 2 → ¬ Xof (ordRho ρ1 ord) q := fun b j q ho hj hq hm hx => by
    obtain ⟨b', j', h1, h2, h3, h4⟩ := B.own hx
    exact ho (B.cx1.inj b b' j j' q hj h2 hq h3 hm h4 ▸ h1)
  have mem : ∀ b j q, b ∉ ord → ρ1 b = some j → j.base = some q → j.md < 2 → w2.heap[q]? = w.heap[q]? := fun b j q ho hj hq hm => B.cx2.bel.block q (B.cx1.lt b j q hj hq hm) (notin b j q ho hj hq hm)
  have dead : ∀ j : BI, (deadI j).md < 2 → False := fun j h => absurd (show 3 < 2 from h) (by omega)
  have hsz := B.cx2.bel.size
  refine ⟨⟨B.cx1.bel.trans (B.cx2.bel.mono (fun q _ hq => B.ownX (.inl hq))), B.cx2.st, fun b j q hj hq hm => ?_, fun b j q hj hq hm => ?_, fun b1 b2 j1 j2 q hj1 hj2 hq1 hq2 hm1 hm2 => ?_⟩, B.st, fun b j hj => ?_, fun b o h2 h1 => B.ownX (B.new b o h2 h1), fun b hb => ?_, fun b blk hb hblk => ?_, fun b j h0 hj => ?_, by rw [backHp_len]; omega⟩
  · rcases B.cases hj with ⟨i, -, -, h1, h2⟩ | ⟨j0, -, -, rfl⟩ | ⟨ho, h1, -⟩ | ⟨i, -, -, -, h2⟩
    · exact B.cx2.lt i j q h2 hq hm
    · exact (dead j0 hm).elim
    · exact Nat.lt_of_lt_of_le (B.cx1.lt b j q h1 hq hm) hsz
    · exact B.cx2.lt i j q h2 hq hm
  · rcases B.cases hj with ⟨i, -, -, h1, h2⟩ | ⟨j0, -, -, rfl⟩ | ⟨ho, h1, -⟩ | ⟨i, -, -, -, h2⟩
    · obtain ⟨a1, a2⟩ := B.cx2.own i j q h2 hq hm
      exact ⟨B.ownX a1, a2⟩
    · exact (dead j0 hm).elim
    · obtain ⟨a1, a2, a3⟩ := B.cx1.own b j q h1 hq hm
      have hno : ∀ o, S2 q o → S1 q o := fun o h => by
        by_cases hs : S1 q o
        · exact hs
        · rcases B.new q o h hs with h | h
          · exact absurd h (notin b j q ho h1 hq hm)
          · have := B.cx1.lt b j q h1 hq hm; omega
      exact ⟨a1, fun hm0 o hs => a2 hm0 o (hno o hs), fun hm1 o ho' hs => a3 hm1 o ho' (hno o hs)⟩
    · obtain ⟨a1, a2⟩ := B.cx2.own i j q h2 hq hm
      exact ⟨B.ownX a1, a2⟩
  · -- no two share memory
    have cls : ∀ {b j}, backRho ρ1 ρ2 ord nb hp1.length (hp1.length + (h.length - nb)) b = some j → j.base = some q → j.md < 2 → (∃ i, ρ2 i = some j ∧ ((i < nb ∧ ord[i]? = some b) ∨ (nb ≤ i ∧ i < h.length ∧ b = hp1.length + (i - nb)))) ∨ (b ∉ ord ∧ ρ1 b = some j) := fun {b j} hj hq hm => by
      rcases B.cases hj with ⟨i, a, c, h1, h2⟩ | ⟨j0, -, -, rfl⟩ | ⟨ho, h1, -⟩ | ⟨i, a, c, d, h2⟩
      · exact .inl ⟨i, h2, .inl ⟨a, c⟩⟩
      · exact (dead j0 hm).elim
      · exact .inr ⟨ho, h1⟩
      · exact .inl ⟨i, h2, .inr ⟨a, c, d⟩⟩
    have mix : ∀ {b j b' j' i}, b ∉ ord → ρ1 b = some j → j.base = some q → j.md < 2 → ρ2 i = some j' → j'.base = some q → j'.md < 2 → b = b' := fun {b j b' j' i} ho hj hq hm hj' hq' hm' => by
      exfalso
      rcases (B.cx2.own i j' q hj' hq' hm').1 with hx | hx
      · exact notin b j q ho hj hq hm hx
      · have := B.cx1.lt b j q hj hq hm; omega
    rcases cls hj1 hq1 hm1 with ⟨i1, a1, c1⟩ | ⟨a1, c1⟩
    · rcases cls hj2 hq2 hm2 with ⟨i2, a2, c2⟩ | ⟨a2, c2⟩
      · have e := B.cx2.inj i1 i2 j1 j2 q a1 a2 hq1 hq2 hm1 hm2
        subst e
        rcases c1 with ⟨c0, c1⟩ | ⟨c1, -, c1'⟩
        · rcases c2 with ⟨-, c2⟩ | ⟨c2, -, -⟩
          · rw [c1] at c2; injection c2
          · omega
        · rcases c2 with ⟨c2, -⟩ | ⟨-, -, c2'⟩
          · omega
          · rw [c1', c2']
      · exact (mix a2 c2 hq2 hm2 a1 hq1 hm1 : b2 = b1).symm
    · rcases cls hj2 hq2 hm2 with ⟨i2, a2, c2⟩ | ⟨a2, c2⟩
      · exact mix a1 c1 hq1 hm1 a2 hq2 hm2
      · exact B.cx1.inj b1 b2 j1 j2 q c1 c2 hq1 hq2 hm1 hm2
  · -- what was known is known
    by_cases ho : b ∈ ord
    · obtain ⟨i, hi⟩ := inv_mem ho
      have hio := inv_some hi
      rcases Nat.lt_or_ge i nb with hin | hin
      · exact ⟨j, (B.rho_id hin hio _).trans hj, .refl j⟩
      · obtain ⟨j', g1, g2⟩ := B.rows i b hin hio
        rw [hj] at g1; injection g1 with g1; subst g1
        exact ⟨deadI j, by rw [B.rho_row hin hio, hj]; rfl, rfl, fun h => absurd g2 h, fun _ => .inl (Nat.lt_succ_self _)⟩
    · refine ⟨j, ?_, .refl j⟩
      rcases Nat.lt_or_ge b hp1.length with hb | hb
      · rw [B.rho_old hb ho]; exact hj
      · rcases Nat.lt_or_ge b (hp1.length + (h.length - nb)) with hf | hf
        · rw [(B.fr1 b hb hf).1] at hj; exact absurd hj (by simp)
        · unfold backRho
          rw [if_neg (by omega), if_neg (by omega)]; exact hj
  · -- what is not touched
    have ho : b ∉ ord := fun h => hb (B.inn b h).2
    rcases Nat.lt_or_ge b hp1.length with hl | hl
    · refine ⟨B.rho_old hl ho _, ?_, fun j q hj hq hm => mem b j q ho hj hq hm⟩
      rw [backHp_get, if_pos (by omega), if_pos hl]
      cases hi : inv b ord with
      | some i => exact absurd (List.mem_of_getElem? (inv_some hi)) ho
      | none =>
        dsimp only
        rw [List.getD_eq_getElem?_getD, List.getElem?_eq_getElem hl]; rfl
    · rcases Nat.lt_or_ge b (hp1.length + (h.length - nb)) with hf | hf
      · exact absurd (B.fr1 b hl hf).2 hb
      · refine ⟨by unfold backRho; rw [if_neg (by omega), if_neg (by omega)], ?_, fun j q hj hq hm => mem b j q ho hj hq hm⟩
        rw [backHp_get, if_neg (by omega), List.getElem?_eq_none hl]
  · -- what is written
    rw [backHp_get] at hblk
    rcases Nat.lt_or_ge b (hp1.length + (h.length - nb)) with hf | hf
    case inr => rw [if_neg (by omega)] at hblk; exact absurd hblk (by simp)
    rw [if_pos hf] at hblk
    injection hblk with hblk
    have fin : ∀ i, (h.getD i none ≠ none → ∀ j, ρ2 i = some j → backRho ρ1 ρ2 ord nb hp1.length (hp1.length + (h.length - nb)) b = some j) → mvB (sig2 ord nb hp1.length) (fun _ v => some v) false (h.getD i none) = some blk → BR E S2 (backRho ρ1 ρ2 ord nb hp1.length (hp1.length + (h.length - nb))) w2 b blk := fun i hr hm => by
      cases hz : h.getD i none with
      | none => rw [hz] at hm; exact absurd hm (by simp [mvB])
      | some blk0 =>
        rw [hz] at hm
        have hi : h[i]? = some (some blk0) := by
          rw [List.getD_eq_getElem?_getD] at hz
          cases hg : h[i]? with
          | none => rw [hg] at hz; exact absurd hz (by simp)
          | some z => rw [hg] at hz; have : z = some blk0 := hz; rw [this]
        exact mvB_BR (rs := false) B.moves (fun j hj => hr (by rw [hz]; simp) j hj) (B.br i blk0 hi) hm
    by_cases hl : b < hp1.length
    · rw [if_pos hl] at hblk
      cases hi : inv b ord with
      | none =>
        rw [hi] at hblk
        dsimp only at hblk
        have ho : b ∉ ord := fun h => by obtain ⟨i, h'⟩ := inv_mem h; rw [hi] at h'; exact absurd h' (by simp)
        refine .inl ⟨?_, B.rho_old hl ho _, fun j q hj hq hm => mem b j q ho hj hq hm⟩
        rw [List.getD_eq_getElem?_getD, List.getElem?_eq_getElem hl] at hblk
        rw [List.getElem?_eq_getElem hl]
        have : hp1[b] = some blk := hblk
        rw [this]
      | some i =>
        rw [hi] at hblk
        dsimp only at hblk
        have hio := inv_some hi
        by_cases hin : i < nb
        · rw [if_pos hin] at hblk
          refine .inr (fin i (fun _ j hj => ?_) hblk)
          obtain ⟨j', h1, -, h2⟩ := B.idEq hin hio
          rw [hj] at h2; injection h2 with h2; subst h2
          rw [B.rho_id hin hio]; exact h1
        · rw [if_neg hin] at hblk; exact absurd hblk (by simp)
    · rw [if_neg hl] at hblk
      refine .inr (fin _ (fun _ j hj => ?_) hblk)
      unfold backRho
      rw [if_neg hl, if_pos hf]; exact hj
  · rcases B.cases hj with ⟨i, -, -, h1, -⟩ | ⟨j0, -, h1, -⟩ | ⟨-, h1, -⟩ | ⟨i, a, c, d, -⟩
    · rw [h0] at h1; exact absurd h1 (by simp)
    · rw [h0] at h1; exact absurd h1 (by simp)
    · rw [h0] at h1; exact absurd h1 (by simp)
    · subst d
      exact ⟨by omega, by rw [backHp_len]; omega, (B.fr1 _ (by omega) (by omega)).2⟩
end
end
/-! ### a call -/
section
variable {N : Nat → Type} {C : Cfg N} {w0 : World} {X : Nat → Prop} {S S1 : Stab} {w : World} {ρ ρ1 : Rho} {a : Act} {s s' : St N} {p : PV N} {o : Oper} {call : FuncId → List (PV N) → Heap N → Option (List (PV N) × Heap N)}
theorem ord_cx {ord : List Nat} (cx : Cx w0 X S ρ w) (hn : nodupN ord = true) : Cx w (Xof (ordRho ρ ord)) S (ordRho ρ ord) w := by
  refine ⟨BelX.refl _ _, cx.st, fun b i q hi hq hm => ?_, fun b i q hi hq hm => ?_, fun b c i j q hi hj hqi hqj hmi hmj => ?_⟩
  · obtain ⟨b', j, h1, h2, rfl⟩ := ordRho_some hi
    rw [resetI_base] at hq; rw [resetI_md] at hm
    exact cx.lt b' j q h2 hq hm
  · obtain ⟨b', j, h1, h2, rfl⟩ := ordRho_some hi
    refine ⟨.inl ⟨b, _, hi, hq, hm⟩, ?_⟩
    rw [resetI_base] at hq; rw [resetI_md] at hm ⊢
    rw [resetI_n, resetI_es]
    exact (cx.own b' j q h2 hq hm).2
  · obtain ⟨b', i', h1, h2, rfl⟩ := ordRho_some hi
    obtain ⟨c', j', g1, g2, rfl⟩ := ordRho_some hj
    rw [resetI_base] at hqi hqj; rw [resetI_md] at hmi hmj
    have := cx.inj b' c' i' j' q h2 g2 hqi hqj hmi hmj
    subst this
    exact nodupN_inj hn h1 g1
theorem callVals_ok : ∀ (xs : List Operand) (ts : List TypeId), xs.length = ts.length → (∀ x ∈ xs, ∀ t, VR C.E S w ρ (val C t s.env x) (a.eval x)) → VRs C.E S w ρ (callVals C s.env xs ts) (xs.map a.eval)
  | [], [], _, _ => .nil
  | [], _ :: _, h, _ => by simp at h
  | _ :: _, [], h, _ => by simp at h
  | x :: xs, t :: ts, h, hv => .cons _ _ _ _ (hv x (List.mem_cons_self) t) (callVals_ok xs ts (by simpa using h) (fun y hy => hv y (List.mem_cons_of_mem _ hy)))
theorem keepEnv_map (gb : Nat → Option Nat) (gv : Nat → Nat → Option Nat) (e : Env N) : ∀ ts : List Tmp, (keepEnv gb gv e ts).map (·.2) = ts.map fun t => mv gb gv (look e t)
  | [] => rfl
  | t :: ts => by simp only [keepEnv, List.map_cons, keepEnv_map gb gv e ts]
theorem resR_list {E : Enc N} {r : List (PV N)} {u : Value} (h : ResR E S w ρ r u) : ∃ us, VRs E S w ρ r us ∧ ∀ {S' w' ρ'} {qs : List (PV N)}, VRs E S' w' ρ' qs us → VR E S' w' ρ' (oneOrTup qs) u := by
  unfold ResR at h
  match r, h with
  | [p], h =>
    refine ⟨[u], .cons _ _ _ _ h .nil, fun {S' w' ρ' qs} hq => ?_⟩
    cases hq with
    | cons q _ _ _ hq hqs => cases hqs; exact hq
  | [], ⟨vs, hu, hvs⟩ =>
    refine ⟨vs.toList, hvs, fun {S' w' ρ' qs} hq => ?_⟩
    have h0 : vs.toList = [] := by have := hvs.length; exact List.length_eq_zero_iff.mp this.symm
    rw [h0] at hq
    cases hq
    subst hu
    exact .tup [] vs (by rw [h0]; exact .nil)
  | p :: p' :: ps, ⟨vs, hu, hvs⟩ =>
    refine ⟨vs.toList, hvs, fun {S' w' ρ' qs} hq => ?_⟩
    subst hu
    have hl := hq.length
    have hl' := hvs.length
    match qs, hl with
    | q :: q' :: qs, _ => exact .tup _ vs hq
    | [q], hl => rw [← hl'] at hl; simp at hl
    | [], hl => rw [← hl'] at hl; simp at hl
theorem isId_some {hp : Heap N} {b : Nat} (h : isId hp b = true) : ∃ blk, hp[b]? = some (some blk) ∧ isIdB (some blk) = true := by
  unfold isId at h
  split at h
  · exact ⟨_, ‹_›, rfl⟩
  · exact ⟨_, ‹_›, rfl⟩
  · exact absurd h (by simp)
theorem ord_glob {gl : List (Nat × (Obj → Prop))} {ord : List Nat} (cx : Cx w0 X S ρ w) (hg : Glob gl w0 X) : Glob gl w (Xof (ordRho ρ ord)) := fun q hq => by
  obtain ⟨v, h1, h2, h3⟩ := hg q hq
  have hlt : q.1 < w0.heap.size := (Array.getElem?_eq_some_iff.1 h1).1
  refine ⟨v, ?_, h2, ?_⟩
  · rw [← h1]
    exact cx.bel.block q.1 hlt h3
  · rintro ⟨b, i, hi, hq, hm⟩
    obtain ⟨b', j, g1, g2, rfl⟩ := ordRho_some hi
    rw [resetI_base] at hq; rw [resetI_md] at hm
    rcases (cx.own b' j q.1 g2 hq hm).1 with h | h
    · exact h3 h
    · omega
theorem isRow_some {hp : Heap N} {b : Nat} (h : isRow hp b = true) : ∃ md v e c l, hp[b]? = some (some (.row md v e c l)) := by
  unfold isRow at h
  split at h
  · exact ⟨_, _, _, _, _, ‹_›⟩
  · exact absurd h (by simp)
theorem BR.idKind {E : Enc N} {b : Nat} {blk : PB N} (h : BR E S ρ w b blk) (hi : isIdB (some blk) = true) : ∃ j, ρ b = some j ∧ j.kind ≠ 1 := by
  cases blk with
  | box t cs => obtain ⟨i, q, vs, h1, h2, -⟩ := h; exact ⟨i, h1, by omega⟩
  | map nl ck cv m => obtain ⟨i, h1, h2, -⟩ := h; exact ⟨i, h1, by omega⟩
  | row md v e c l => exact absurd hi (by simp [isIdB])
theorem isIdB_mv {gb : Nat → Option Nat} {gv : Nat → Nat → Option Nat} {rs : Bool} {blk : PB N} (h : isIdB (some blk) = true) : isIdB (mvB gb gv rs (some blk)) = true := by
  cases blk <;> first | rfl | exact absurd h (by simp [isIdB])
theorem callK_steps {f : FuncId} {vals : List (PV N)} {args : Array Value} (hcall : CallOK C.P C.E C.T.gl call) (hglob : Glob C.T.gl w0 X) (cx : Cx w0 X S ρ w) (hfresh : ∀ b, s.hp.length ≤ b → b < s'.hp.length → ρ b = none) (hv : VRs C.E S w ρ vals args.toList)
    (ht : touch C s o = tchCall C f vals s.hp) (hb : TchBR S w ρ C s o) (h : callK C call s f vals some2 = some (p, s')) (hrun : (execOp a.eval o).run C.P w = .ok (.enter f args) w) : Steps_ w0 X S w ρ C a s o p s' := by
  unfold callK at h
  dsimp only at h
  obtain ⟨hchk, h9⟩ := bif_true h
  clear h
  rw [Bool.and_eq_true] at hchk
  obtain ⟨hnd, hrows⟩ := hchk
  obtain ⟨r, hr, h⟩ := Option.bind_eq_some_iff.mp h9
  clear h9
  cases hsig : C.T.sig f (handIds (entryS C f vals s.hp) vals.length).length with
  | none => rw [hsig] at h; exact absurd h (by simp)
  | some g =>
    rw [hsig] at h
    dsimp only at h
    -- the caller's state in its form
    have tcT : ∀ b wr, (b, wr) ∈ touch C s o → (b, wr) ∈ tchO C s o s' := fun b wr h => List.mem_append_left _ h
    have know : Know C.E w (tchO C s o s') S ρ s.hp s'.hp.length := ⟨fun b wr hm blk hblk => by
      rcases List.mem_append.mp hm with hm | hm
      · exact hb b wr hm blk hblk
      · have := (made_inv hm).1
        have := (List.getElem?_eq_some_iff.mp hblk).1
        omega, hfresh, fun b h1 h2 => List.mem_append_right _ (made_mem h1 h2)⟩
    have pre0 : PreR C.E w0 X w (tchO C s o s') (fun t => args.getD t undef) S ρ s.hp S ρ ⟨params vals 0, s.hp⟩ := ⟨Out.refl cx, fun t => by
      show VR C.E S w ρ (look (params vals 0) t) (args.getD t undef)
      rw [look_params, if_pos (Nat.zero_le _), Nat.sub_zero]
      cases hp : vals[t]? with
      | none => exact .bad _
      | some q =>
        obtain ⟨v, h1, h2⟩ := hv.get t q hp
        have h1' : args[t]? = some v := by simpa using h1
        rw [Array.getD_eq_getD_getElem?, h1']
        exact h2⟩
    have hlenS : ∀ (vs : List (PV N)) (hh : Heap N), (bif Nat.ble (handIds (entryS C f vals s.hp) vals.length).length hh.length then some2 (oneOrTup (vs.map (mv (sig2 (handOrd (entryS C f vals s.hp) vals.length) (handIds (entryS C f vals s.hp) vals.length).length (entryS C f vals s.hp).hp.length) fun _ v => some v))) ⟨s.env, backHp (entryS C f vals s.hp).hp (handOrd (entryS C f vals s.hp) vals.length) (handIds (entryS C f vals s.hp) vals.length).length hh⟩ else none) = some (p, s') →
        (entryS C f vals s.hp).hp.length ≤ s'.hp.length := fun vs hh h => by
      obtain ⟨-, h⟩ := bif_true h
      injection h with h; injection h with h1 h2
      rw [← h2]
      show _ ≤ (backHp _ _ _ _).length
      rw [backHp_len]; omega
    have hM : (entryS C f vals s.hp).hp.length ≤ s'.hp.length := asSig_any h fun vs hh h => hlenS vs hh h
    obtain ⟨S1, ρ1, pre⟩ := prep_pre (a := entryA C f vals.length) pre0 know hM (fun t b v hm => by
      have hm : .sl b v ∈ slIn (look (params vals 0) t) := hm
      rw [look_params, if_pos (Nat.zero_le _), Nat.sub_zero] at hm
      have hmem : .sl b v ∈ vals.flatMap slIn := by
        cases hp : vals[t]? with
        | none => rw [hp] at hm; exact absurd hm (by simp [slIn])
        | some q => rw [hp] at hm; exact List.mem_flatMap.mpr ⟨q, List.mem_of_getElem? hp, hm⟩
      have htf : (b, Nat.beq (mdOf s.hp b) 0) ∈ touch C s o := by rw [ht]; exact List.mem_append_right _ (tchF_mem hmem)
      exact ⟨hb b _ htf, fun v' e c l h0 => by
        have h1 : mdOf s.hp b = 0 := by
          have h0 : s.hp[b]? = some (some (.row 0 v' e c l)) := h0
          unfold mdOf; rw [h0]
        rw [h1] at htf; exact tcT b true htf⟩) (fun b hm => tcT b true (by rw [ht]; exact List.mem_append_left _ (List.mem_append_left _ (List.mem_map_of_mem hm)))) (.inl rfl)
    have e1 : prep (entryA C f vals.length) ⟨params vals 0, s.hp⟩ = entryS C f vals s.hp := rfl
    rw [e1] at pre
    -- names
    generalize hs1 : entryS C f vals s.hp = s1 at *
    have hhand : ∀ b ∈ handed s1 vals.length, (b, true) ∈ tchO C s o s' := fun b hm => tcT b true (by rw [ht]; unfold tchCall; rw [hs1]; exact List.mem_append_left _ (List.mem_append_right _ (List.mem_map_of_mem hm)))
    have hordm : ∀ b ∈ handOrd s1 vals.length, b ∈ handed s1 vals.length := fun b hm => by
      unfold handOrd handIds at hm
      rcases List.mem_append.mp hm with hm | hm <;> exact (List.mem_filter.mp hm).1
    have hbr1 : ∀ b ∈ handOrd s1 vals.length, ∀ blk, s1.hp[b]? = some (some blk) → BR C.E S1 ρ1 w b blk := fun b hm => pre.out.br (know.br b true (hhand b (hordm b hm)))
    have hidAt : ∀ (i b : Nat), i < (handIds s1 vals.length).length → (handOrd s1 vals.length)[i]? = some b → isId s1.hp b = true := fun i b hi hb => by
      unfold handOrd at hb
      rw [List.getElem?_append_left hi] at hb
      have := List.mem_of_getElem? hb
      unfold handIds at this
      exact (List.mem_filter.mp this).2
    have hrowAt : ∀ (i b : Nat), (handIds s1 vals.length).length ≤ i → (handOrd s1 vals.length)[i]? = some b → isRow s1.hp b = true := fun i b hi hb => by
      refine List.all_eq_true.mp hrows b (List.mem_of_getElem? (i := i - (handIds s1 vals.length).length) ?_)
      rw [List.getElem?_drop, show (handIds s1 vals.length).length + (i - (handIds s1 vals.length).length) = i by omega]
      exact hb
    have hnl : (handIds s1 vals.length).length ≤ (handOrd s1 vals.length).length := by unfold handOrd; rw [List.length_append]; omega
    have hordlt : ∀ b ∈ handOrd s1 vals.length, b < s1.hp.length := fun b hm => by
      obtain ⟨i, hi⟩ := List.getElem?_of_mem hm
      rcases Nat.lt_or_ge i (handIds s1 vals.length).length with hin | hin
      · obtain ⟨blk, h1, -⟩ := isId_some (hidAt i b hin hi)
        exact (List.getElem?_eq_some_iff.mp h1).1
      · obtain ⟨_, _, _, _, _, h1⟩ := isRow_some (hrowAt i b hin hi)
        exact (List.getElem?_eq_some_iff.mp h1).1
    -- what the callee is handed
    have hargs : VRs C.E S1 w (ordRho ρ1 (handOrd s1 vals.length)) ((renum s1 (List.range vals.length) (handOrd s1 vals.length)).env.map (·.2)) args.toList := by
      show VRs _ _ _ _ ((keepEnv _ _ s1.env (List.range vals.length)).map (·.2)) _
      rw [keepEnv_map]
      refine VRs.of_get (by rw [List.length_map, List.length_range]; exact hv.length) (fun t q v hq hv' => ?_)
      rw [List.getElem?_map] at hq
      obtain ⟨t', ht', rfl⟩ := Option.map_eq_some_iff.mp hq
      have ht'' : t' = t := by
        have := (List.getElem?_eq_some_iff.mp ht').2
        rw [List.getElem_range] at this; exact this.symm
      subst ht''
      have := (pre.env t').mv (moves_ord hbr1)
      have h1' : args[t']? = some v := by simpa using hv'
      rwa [Array.getD_eq_getD_getElem?, h1'] at this
    have hC := hcall f _ _ r hr S1 (ordRho ρ1 (handOrd s1 vals.length)) w args (ord_cx pre.out.cx hnd) (ord_glob pre.out.cx hglob) hargs (renum_BR hbr1) (fun i hi => by
      have hi : (handOrd s1 vals.length).length ≤ i := by simpa [renum] using hi
      unfold ordRho
      rw [List.getElem?_eq_none hi]; rfl)
    have hnb : (handIds s1 vals.length).length ≤ nbOf (renum s1 (List.range vals.length) (handOrd s1 vals.length)).hp := by
      show _ ≤ nbOf ((handOrd s1 vals.length).map fun b => mvB (fun b => inv b (handOrd s1 vals.length)) (verNew s1.hp) true (s1.hp.getD b none))
      have e0 : (handOrd s1 vals.length) = handIds s1 vals.length ++ (handed s1 vals.length).filter (fun b => !isId s1.hp b) := rfl
      conv => rhs; rw [e0]
      rw [List.map_append]
      have := nbOf_ids ((handIds s1 vals.length).map fun b => mvB (fun b => inv b (handIds s1 vals.length ++ (handed s1 vals.length).filter (fun b => !isId s1.hp b))) (verNew s1.hp) true (s1.hp.getD b none)) (((handed s1 vals.length).filter (fun b => !isId s1.hp b)).map fun b => mvB (fun b => inv b (handIds s1 vals.length ++ (handed s1 vals.length).filter (fun b => !isId s1.hp b))) (verNew s1.hp) true (s1.hp.getD b none)) (fun z hz => by
        obtain ⟨b, hbm, rfl⟩ := List.mem_map.mp hz
        have hid : isId s1.hp b = true := (List.mem_filter.mp hbm).2
        obtain ⟨blk, g1, g2⟩ := isId_some hid
        rw [List.getD_eq_getElem?_getD, g1]
        exact isIdB_mv g2)
      rwa [List.length_map] at this
    intro K Q hK
    unfold Oper.wp
    rw [hrun]
    refine Calls.mono hC ?_
    rintro e w2 ⟨u, S2, ρ2, rfl, cx2, hst, hnew, hres, hbr2, hid2, hfr2⟩
    obtain ⟨us, hus, hone⟩ := resR_list hres
    obtain ⟨vs, hh, h1, h2, h3, h4⟩ := asSig_ok h hus hbr2
    obtain ⟨hble, h1'⟩ := bif_true h1
    clear h h1
    rw [Nat.ble_eq] at hble
    injection h1' with h1'; injection h1' with e2 e3
    subst e2
    have B : Back C.E w0 X S1 ρ1 w S2 ρ2 w2 (tchO C s o s') s1.hp (handOrd s1 vals.length) (handIds s1 vals.length).length hh := by
      refine ⟨pre.out.cx, hnd, fun i b hi hb' => ?_, fun i b hi hb' => ?_, fun b hm => ⟨hordlt b hm, hhand b (hordm b hm)⟩, ⟨hnl, hble⟩, cx2, hst, hnew, fun i hi => hid2 i (by omega), fun i hi => hfr2 i (by omega), h4, fun b h5 h6 => ?_⟩
      · obtain ⟨blk, g1, g2⟩ := isId_some (hidAt i b hi hb')
        exact (hbr1 b (List.mem_of_getElem? hb') blk g1).idKind g2
      · obtain ⟨_, _, _, _, _, g1⟩ := isRow_some (hrowAt i b hi hb')
        obtain ⟨j, g2, g3, -⟩ := hbr1 b (List.mem_of_getElem? hb') _ g1
        exact ⟨j, g2, g3⟩
      · have hl : s'.hp.length = s1.hp.length + (hh.length - (handIds s1 vals.length).length) := by rw [← e3]; exact backHp_len
        have hle : s.hp.length ≤ s1.hp.length := pre.out.len
        refine ⟨?_, know.new b (by omega) (by omega)⟩
        cases hq : ρ1 b with
        | none => rfl
        | some i => have := pre.out.dom b i (know.fresh b (by omega) (by omega)) hq; omega
    have out : Out C.E w0 X S ρ w S2 (backRho ρ1 ρ2 (handOrd s1 vals.length) (handIds s1 vals.length).length s1.hp.length (s1.hp.length + (hh.length - (handIds s1 vals.length).length))) w2 (tchO C s o s') s.hp s'.hp := by
      have := pre.out.trans B.out
      rw [← e3] at this ⊢
      exact this
    exact hK u w2 S2 _ out (hone (h2.map _ (fun _ _ h => h.mv B.moves)))
theorem callI_steps {f : FuncId} {vals : List (PV N)} {args : Array Value} (hcall : CallOK C.P C.E C.T.gl call ∧ InpOK C.T ∧ Glob C.T.gl w0 X) (cx : Cx w0 X S ρ w) (hfresh : ∀ b, s.hp.length ≤ b → b < s'.hp.length → ρ b = none) (hv : VRs C.E S w ρ vals args.toList)
    (ht : touch C s o = tchI C f vals s.hp) (hb : TchBR S w ρ C s o) (h : callI C call s f vals some2 = some (p, s')) (hrun : (execOp a.eval o).run C.P w = .ok (.enter f args) w) : Steps_ w0 X S w ρ C a s o p s' := by
  unfold callI at h
  unfold tchI at ht
  cases hq : C.T.inp f with
  | none => rw [hq] at h ht; exact callK_steps hcall.1 hcall.2.2 cx hfresh hv ht hb h hrun
  | some q =>
    rw [hq] at h ht
    dsimp only at h ht
    split at h
    · rename_i b v
      dsimp only at ht
      split at h
      · rename_i v' e c l hh
        obtain ⟨hvv, h9⟩ := bif_true h
        clear h
        have hvv := Nat.eq_of_beq_eq_true hvv
        subst hvv
        split at h9
        · rename_i hc _
          subst hc
          injection h9 with h9; injection h9 with h1 h2; subst h1 h2
          have htt : (b, true) ∈ touch C s o := by rw [ht]; simp
          obtain ⟨i, g1, g2, g3, g4, g5, g6, g7, -⟩ := hb b true htt _ hh
          have g7 := g7 (by omega)
          obtain ⟨A, hA⟩ : ∃ A, args = #[A] := by
            have := hv.length
            obtain ⟨l⟩ := args
            match l, this with
            | [x], _ => exact ⟨x, rfl⟩
          subst hA
          have hA : A = .slice (rowAt i.base) i.n i.cap := by
            cases hv with
            | cons _ _ _ _ h0 _ =>
              cases h0 with
              | sl _ _ n cap j B k1 k2 k3 k4 =>
                rw [g1] at k1; injection k1 with k1; subst k1
                obtain ⟨r1, r2, r3⟩ := k4 g4
                rw [r1, r2, r3]
          subst hA
          have hown : ∀ g, i.base = some g → g < w.heap.size ∧ ∀ o, ¬ S g o := fun g hg => ⟨cx.lt b i g g1 hg (by omega), (cx.own b i g g1 hg (by omega)).2.1 g3⟩
          obtain ⟨hlen, hC⟩ := hcall.2.1 f q hq S w i e l g3 g7 hown
          have hl0 : castL rfl l = l := rfl
          rw [g6] at hrun
          have hbl : b < s.hp.length := (List.getElem?_eq_some_iff.mp hh).1
          intro K Q hK
          unfold Oper.wp
          rw [hrun]
          refine Calls.mono hC ?_
          rintro en w2 ⟨rfl, hg, hrow⟩
          refine hK _ w2 S _ (chg_out (i' := i) cx g1 g3 hg (.refl _) g3 (.inl rfl) (fun hc => ?_) (List.mem_append_left _ htt) hbl) (.tup [] #[] .nil)
          have e0 : setRho ρ b i = ρ := by funext c; unfold setRho; by_cases e : c = b <;> simp [e, g1]
          rw [e0]
          exact ⟨i, g1, g2, g3, g4, g5, by rw [g6]; exact hlen.symm, fun _ => hrow hc, fun hm => by omega⟩
        · exact absurd h9 (by simp)
      · exact absurd h (by simp)
    · exact absurd h (by simp)
theorem call_steps {c : Call} {x : Operand} (hcall : CallOK C.P C.E C.T.gl call ∧ InpOK C.T ∧ Glob C.T.gl w0 X) (cx : Cx w0 X S ρ w) (hfresh : ∀ b, s.hp.length ≤ b → b < s'.hp.length → ρ b = none) (ho : o.op = .call c) (hc : c.callee = .value x) (h : stepOp C call s o some2 = some (p, s')) (hv : OpsVR C.E S w ρ s a o) (hb : TchBR S w ρ C s o) : Steps_ w0 X S w ρ C a s o p s' := by
  obtain ⟨callee, args, ats⟩ := c
  dsimp only at hc
  subst hc
  simp only [stepOp, ho] at h
  have hx := at_VR (C := C) hv 0 (x := x) (by simp [ho, Op.operands, Call.operands])
  have hargs : ∀ y ∈ args.toList, ∀ t, VR C.E S w ρ (val C t s.env y) (a.eval y) := fun y hy t => at_VR (C := C) hv t (by simp [ho, Op.operands, Call.operands]; right; simpa using hy)
  have ht : touch C s o = (match val C 0 s.env x with | .fn f caps => tchI C f (callVals C s.env args.toList ats.toList ++ caps) s.hp | _ => []) := by simp only [touch, ho] <;> rfl
  split at h
  · rename_i f caps hpx
    rw [hpx] at hx ht
    dsimp only at ht
    generalize hu : a.eval x = u at hx
    cases hx with
    | fn _ _ cvs hcaps =>
      cases hf : C.P.funcs[f]? with
      | none => rw [hf] at h; exact absurd h (by simp)
      | some fn =>
        rw [hf] at h
        dsimp only at h
        obtain ⟨hq, h⟩ := bif_true h
        rw [Bool.and_eq_true, Bool.and_eq_true] at hq
        obtain ⟨⟨hb1, hb2⟩, hb3⟩ := hq
        have hsz := Nat.eq_of_beq_eq_true hb2
        have hA := (callVals_ok (C := C) (s := s) (a := a) args.toList ats.toList (by simpa using hsz) hargs).append hcaps
        have hrun : (execOp a.eval o).run C.P w = .ok (.enter f (args.map a.eval ++ cvs)) w := by
          have hnone : fn.body.isNone = false := by cases hb : fn.body <;> simp_all
          have hname : (fn.name == "runtime.NumGoroutine") = false := by simpa using hb3
          simp only [execOp, ho, resolve, hu, Deferred.ofValue, pure_bind, invoke, callFunc, Sem.run_bind, run_program, Result.andThen_ok, hf]
          rw [hname, hnone]
          simp
        exact callI_steps hcall cx hfresh (by simpa using hA) ht hb h hrun
  · exact absurd h (by simp)
end
/-! ### one operation -/
section
variable {N : Nat → Type} {C : Cfg N} {w0 : World} {X : Nat → Prop} {S S1 : Stab} {w : World} {ρ ρ1 : Rho} {a : Act} {s s' : St N} {p : PV N} {o : Oper} {call : FuncId → List (PV N) → Heap N → Option (List (PV N) × Heap N)}
abbrev st1 (C : Cfg N) (call : FuncId → List (PV N) → Heap N → Option (List (PV N) × Heap N)) (s : St N) (o : Oper) : Option (PV N × St N) := stepOp C call s o some2
theorem op_steps (hE : EncOK C.E) (hcall : CallOK C.P C.E C.T.gl call ∧ InpOK C.T ∧ Glob C.T.gl w0 X) (cx : Cx w0 X S ρ w) (hfresh : ∀ b, s.hp.length ≤ b → b < s'.hp.length → ρ b = none) (h : st1 C call s o = some (p, s')) (hv : OpsVR C.E S w ρ s a o) (hb : TchBR S w ρ C s o) (hlen : s.hp.length ≤ s'.hp.length) : Steps_ w0 X S w ρ C a s o p s' := by
  have fresh1 : ∀ {blk : Option (PB N)} {e : Env N} {hp : Heap N}, hp.length = s.hp.length → s' = ⟨e, hp ++ [blk]⟩ → ρ s.hp.length = none := fun hl hs => hfresh _ (Nat.le_refl _) (by rw [hs]; simp [hl])
  cases ho : o.op with
  | move x => exact (move_ok ho h hv).steps cx
  | assign x => exact (assign_ok ho h hv).steps cx
  | pick c x y => exact (pick_ok ho h hv).steps cx
  | load t x => exact (load_op ho h hv hb).steps cx
  | binOp op t x y t' => exact (bin_ok ho h hv).steps cx
  | unOp op t x => exact (unop_ok ho h hv).steps cx
  | nilCheck x => exact (nilCheck_ok ho h hv).steps cx
  | fieldAddr t x f => exact (fieldAddr_ok ho h hv).steps cx
  | field t x f => exact (field_ok ho h hv).steps cx
  | indexAddr t x y => exact (indexAddr_ok ho h hv hb).steps cx
  | index t x y => exact (index_ok ho h hv).steps cx
  | lookup t x y k => exact (lookup_ok ho h hv hb).steps cx
  | extract x i => exact (extract_ok ho h hv).steps cx
  | build t ps => exact (build_ok ho h hv).steps cx
  | makeFunc f fs cs => exact (makeFunc_ok ho h hv).steps cx
  | convert t t' x => exact convert_steps cx hfresh ho h hv hb
  | slice t x l hh m => exact slice_steps cx ho h hv hb
  | buildSlice t n ps =>
    refine buildSlice_steps hE cx ?_ ho h hv hb
    have h' := h
    simp only [st1, stepOp, ho] at h'
    split at h'
    · exact absurd h' (by simp)
    · split at h'
      · obtain ⟨_, -, h'⟩ := Option.bind_eq_some_iff.mp h'
        obtain ⟨_, -, h'⟩ := Option.bind_eq_some_iff.mp h'
        obtain ⟨-, h'⟩ := bif_true h'
        injection h' with h'; injection h' with _ h'
        exact fresh1 (frzVs_len _ _) h'.symm
      · exact absurd h' (by simp)
  | makeSlice t n cp =>
    refine makeSlice_steps hE cx ?_ ho h hv
    have h' := h
    simp only [st1, stepOp, ho] at h'
    split at h'
    · exact absurd h' (by simp)
    · split at h'
      · obtain ⟨_, -, h'⟩ := Option.bind_eq_some_iff.mp h'
        obtain ⟨-, h'⟩ := bif_true h'
        obtain ⟨-, h'⟩ := chk_true h'
        obtain ⟨-, h'⟩ := chk_true h'
        obtain ⟨-, h'⟩ := chk_true h'
        obtain ⟨-, h'⟩ := chk_true h'
        injection h' with h'; injection h' with _ h'
        exact fresh1 rfl h'.symm
      · exact absurd h' (by simp)
  | makeMap t rs =>
    refine makeMap_steps cx ?_ ho h
    have h' := h
    simp only [st1, stepOp, ho] at h'
    cases rs with
    | some r => exact absurd h' (by simp)
    | none =>
      dsimp only at h'
      split at h'
      · exact absurd h' (by simp)
      · split at h'
        · injection h' with h'; injection h' with _ h'
          exact fresh1 rfl h'.symm
        · exact absurd h' (by simp)
  | mapUpdate t x i y => exact mapUpdate_steps hE cx ho h hv hb
  | alloc t =>
    refine alloc_steps cx ?_ ho h
    have h' := h
    simp only [st1, stepOp, ho] at h'
    split at h'
    · injection h' with h'; injection h' with _ h'
      exact fresh1 rfl h'.symm
    · exact absurd h' (by simp)
  | box t x =>
    refine box_steps cx ?_ ho h hv
    have h' := h
    simp only [st1, stepOp, ho] at h'
    split at h'
    · injection h' with h'; injection h' with _ h'
      exact fresh1 rfl h'.symm
    · exact absurd h' (by simp)
  | store t x y => exact store_steps hE cx ho h hv hb
  | call c =>
    cases hc : c.callee with
    | value x => exact call_steps hcall cx hfresh ho hc h hv hb
    | invoke x m => simp only [st1, stepOp, ho, hc] at h; exact absurd h (by simp)
    | builtin b =>
      by_cases hb' : b = .len
      · subst hb'; exact (len_ok ho hc h hv hb).steps cx
      · by_cases hb1 : b = .max
        · subst hb1; exact (max_ok ho hc h hv).steps cx
        · by_cases hb3 : b = .append
          · subst hb3; exact append_steps cx hfresh ho hc h hv hb
          · by_cases hb2 : b = .min
            · subst hb2; exact (min_ok ho hc h hv).steps cx
            · simp only [st1, stepOp, ho, hc] at h
              cases b <;> first | exact absurd rfl hb' | exact absurd rfl hb1 | exact absurd rfl hb2 | exact absurd rfl hb3 | exact absurd h (by simp)
  | _ => simp only [st1, stepOp, ho] at h; exact absurd h (by simp)
/-! #### an operation's answer, and how it is carried on -/
theorem forkB_bind {q : PV N} {R R' : Type} {G : Bool → Option R} (K : R → Option R') : (forkB q G).bind K = forkB q (fun b => (G b).bind K) := by
  unfold forkB
  cases q with
  | bool b => dsimp only; split <;> rfl
  | prop p d => dsimp only; split <;> rfl
  | _ => rfl
variable {R : Type} {F : PV N → St N → Option R}
theorem loadFrom_bind {t : TypeId} {cs : List (PV N)} {j : Nat} {F : PV N → Option R} : loadFrom C t cs j F = (loadFrom C t cs j some).bind F := by
  unfold loadFrom
  cases C.P.underlying t with
  | none => rfl
  | some d =>
    dsimp only
    cases aggSize C t with
    | some z => dsimp only; cases Nat.ble (j + z) cs.length <;> rfl
    | none => dsimp only; cases cs[j]? <;> rfl
theorem loadFrom_st {t : TypeId} {cs : List (PV N)} {j : Nat} : loadFrom C t cs j (fun v => F v s) = (loadFrom C t cs j (fun v => some2 v s)).bind (fun x => F x.1 x.2) := by
  rw [loadFrom_bind, loadFrom_bind (F := fun v => some2 v s)]
  cases loadFrom C t cs j some <;> rfl
theorem arithS_bind {op : BinOp} {k : IntKind} {x y : Int} {F : PV N → Option R} : arithS op k x y F = (arithS op k x y some).bind F := by
  unfold arithS
  cases op <;> first | rfl | (dsimp only; split <;> rfl)
theorem chk_bind {q : Prop} [Decidable q] {x : Option R} {R' : Type} (K : R → Option R') : (chk q x).bind K = chk q (x.bind K) := by
  unfold chk; split <;> rfl
theorem arith_bind {t : TypeId} {op : BinOp} {p q : PV N} {F : PV N → Option R} : arith C t op p q F = (arith C t op p q some).bind F := by
  unfold arith
  cases p <;> cases q <;> try rfl
  all_goals dsimp only
  · split
    · split <;> rfl
    · cases op <;> first | rfl | (dsimp only; split <;> rfl)
  · split
    · cases op <;> rfl
    · rfl
  · split
    · cases op <;> rfl
    · rfl
  · split
    · cases op <;> rfl
    · rfl
  · cases op <;> first | rfl | (dsimp only; split <;> first | rfl | (split <;> rfl) | (rw [arithS_bind]; rfl) | exact arithS_bind)
  · cases op <;> first | rfl | (dsimp only; rw [chk_bind]; rfl)
  · split
    · rename_i fs _
      cases (C.P.stoodInHeld t || C.P.eqGuardType C.P.depth t) with
      | true => rfl
      | false =>
        simp only [cond_false]
        split
        · cases op <;> rfl
        · rfl
    · rfl
theorem arith_st {t : TypeId} {op : BinOp} {p q : PV N} : arith C t op p q (fun v => F v s) = (arith C t op p q (fun v => some2 v s)).bind (fun x => F x.1 x.2) := by
  rw [arith_bind, arith_bind (F := fun v => some2 v s)]
  cases arith C t op p q some <;> rfl
theorem asC_bind {c : TC} {q : PV N} {R R' : Type} {G : PV N → Option R} (K : R → Option R') : (asC c q G).bind K = asC c q (fun v => (G v).bind K) := by
  cases c with
  | int k => simp only [asC, asI]; cases q <;> first | rfl | (dsimp only; split <;> rfl)
  | bool => simp only [asC, asB]; cases q <;> rfl
  | str => simp only [asC, asS]; cases q <;> rfl
  | list c => simp only [asC, asL]; cases q <;> first | rfl | (dsimp only; split <;> rfl)
  | named i => rfl
theorem asCs_bind {R R' : Type} (K : R → Option R') : ∀ {cs : List TC} {q : List (PV N)} {G : List (PV N) → Option R}, (asCs cs q G).bind K = asCs cs q (fun v => (G v).bind K)
  | [], [], G => rfl
  | [], _ :: _, G => rfl
  | _ :: _, [], G => rfl
  | c :: cs, p :: ps, G => by simp only [asCs, consR]; rw [asC_bind]; congr 1; funext v; exact asCs_bind K
theorem bif_bind {b : Bool} {R R' : Type} {x : Option R} (K : R → Option R') : (bif b then x else none).bind K = bif b then x.bind K else none := by cases b <;> rfl
theorem asH_bind {q v : PV N} {R R' : Type} {x : Option R} (K : R → Option R') : (asH q v x).bind K = asH q v (x.bind K) := by
  unfold asH
  split <;> first | exact bif_bind K | rfl
theorem asSh_bind {g : Sh} {q : PV N} {R R' : Type} {G : PV N → Option R} (K : R → Option R') : (asSh g q G).bind K = asSh g q (fun v => (G v).bind K) := by
  cases g with
  | val c => exact asC_bind K
  | agg l => simp only [asSh, asA]; cases q <;> first | rfl | exact asCs_bind K
  | sl b => exact asH_bind K
  | bptr b j => exact asH_bind K
  | mp b => exact asH_bind K
  | err => simp only [asSh, asErr]; cases q <;> rfl
  | nsl e c =>
    simp only [asSh, asN]
    cases q with
    | vsl nl c' l =>
      cases nl with
      | some e' => rfl
      | none => dsimp only; split <;> rfl
    | _ => rfl
theorem asSc_bind {g : Sc} {q : PV N} {R R' : Type} {G : PV N → Option R} (K : R → Option R') : (asSc g q G).bind K = asSc g q (fun v => (G v).bind K) := by
  cases g with
  | val c => exact asC_bind K
  | sl b => exact asH_bind K
  | bptr b j => exact asH_bind K
  | mp b => exact asH_bind K
theorem asScs_bind {R R' : Type} (K : R → Option R') : ∀ {cs : List Sc} {q : List (PV N)} {G : List (PV N) → Option R}, (asScs cs q G).bind K = asScs cs q (fun v => (G v).bind K)
  | [], [], G => rfl
  | [], _ :: _, G => rfl
  | _ :: _, [], G => rfl
  | c :: cs, p :: ps, G => by simp only [asScs, consR]; rw [asSc_bind]; congr 1; funext v; exact asScs_bind K
theorem asShs_bind {R R' : Type} (K : R → Option R') : ∀ {cs : List Sh} {q : List (PV N)} {G : List (PV N) → Option R}, (asShs cs q G).bind K = asShs cs q (fun v => (G v).bind K)
  | [], [], G => rfl
  | [], _ :: _, G => rfl
  | _ :: _, [], G => rfl
  | c :: cs, p :: ps, G => by simp only [asShs, consR]; rw [asSh_bind]; congr 1; funext v; exact asShs_bind K
theorem asSb_bind {g : Sb} {q : Option (PB N)} {R R' : Type} {G : Option (PB N) → Option R} (K : R → Option R') : (asSb g q G).bind K = asSb g q (fun v => (G v).bind K) := by
  cases g with
  | box bt l =>
    simp only [asSb, asBox]
    split
    · rename_i bt' cs
      cases Nat.beq bt bt' <;> first | rfl | exact asScs_bind K
    · rfl
  | row md e c =>
    simp only [asSb, asRow]
    split
    · rename_i md' e' c' l
      generalize (Nat.beq md md' && Nat.beq e e') = z
      cases z with
      | false => rfl
      | true => simp only [cond_true]; split <;> rfl
    · rfl
  | map nl ck cv =>
    simp only [asSb, asMap]
    split
    · rename_i nl' ck' cv' m
      generalize (nl == nl') = z
      cases z with
      | false => rfl
      | true => simp only [cond_true]; split <;> rfl
    · rfl
theorem asSbs_bind {R R' : Type} (K : R → Option R') : ∀ {cs : List Sb} {q : Heap N} {G : Heap N → Option R}, (asSbs cs q G).bind K = asSbs cs q (fun v => (G v).bind K)
  | [], [], G => rfl
  | [], _ :: _, G => rfl
  | _ :: _, [], G => rfl
  | c :: cs, p :: ps, G => by simp only [asSbs, consR]; rw [asSb_bind]; congr 1; funext v; exact asSbs_bind K
theorem asSig_bind {g : Sig} {q : List (PV N) × Heap N} {R R' : Type} {G : List (PV N) → Heap N → Option R} (K : R → Option R') : (asSig g q G).bind K = asSig g q (fun v h => (G v h).bind K) := by
  unfold asSig
  rw [asSbs_bind]
  congr 1
  funext h
  exact asShs_bind K
theorem callK_bind {f : FuncId} {vals : List (PV N)} : callK C call s f vals F = (callK C call s f vals some2).bind (fun x => F x.1 x.2) := by
  unfold callK
  dsimp only
  generalize (nodupN _ && _) = z
  cases z with
  | false => rfl
  | true =>
    simp only [cond_true]
    rw [Option.bind_assoc]
    congr 1
    funext r
    cases C.T.sig f (handIds (entryS C f vals s.hp) vals.length).length with
    | none => rfl
    | some g =>
      dsimp only
      rw [asSig_bind]
      congr 1
      funext vs h
      generalize Nat.ble _ h.length = z
      cases z <;> rfl
theorem callI_bind {f : FuncId} {vals : List (PV N)} : callI C call s f vals F = (callI C call s f vals some2).bind (fun x => F x.1 x.2) := by
  unfold callI
  split
  · exact callK_bind
  · split
    · split
      · cases Nat.beq _ _ with
        | false => rfl
        | true => simp only [cond_true]; split <;> rfl
      · rfl
    · rfl
theorem bnd_bind {x : Option Operand} {e : Env N} {d : Int} {R R' : Type} {G : Int → Option R} (K : R → Option R') : (bnd C e x d G).bind K = bnd C e x d (fun n => (G n).bind K) := by
  unfold bnd
  cases x with
  | none => rfl
  | some y => dsimp only; cases val C 0 e y <;> rfl
theorem cutK_bind {e : Env N} {n : Nat} {lo hi : Option Operand} {R R' : Type} {G : Nat → Nat → Option R} (K : R → Option R') : (cutK C e n lo hi G).bind K = cutK C e n lo hi (fun l m => (G l m).bind K) := by
  unfold cutK
  rw [bnd_bind]
  congr 1
  funext h
  rw [bnd_bind]
  congr 1
  funext l
  (repeat' split) <;> rfl
theorem cut3_bind {e : Env N} {n : Nat} {lo : Option Operand} {hi mx : Operand} {R R' : Type} {G : Nat → Nat → Option R} (K : R → Option R') : (cut3 C e n lo hi mx G).bind K = cut3 C e n lo hi mx (fun l m => (G l m).bind K) := by
  unfold cut3
  rw [bnd_bind]
  congr 1
  funext m
  rw [chk_bind, chk_bind, cutK_bind]
theorem stepOp_bind : stepOp C call s o F = (st1 C call s o).bind (fun x => F x.1 x.2) := by
  unfold st1 stepOp
  cases o.op with
  | move x => rfl
  | assign x => rfl
  | pick c x y => dsimp only; rw [forkB_bind]; congr 1; funext b; cases b <;> rfl
  | alloc t => dsimp only; cases zeroOf C t <;> rfl
  | box t x => dsimp only; cases cells? (val C t s.env x) <;> rfl
  | nilCheck x => dsimp only; cases val C 0 s.env x <;> rfl
  | load t x =>
    dsimp only
    cases val C t s.env x <;> try rfl
    · exact loadFrom_st
    · dsimp only
      split
      · exact loadFrom_st
      · rfl
    · dsimp only
      split
      · rename_i v' _ _ _ _
        generalize Nat.beq _ v' = q
        cases q with
        | false => rfl
        | true =>
          simp only [cond_true]
          split
          · exact loadFrom_st
          · rfl
      · rfl
  | store t x y =>
    dsimp only
    cases cells? (val C t s.env y) with
    | none => rfl
    | some vs =>
      dsimp only
      generalize (Nat.beq vs.length (C.P.cellsOf t) && vs.all PV.isCell && (C.P.info? t).isSome) = q
      cases q with
      | false => rfl
      | true =>
        simp only [cond_true]
        cases val C t s.env x <;> try rfl
        · dsimp only
          split
          · rename_i cs _; generalize Nat.ble _ cs.length = q; cases q <;> rfl
          · rfl
        · dsimp only
          split
          · rename_i v' _ c l _
            generalize (Nat.beq _ v' && Nat.ble _ _) = q
            cases q with
            | false => rfl
            | true => simp only [cond_true]; rw [Option.bind_assoc]; rfl
          · rfl
  | binOp op t x y t' =>
    dsimp only
    unfold arithI
    cases slc C op t (val C t s.env x) (val C t s.env y) with
    | some z => dsimp only; unfold chk; split <;> rfl
    | none => cases ifc C op t x y (val C t s.env x) (val C t s.env y) with | some v => rfl | none => exact arith_st
  | unOp op t x => dsimp only; cases op <;> cases val C o.type s.env x <;> rfl
  | convert t t' x =>
    dsimp only
    split <;> try rfl
    split
    · rw [Option.bind_assoc]; rfl
    · rfl
  | fieldAddr t x f =>
    dsimp only
    cases fieldOf C t f with
    | none => rfl
    | some fd =>
      dsimp only
      generalize Nat.beq (C.P.cellsOf fd.type) 0 = q
      cases q with
      | true => rfl
      | false => simp only [cond_false]; cases C.P.info? fd.type <;> cases val C t s.env x <;> rfl
  | field t x f =>
    dsimp only
    cases fieldOf C t f with
    | none => rfl
    | some fd =>
      cases val C t s.env x <;> try rfl
      exact loadFrom_st
  | indexAddr t x y =>
    dsimp only
    split
    · split
      · generalize Nat.beq _ _ = q
        cases q with
        | false => rfl
        | true => simp only [cond_true]; (repeat' split) <;> rfl
      · split
        · generalize (Nat.beq _ _ && Nat.beq _ _) = q
          cases q with
          | false => rfl
          | true => simp only [cond_true]; (repeat' split) <;> rfl
        · rfl
      · rfl
    · split
      · (repeat' split) <;> rfl
      · (repeat' split) <;> rfl
      · rfl
    · rfl
  | index t x y =>
    dsimp only
    split
    · (repeat' split) <;> rfl
    · split
      · split
        · split
          · exact loadFrom_st
          · rfl
        · rfl
      · rfl
    · rfl
  | slice t x lo hh m =>
    cases m with
    | some m =>
      cases hh with
      | none => rfl
      | some hi =>
        dsimp only
        split
        · split
          · generalize (Nat.beq _ _ && _) = q
            cases q with
            | false => rfl
            | true => simp only [cond_true]; rw [cut3_bind]; rfl
          · rfl
        · rfl
    | none =>
      dsimp only
      split
      · rw [cutK_bind]; rfl
      · split
        · generalize (Nat.beq _ _ && _) = q
          cases q with
          | false => rfl
          | true => simp only [cond_true]; rw [cutK_bind]; rfl
        · rfl
      · rfl
  | extract x i =>
    dsimp only
    cases val C o.type s.env x <;> try rfl
    dsimp only
    split <;> rfl
  | build t ps => dsimp only; rw [Option.bind_assoc]; rfl
  | buildSlice t n ps =>
    dsimp only
    split
    · rfl
    · split
      · rw [Option.bind_assoc]
        congr 1; funext y
        rw [Option.bind_assoc]
        congr 1; funext l
        generalize (_ && _ && _ && _) = q
        cases q <;> rfl
      · rfl
  | makeSlice t n cp =>
    dsimp only
    split
    · rfl
    · split
      · rw [Option.bind_assoc]
        congr 1; funext y
        generalize (_ && _ && _ && _) = q
        cases q with
        | false => rfl
        | true => simp only [cond_true]; rw [chk_bind, chk_bind, chk_bind, chk_bind]; rfl
      · rfl
  | makeFunc f fs cs =>
    cases f <;> try rfl
    dsimp only
    generalize Nat.beq fs.size 0 = q
    cases q <;> rfl
  | makeMap t r =>
    cases r with
    | some r => rfl
    | none =>
      dsimp only
      split
      · rfl
      · split <;> rfl
  | lookup t x y k =>
    dsimp only
    split
    · rfl
    · split
      · split
        · generalize (keyOK _ _ _ && aggOK _ _ _) = q
          cases q with
          | false => rfl
          | true =>
            simp only [cond_true]
            rw [Option.bind_assoc]
            congr 1; funext k'
            unfold optK
            split <;> rfl
        · rfl
      · rfl
  | mapUpdate t x i y =>
    dsimp only
    split
    · rfl
    · split
      · split
        · generalize keyOK _ _ _ = q
          cases q with
          | false => rfl
          | true =>
            simp only [cond_true]
            rw [Option.bind_assoc]
            congr 1; funext k'
            rw [Option.bind_assoc]
            congr 1; funext y'
            rw [Option.bind_assoc]
            rfl
        · rfl
      · rfl
  | call c =>
    dsimp only
    cases c.callee with
    | invoke x m => rfl
    | value x =>
      dsimp only
      cases val C 0 s.env x <;> try rfl
      rename_i f caps
      dsimp only
      cases C.P.funcs[f]? with
      | none => rfl
      | some fn =>
        dsimp only
        generalize (fn.body.isSome && Nat.beq c.args.size c.argTypes.size && !(fn.name == "runtime.NumGoroutine")) = q
        cases q with
        | false => rfl
        | true => exact callI_bind
    | builtin b =>
      cases b <;> try rfl
      · -- append
        dsimp only
        split
        · split
          · rfl
          · split
            · generalize (_ && _ && _ && _ && _) = q
              cases q with
              | false => rfl
              | true =>
                simp only [cond_true]
                rw [Option.bind_assoc]
                congr 1; funext l2
                split
                · split
                  · rename_i md v' e' c' l _
                    generalize (Nat.beq _ v' && _) = q
                    cases q with
                    | false => rfl
                    | true =>
                      simp only [cond_true]
                      split
                      · rw [chk_bind]
                        congr 1
                        unfold grownK
                        (split <;> rfl)
                      · rfl
                  · rfl
                · rw [chk_bind]; rfl
                · rfl
            · rfl
        · rfl
      · -- len
        dsimp only
        split
        · split
          · rfl
          · split
            · generalize Nat.beq _ _ = q; cases q <;> rfl
            · rfl
          · rfl
          · rfl
        · rfl
      · -- max
        dsimp only
        split
        · rw [Option.bind_assoc]; rfl
        · rfl
      · -- min
        dsimp only
        split
        · rw [Option.bind_assoc]; rfl
        · rfl
  | _ => rfl
theorem stepOp_pair {r : R} (h : stepOp C call s o F = some r) : ∃ v s1, st1 C call s o = some (v, s1) ∧ F v s1 = some r := by
  rw [stepOp_bind] at h
  obtain ⟨x, h1, h2⟩ := Option.bind_eq_some_iff.mp h
  exact ⟨x.1, x.2, h1, h2⟩
end
/-! #### what an operation leaves as it was, by the state alone -/
section
variable {N : Nat → Type} {C : Cfg N} {s s' : St N} {o : Oper} {call : FuncId → List (PV N) → Heap N → Option (List (PV N) × Heap N)}
def Row0 (hp : Heap N) (b : Nat) : Prop := ∃ v e c l, hp[b]? = some (some (.row 0 v e c l))
theorem frzB_keep {hp : Heap N} {b c v : Nat} (h : c = b → ¬ Row0 hp b) : (frzB hp c v)[b]? = hp[b]? := by
  rw [frzB_get]
  by_cases e : b = c
  · subst e
    rw [if_pos rfl]
    have h := h rfl
    cases hh : hp[b]? with
    | none => rfl
    | some z =>
      cases z with
      | none => rfl
      | some blk =>
        cases blk with
        | row md v' e' cc l =>
          dsimp only
          have hmd : md ≠ 0 := fun e => h ⟨v', e', cc, l, by rw [hh, e]⟩
          rw [frzMd_ge md hmd]
          cases Nat.beq v v' <;> rfl
        | _ => rfl
  · rw [if_neg e]
theorem frzV_keep {hp : Heap N} {b : Nat} {q : PV N} (h : ∀ v, q = .sl b v → ¬ Row0 hp b) : (frzV hp q)[b]? = hp[b]? := by
  cases q with
  | sl c v => exact frzB_keep (fun e => h v (by rw [e]))
  | _ => rfl
theorem frzVs_keep {b : Nat} : ∀ {vs : List (PV N)} {hp : Heap N}, (∀ v, .sl b v ∈ vs → ¬ Row0 hp b) → (frzVs hp vs)[b]? = hp[b]?
  | [], _, _ => rfl
  | q :: vs, hp, h => by
    have h1 : (frzV hp q)[b]? = hp[b]? := frzV_keep (fun v e => h v (by rw [e]; exact List.mem_cons_self))
    rw [frzVs, frzVs_keep (fun v hm => by
      have := h v (List.mem_cons_of_mem _ hm)
      unfold Row0 at this ⊢
      rw [h1]; exact this)]
    exact h1
theorem frzT_keep {t : Tmp} {b : Nat} (h : ∀ v, .sl b v ∈ slIn (look s.env t) → ¬ Row0 s.hp b) : (frzT s t).hp[b]? = s.hp[b]? := by
  unfold frzT
  split
  · rename_i c v hl
    rw [hl] at h
    exact frzB_keep (fun e => h v (by rw [e]; exact List.mem_singleton.mpr rfl))
  · rfl
  · rename_i cs hl
    rw [hl] at h
    exact frzVs_keep (fun v hm => h v hm)
  · rfl
theorem frzTs_keep {b : Nat} : ∀ (ts : List Tmp) {s : St N}, (∀ t v, .sl b v ∈ slIn (look s.env t) → ¬ Row0 s.hp b) → (frzTs s ts).hp[b]? = s.hp[b]?
  | [], _, _ => rfl
  | t :: ts, s, h => by
    have h1 := frzT_keep (t := t) (h t)
    rw [frzTs, frzTs_keep ts (fun t' v hm => by
      have := h t' v (frzT_sl hm)
      unfold Row0 at this ⊢
      rw [h1]; exact this)]
    exact h1
theorem nilT_keep {t : Tmp} {b : Nat} (hb : b < s.hp.length) : (nilT s t).hp[b]? = s.hp[b]? := by
  unfold nilT
  split
  · exact List.getElem?_append_left hb
  · rfl
theorem nilTs_keep {b : Nat} : ∀ (ts : List Tmp) {s : St N}, b < s.hp.length → (nilTs s ts).hp[b]? = s.hp[b]?
  | [], _, _ => rfl
  | t :: ts, s, hb => by rw [nilTs, nilTs_keep ts (Nat.lt_of_lt_of_le hb (nilT_len s t)), nilT_keep hb]
theorem nilC_keep {b c j : Nat} (hb : b < s.hp.length) (hne : c ≠ b) : (nilC s c j).hp[b]? = s.hp[b]? := by
  unfold nilC
  split
  · split
    · show (s.hp.set c _ ++ _)[b]? = _
      rw [List.getElem?_append_left (by rw [List.length_set]; exact hb), List.getElem?_set_ne hne]
    · rfl
  · rfl
theorem nilCs_keep {b c : Nat} (hne : c ≠ b) : ∀ (n : Nat) {s : St N}, b < s.hp.length → (nilCs s c n).hp[b]? = s.hp[b]?
  | 0, _, _ => rfl
  | n + 1, s, hb => by rw [nilCs, nilC_keep (Nat.lt_of_lt_of_le hb (nilCs_len n s c)) hne, nilCs_keep hne n hb]
theorem nilBs_keep {b : Nat} : ∀ (bs : List Nat) {s : St N}, b < s.hp.length → b ∉ bs → (nilBs s bs).hp[b]? = s.hp[b]?
  | [], _, _, _ => rfl
  | c :: bs, s, hb, hn => by
    rw [nilBs, nilBs_keep bs (Nat.lt_of_lt_of_le hb (nilCs_len _ s c)) (fun h => hn (List.mem_cons_of_mem _ h)), nilCs_keep (fun e => hn (by rw [e]; exact List.mem_cons_self)) _ hb]
theorem row0_md {hp : Heap N} {b : Nat} (h : Row0 hp b) : Nat.beq (mdOf hp b) 0 = true := by
  obtain ⟨v, e, c, l, h⟩ := h
  unfold mdOf; rw [h]; rfl
theorem entry_keep {f : FuncId} {vals : List (PV N)} {hp : Heap N} {b : Nat} (hb : b < hp.length) (hn : (b, true) ∉ tchCall C f vals hp) : (entryS C f vals hp).hp[b]? = hp[b]? := by
  have hn1 : b ∉ midIds (entryA C f vals.length) ⟨params vals 0, hp⟩ := fun h => hn (List.mem_append_left _ (List.mem_append_left _ (List.mem_map_of_mem h)))
  unfold entryS prep
  have l1 : (mid (entryA C f vals.length) ⟨params vals 0, hp⟩).hp[b]? = hp[b]? := by
    unfold mid
    have l2 : b < (frzCs (frzTs (⟨params vals 0, hp⟩ : St N) ((entryA C f vals.length).frz ++ aggTs ⟨params vals 0, hp⟩ (entryA C f vals.length).keep)) (entryA C f vals.length).cel).hp.length := by
      rw [frzCs_len, frzTs_len]; exact hb
    rw [nilTs_keep _ l2]
    show (frzTs (⟨params vals 0, hp⟩ : St N) _).hp[b]? = _
    refine frzTs_keep (s := (⟨params vals 0, hp⟩ : St N)) _ (fun t v hm hr => hn ?_)
    have hm : .sl b v ∈ slIn (look (params vals 0) t) := hm
    rw [look_params, if_pos (Nat.zero_le _), Nat.sub_zero] at hm
    have hmem : .sl b v ∈ vals.flatMap slIn := by
      cases hp' : vals[t]? with
      | none => rw [hp'] at hm; exact absurd hm (by simp [slIn])
      | some q => rw [hp'] at hm; exact List.mem_flatMap.mpr ⟨q, List.mem_of_getElem? hp', hm⟩
    have := tchF_mem (hp := hp) hmem
    rw [row0_md hr] at this
    exact List.mem_append_right _ this
  rw [nilBs_keep _ ?_ hn1, l1]
  have : hp[b]? = some hp[b] := List.getElem?_eq_getElem hb
  rw [this] at l1
  exact (List.getElem?_eq_some_iff.mp l1).1
theorem entry_len {f : FuncId} {vals : List (PV N)} {hp : Heap N} : hp.length ≤ (entryS C f vals hp).hp.length := prep_len (entryA C f vals.length) ⟨params vals 0, hp⟩
/-- An operation leaves the temporaries, and the blocks that it does not write. -/
def Eff (C : Cfg N) (s : St N) (tc : List (Nat × Bool)) (s' : St N) : Prop := s'.env = s.env ∧ s.hp.length ≤ s'.hp.length ∧ ∀ b, (b, true) ∉ tc → b < s.hp.length → s'.hp[b]? = s.hp[b]?
theorem Eff.refl (tc : List (Nat × Bool)) : Eff C s tc s := ⟨rfl, Nat.le_refl _, fun _ _ _ => rfl⟩
theorem Eff.add (tc : List (Nat × Bool)) (z : Option (PB N)) : Eff C s tc ⟨s.env, s.hp ++ [z]⟩ := ⟨rfl, by simp, fun b _ hb => List.getElem?_append_left hb⟩
theorem Eff.set {tc : List (Nat × Bool)} {b : Nat} {z : Option (PB N)} (hb : (b, true) ∈ tc) : Eff C s tc ⟨s.env, s.hp.set b z⟩ := ⟨rfl, by simp, fun c hc _ => List.getElem?_set_ne (fun e => hc (by rw [← e]; exact hb))⟩
theorem Eff.frz {tc : List (Nat × Bool)} {vs : List (PV N)} (h : ∀ x ∈ tchF s.hp vs, x ∈ tc) : Eff C s tc ⟨s.env, frzVs s.hp vs⟩ := ⟨rfl, by rw [frzVs_len]; exact Nat.le_refl _, fun b hb _ => frzVs_keep (fun v hm hr => hb (by have := h _ (tchF_mem hm); rwa [row0_md hr] at this))⟩
theorem Eff.trans {s1 s2 : St N} {tc : List (Nat × Bool)} (h : Eff C s tc s1) (k : Eff C s1 tc s2) : Eff C s tc s2 := ⟨k.1.trans h.1, Nat.le_trans h.2.1 k.2.1, fun b hb hl => (k.2.2 b hb (Nat.lt_of_lt_of_le hl h.2.1)).trans (h.2.2 b hb hl)⟩
theorem some2_eq {v q : PV N} {s1 s2 : St N} (h : some2 v s1 = some (q, s2)) : v = q ∧ s1 = s2 := by
  injection h with h; injection h with h1 h2; exact ⟨h1, h2⟩
theorem loadFrom_eff {t : TypeId} {cs : List (PV N)} {j : Nat} {q : PV N} (h : loadFrom C t cs j (fun v => some2 v s) = some (q, s')) : s' = s := by
  rw [loadFrom_bind] at h
  obtain ⟨_, -, h⟩ := Option.bind_eq_some_iff.mp h
  exact (some2_eq h).2.symm
theorem cutK_eff {e : Env N} {n : Nat} {lo hi : Option Operand} {R : Type} {r : R} {G : Nat → Nat → Option R} {T : Prop} (h : cutK C e n lo hi G = some r) (k : ∀ l m, G l m = some r → T) : T := by
  unfold cutK bnd at h
  cases hi <;> cases lo <;> dsimp only at h
  all_goals (repeat' split at h)
  all_goals first | exact k _ _ h | exact absurd h (by simp)
theorem cut3_eff {e : Env N} {n : Nat} {lo : Option Operand} {hi mx : Operand} {R : Type} {r : R} {G : Nat → Nat → Option R} {T : Prop} (h : cut3 C e n lo hi mx G = some r) (k : ∀ l m, G l m = some r → T) : T := by
  unfold cut3 at h
  simp only [bnd] at h
  split at h
  · exact cutK_eff (chk_e (chk_e h).2).2 k
  · exact absurd h (by simp)
theorem bif_else {b : Bool} {R : Type} {x : Option R} {r : R} (h : (bif b then none else x) = some r) : x = some r := by
  cases b with
  | true => exact absurd h (by simp)
  | false => exact h
theorem callK_eff {f : FuncId} {vals : List (PV N)} {v : PV N} (ht : touch C s o = tchCall C f vals s.hp) (h : callK C call s f vals some2 = some (v, s')) : Eff C s (touch C s o) s' := by
  unfold callK at h
  dsimp only at h
  obtain ⟨hchk, h⟩ := bif_true h
  obtain ⟨r, -, h⟩ := Option.bind_eq_some_iff.mp h
  split at h
  · exact absurd h (by simp)
  · refine asSig_any h (fun vs hh h => ?_)
    obtain ⟨-, h⟩ := bif_true h
    rw [← (some2_eq h).2]
    refine ⟨rfl, ?_, fun b hb hl => ?_⟩
    · show s.hp.length ≤ (backHp _ _ _ _).length
      rw [backHp_len]
      have := entry_len (C := C) (f := f) (vals := vals) (hp := s.hp)
      omega
    · have hlen := entry_len (C := C) (f := f) (vals := vals) (hp := s.hp)
      have ho : b ∉ handOrd (entryS C f vals s.hp) vals.length := fun hm => hb (by
        have hm : b ∈ handed (entryS C f vals s.hp) vals.length := by
          unfold handOrd handIds at hm
          rcases List.mem_append.mp hm with hm | hm <;> exact (List.mem_filter.mp hm).1
        rw [ht]
        exact List.mem_append_left _ (List.mem_append_right _ (List.mem_map_of_mem hm)))
      show (backHp _ _ _ _)[b]? = _
      rw [backHp_get, if_pos (by omega), if_pos (by omega)]
      cases hi : inv b (handOrd (entryS C f vals s.hp) vals.length) with
      | some i => exact absurd (List.mem_of_getElem? (inv_some hi)) ho
      | none =>
        dsimp only
        have hk := entry_keep (C := C) (f := f) (vals := vals) hl (by rw [← ht]; exact hb)
        rw [List.getD_eq_getElem?_getD, hk, List.getElem?_eq_getElem hl]; rfl
theorem callI_eff {f : FuncId} {vals : List (PV N)} {v : PV N} (ht : touch C s o = tchI C f vals s.hp) (h : callI C call s f vals some2 = some (v, s')) : Eff C s (touch C s o) s' := by
  unfold callI at h
  unfold tchI at ht
  split at h
  · rename_i hq; rw [hq] at ht; exact callK_eff ht h
  · rename_i q hq
    rw [hq] at ht
    dsimp only at ht
    split at h
    · dsimp only at ht
      split at h
      · obtain ⟨-, h⟩ := bif_true h
        split at h
        · rw [← (some2_eq h).2]; exact Eff.set (by rw [ht]; simp)
        · exact absurd h (by simp)
      · exact absurd h (by simp)
    · exact absurd h (by simp)
theorem st1_eff {v : PV N} (h : st1 C call s o = some (v, s')) : Eff C s (touch C s o) s' := by
  have plain : s = s' → Eff C s (touch C s o) s' := fun e => e ▸ Eff.refl _
  unfold st1 stepOp at h
  split at h
  · exact plain (some2_eq h).2
  · exact plain (some2_eq h).2
  · -- pick
    unfold forkB at h
    split at h
    · split at h <;> exact plain (some2_eq h).2
    · split at h <;> exact plain (some2_eq h).2
    · exact absurd h (by simp)
  · -- alloc
    split at h
    · rw [← (some2_eq h).2]; exact Eff.add _ _
    · exact absurd h (by simp)
  · -- box
    split at h
    · rw [← (some2_eq h).2]; exact Eff.add _ _
    · exact absurd h (by simp)
  · -- nilCheck
    split at h <;> first | exact plain (some2_eq h).2 | exact absurd h (by simp)
  · -- load
    split at h
    · exact plain (loadFrom_eff h).symm
    · split at h
      · exact plain (loadFrom_eff h).symm
      · exact absurd h (by simp)
    · split at h
      · obtain ⟨-, h⟩ := bif_true h
        split at h
        · exact plain (loadFrom_eff h).symm
        · exact absurd h (by simp)
      · exact absurd h (by simp)
    · exact absurd h (by simp)
  · -- store
    rename_i t x y ho
    split at h
    · exact absurd h (by simp)
    · rename_i vs hc
      obtain ⟨-, h⟩ := bif_true h
      split at h
      · rename_i b j hpx
        split at h
        · obtain ⟨-, h⟩ := bif_true h
          rw [← (some2_eq h).2]
          exact Eff.set (by simp [touch, ho, hpx])
        · exact absurd h (by simp)
      · rename_i b v i j hpx
        split at h
        · obtain ⟨-, h⟩ := bif_true h
          obtain ⟨l', -, h⟩ := Option.bind_eq_some_iff.mp h
          rw [← (some2_eq h).2]
          have ht : touch C s o = (b, true) :: tchF s.hp vs := by simp [touch, ho, hpx, hc]
          refine Eff.trans (s1 := ⟨s.env, frzVs s.hp vs⟩) (Eff.frz (fun x hx => by rw [ht]; exact List.mem_cons_of_mem _ hx)) ?_
          exact Eff.set (s := ⟨s.env, frzVs s.hp vs⟩) (by rw [ht]; exact List.mem_cons_self)
        · exact absurd h (by simp)
      · exact absurd h (by simp)
  · -- binOp
    unfold arithI at h
    split at h
    · exact plain (some2_eq (chk_e h).2).2
    · split at h
      · exact plain (some2_eq h).2
      · rw [arith_bind] at h
        obtain ⟨_, -, h⟩ := Option.bind_eq_some_iff.mp h
        exact plain (some2_eq h).2
  · -- unOp
    split at h <;> first | exact plain (some2_eq h).2 | exact absurd h (by simp)
  · -- convert
    split at h
    · exact plain (some2_eq h).2
    · exact plain (some2_eq h).2
    · exact absurd h (by simp)
    · split at h
      · obtain ⟨_, -, h⟩ := Option.bind_eq_some_iff.mp h
        exact plain (some2_eq h).2
      · exact absurd h (by simp)
    · exact absurd h (by simp)
  · -- fieldAddr
    split at h
    · exact absurd h (by simp)
    · have h := bif_else h
      split at h <;> first | exact plain (some2_eq h).2 | exact absurd h (by simp)
  · -- field
    split at h
    · exact plain (loadFrom_eff h).symm
    · exact absurd h (by simp)
  · -- indexAddr
    split at h
    · split at h
      · obtain ⟨-, h⟩ := bif_true h
        (repeat' split at h) <;> first | exact plain (some2_eq h).2 | exact absurd h (by simp)
      · split at h
        · obtain ⟨-, h⟩ := bif_true h
          (repeat' split at h) <;> first | exact plain (some2_eq h).2 | exact absurd h (by simp)
        · exact absurd h (by simp)
      · exact absurd h (by simp)
    · (repeat' split at h) <;> first | exact plain (some2_eq h).2 | exact absurd h (by simp)
    · exact absurd h (by simp)
  · -- index
    split at h
    · (repeat' split at h) <;> first | exact plain (some2_eq h).2 | exact absurd h (by simp)
    · (repeat' split at h) <;> first | exact plain (loadFrom_eff h).symm | exact absurd h (by simp)
    · exact absurd h (by simp)
  · -- slice
    rename_i t x lo hi ho
    split at h
    · exact cutK_eff h (fun _ _ h => plain (some2_eq h).2)
    · rename_i e hu
      split at h
      · obtain ⟨-, h⟩ := bif_true h
        refine cutK_eff h (fun _ _ h => ?_)
        rw [← (some2_eq h).2]
        have ht : touch C s o = tchF s.hp [val C t s.env x] := by simp [touch, ho]
        exact Eff.frz (vs := [val C t s.env x]) (fun x hx => by rw [ht]; exact hx)
      · exact absurd h (by simp)
    · exact absurd h (by simp)
  · -- slice, three indexes
    rename_i t x lo hi mx ho
    split at h
    · rename_i e hu
      split at h
      · obtain ⟨-, h⟩ := bif_true h
        refine cut3_eff h (fun _ _ h => ?_)
        rw [← (some2_eq h).2]
        have ht : touch C s o = tchF s.hp [val C t s.env x] := by simp [touch, ho]
        exact Eff.frz (vs := [val C t s.env x]) (fun x hx => by rw [ht]; exact hx)
      · exact absurd h (by simp)
    · exact absurd h (by simp)
  · -- extract
    split at h
    · split at h
      · exact plain (some2_eq h).2
      · exact absurd h (by simp)
    · exact absurd h (by simp)
  · -- build
    obtain ⟨_, -, h⟩ := Option.bind_eq_some_iff.mp h
    exact plain (some2_eq h).2
  · -- buildSlice
    rename_i t len parts ho
    split at h
    · exact absurd h (by simp)
    · rename_i e he
      split at h
      · obtain ⟨_, -, h⟩ := Option.bind_eq_some_iff.mp h
        obtain ⟨_, -, h⟩ := Option.bind_eq_some_iff.mp h
        obtain ⟨-, h⟩ := bif_true h
        rw [← (some2_eq h).2]
        have ht : touch C s o = tchF s.hp (partVals C s.env e parts.toList) := by simp [touch, ho, he]
        exact Eff.trans (s1 := ⟨s.env, frzVs s.hp (partVals C s.env e parts.toList)⟩) (Eff.frz (fun x hx => by rw [ht]; exact hx)) (Eff.add (s := ⟨s.env, frzVs s.hp (partVals C s.env e parts.toList)⟩) _ _)
      · exact absurd h (by simp)
  · -- makeSlice
    split at h
    · exact absurd h (by simp)
    · split at h
      · obtain ⟨_, -, h⟩ := Option.bind_eq_some_iff.mp h
        obtain ⟨-, h⟩ := bif_true h
        obtain ⟨-, h⟩ := chk_true h
        obtain ⟨-, h⟩ := chk_true h
        obtain ⟨-, h⟩ := chk_true h
        obtain ⟨-, h⟩ := chk_true h
        rw [← (some2_eq h).2]; exact Eff.add _ _
      · exact absurd h (by simp)
  · -- makeFunc
    obtain ⟨-, h⟩ := bif_true h
    exact plain (some2_eq h).2
  · -- makeMap
    split at h
    · exact absurd h (by simp)
    · split at h
      · rw [← (some2_eq h).2]; exact Eff.add _ _
      · exact absurd h (by simp)
  · -- lookup
    split at h
    · exact absurd h (by simp)
    · split at h
      · split at h
        · obtain ⟨-, h⟩ := bif_true h
          obtain ⟨_, -, h⟩ := Option.bind_eq_some_iff.mp h
          unfold optK at h
          split at h <;> exact plain (some2_eq h).2
        · exact absurd h (by simp)
      · exact absurd h (by simp)
  · -- mapUpdate
    rename_i t x i y ho
    split at h
    · exact absurd h (by simp)
    · rename_i kt et hm
      split at h
      · rename_i b hpx
        split at h
        · obtain ⟨-, h⟩ := bif_true h
          obtain ⟨_, -, h⟩ := Option.bind_eq_some_iff.mp h
          obtain ⟨_, -, h⟩ := Option.bind_eq_some_iff.mp h
          obtain ⟨_, -, h⟩ := Option.bind_eq_some_iff.mp h
          rw [← (some2_eq h).2]
          have ht : touch C s o = (b, true) :: tchF s.hp (slIn (val C et s.env y)) := by simp [touch, ho, hm, hpx]
          refine Eff.trans (s1 := ⟨s.env, frzVs s.hp (slIn (val C et s.env y))⟩) (Eff.frz (fun x hx => by rw [ht]; exact List.mem_cons_of_mem _ hx)) ?_
          exact Eff.set (s := ⟨s.env, frzVs s.hp (slIn (val C et s.env y))⟩) (by rw [ht]; exact List.mem_cons_self)
        · exact absurd h (by simp)
      · exact absurd h (by simp)
  · -- calls
    rename_i c ho
    split at h
    · -- len
      (repeat' split at h) <;> first | exact plain (some2_eq h).2 | exact plain (some2_eq (bif_true h).2).2 | exact absurd h (by simp)
    · -- append
      rename_i hc
      split at h
      · rename_i x y t t' hax hat
        split at h
        · exact absurd h (by simp)
        · split at h
          · obtain ⟨-, h⟩ := bif_true h
            obtain ⟨_, -, h⟩ := Option.bind_eq_some_iff.mp h
            split at h
            · rename_i b v hpx
              have ht : (b, true) ∈ touch C s o := by simp [touch, ho, hc, hax, hat, hpx]
              split at h
              · obtain ⟨-, h⟩ := bif_true h
                split at h
                · obtain ⟨-, h⟩ := chk_true h
                  unfold grownK at h
                  split at h
                  · rw [← (some2_eq h).2]; exact Eff.set ht
                  · rw [← (some2_eq h).2]
                    exact Eff.trans (s1 := ⟨s.env, s.hp.set b _⟩) (Eff.set ht) (Eff.add (s := ⟨s.env, s.hp.set b _⟩) _ _)
                  · exact absurd h (by simp)
                · exact absurd h (by simp)
              · exact absurd h (by simp)
            · obtain ⟨-, h⟩ := chk_true h
              rw [← (some2_eq h).2]; exact Eff.add _ _
            · exact absurd h (by simp)
          · exact absurd h (by simp)
      · exact absurd h (by simp)
    · -- max
      split at h
      · obtain ⟨_, -, h⟩ := Option.bind_eq_some_iff.mp h
        exact plain (some2_eq h).2
      · exact absurd h (by simp)
    · -- min
      split at h
      · obtain ⟨_, -, h⟩ := Option.bind_eq_some_iff.mp h
        exact plain (some2_eq h).2
      · exact absurd h (by simp)
    · -- a function
      rename_i x hc
      split at h
      · rename_i f caps hpx
        split at h
        · exact absurd h (by simp)
        · obtain ⟨-, h⟩ := bif_true h
          have ht : touch C s o = tchI C f (callVals C s.env c.args.toList c.argTypes.toList ++ caps) s.hp := by simp [touch, ho, hc, hpx]
          exact callI_eff ht h
      · exact absurd h (by simp)
    · exact absurd h (by simp)
  · exact absurd h (by simp)
end
/-! ### a region in its order -/
/-- What a call began with. -/
structure G0 (N : Nat → Type) where
  E : Enc N
  w0 : World
  X : Nat → Prop
  S0 : Stab
  ρ0 : Rho
  nb : Nat
  n : Nat
section
variable {N : Nat → Type}
/-- A state and the model's. -/
structure SR (G : G0 N) (S : Stab) (ρ : Rho) (s : St N) (a : Act) (w : World) : Prop where
  cx : Cx G.w0 G.X S ρ w
  s0 : ∀ b o, G.S0 b o → S b o ∧ w.cell? ⟨b, o, none⟩ = G.w0.cell? ⟨b, o, none⟩
  new : ∀ b o, S b o → ¬ G.S0 b o → G.X b ∨ G.w0.heap.size ≤ b
  env : ∀ t, VR G.E S w ρ (look s.env t) (a.tmps.getD t undef)
  blk : ∀ b blk, s.hp[b]? = some (some blk) → BR G.E S ρ w b blk
  fresh : ∀ b, s.hp.length ≤ b → ρ b = none
  ids : ∀ b, b < G.nb → ρ b = G.ρ0 b ∧ ∃ i, G.ρ0 b = some i ∧ i.kind ≠ 1
  size : a.tmps.size = G.n
  defers : a.defers = []
def SX (G : G0 N) (s : St N) (a : Act) (w : World) : Prop := ∃ S ρ, SR G S ρ s a w
theorem look_put (s : St N) (d : Option Tmp) (p : PV N) (t : Nat) : look (s.put d p).env t = if d = some t then p else look s.env t := by
  cases d with
  | none => rfl
  | some u =>
    simp only [St.put]
    rw [look_cons]
    by_cases h : u = t
    · subst h; simp
    · rw [if_neg h, if_neg (by simpa using h)]
theorem hp_put (s : St N) (d : Option Tmp) (p : PV N) : (s.put d p).hp = s.hp := by cases d <;> rfl
theorem tmps_put (a : Act) (d : Option Tmp) (u : Value) (t : Nat) (hd : ∀ x, d = some x → x < a.tmps.size) : (a.put d u).tmps.getD t undef = if d = some t then u else a.tmps.getD t undef := by
  cases d with
  | none => rfl
  | some x =>
    have hx := hd x rfl
    simp only [Act.put]
    rw [Array.getD_eq_getD_getElem?, Array.getD_eq_getD_getElem?]
    by_cases h : x = t
    · subst h; rw [Array.getElem?_setIfInBounds_self_of_lt hx, if_pos rfl]; rfl
    · rw [Array.getElem?_setIfInBounds_ne h, if_neg (by simpa using h)]
theorem size_put (a : Act) (d : Option Tmp) (u : Value) : (a.put d u).tmps.size = a.tmps.size := by cases d <;> simp [Act.put]
theorem defers_put (a : Act) (d : Option Tmp) (u : Value) : (a.put d u).defers = a.defers := by cases d <;> rfl
end
section
variable {N : Nat → Type} {G : G0 N} {S : Stab} {w : World} {ρ : Rho} {C : Cfg N} {a : Act} {s : St N} {R : Type} {r : R} {o : Oper} {call : FuncId → List (PV N) → Heap N → Option (List (PV N) × Heap N)} {Q : Exit → Act → World → Prop} {ops : Array Oper}
theorem SR.step {S' : Stab} {ρ' : Rho} {w' : World} {s' : St N} {p : PV N} {u : Value} {tc : List (Nat × Bool)} (h : SR G S ρ s a w) (out : Out G.E G.w0 G.X S ρ w S' ρ' w' tc s.hp s'.hp) (henv : s'.env = s.env) (hp : VR G.E S' w' ρ' p u) (hd : ∀ x, o.dst = some x → x < G.n) : SR G S' ρ' (s'.put o.dst p) (a.put o.dst u) w' := by
  refine ⟨out.cx, fun b q hb => ⟨(out.st b q (h.s0 b q hb).1).1, (out.st b q (h.s0 b q hb).1).2.trans (h.s0 b q hb).2⟩, fun b q hb h0 => ?_, fun t => ?_, fun b blk hb => ?_, fun b hb => ?_, fun b hb => ?_, by rw [size_put]; exact h.size, by rw [defers_put]; exact h.defers⟩
  · by_cases hh : S b q
    · exact h.new b q hh h0
    · exact out.new b q hb hh
  · rw [look_put, tmps_put _ _ _ _ (fun x hx => by rw [h.size]; exact hd x hx)]
    by_cases e : o.dst = some t
    · rw [if_pos e, if_pos e]; exact hp
    · rw [if_neg e, if_neg e, henv]; exact (h.env t).mono out.st out.rho
  · rw [hp_put] at hb
    exact out.br (h.blk b) blk hb
  · rw [hp_put] at hb
    have h0 := h.fresh b (Nat.le_trans out.len hb)
    cases hq : ρ' b with
    | none => rfl
    | some i => have := out.dom b i h0 hq; omega
  · obtain ⟨h1, i, h2, h3⟩ := h.ids b hb
    refine ⟨?_, i, h2, h3⟩
    obtain ⟨i', g1, g2⟩ := out.rho b i (h1.trans h2)
    rw [g1, g2.2.1 h3, h2]
/-- A truth value is told. -/
theorem SR.told {t : Tmp} {b : Bool} (h : SR G S ρ s a w) (hb : a.tmps.getD t undef = .bool b) : SR G S ρ (s.put (some t) (.bool b)) a w := by
  refine ⟨h.cx, h.s0, h.new, fun u => ?_, fun b blk hb => h.blk b blk (by rw [hp_put] at hb; exact hb), fun b hb => h.fresh b (by rw [hp_put] at hb; exact hb), h.ids, h.size, h.defers⟩
  rw [look_put]
  by_cases e : some t = some u
  · rw [if_pos e]; injection e with e; subst e; rw [hb]; exact .bool b
  · rw [if_neg e]; exact h.env u
theorem SR.skip (h : SR G S ρ s a w) (hd : ∀ x, o.dst = some x → x < G.n) : SR G S ρ (s.put o.dst (.tup [])) (a.put o.dst undef) w := by
  refine ⟨h.cx, h.s0, h.new, fun u => ?_, fun b blk hb => h.blk b blk (by rw [hp_put] at hb; exact hb), fun b hb => h.fresh b (by rw [hp_put] at hb; exact hb), h.ids, by rw [size_put]; exact h.size, by rw [defers_put]; exact h.defers⟩
  rw [look_put, tmps_put _ _ _ _ (fun x hx => by rw [h.size]; exact hd x hx)]
  by_cases e : o.dst = some u
  · rw [if_pos e, if_pos e]; exact .tup [] #[] .nil
  · rw [if_neg e, if_neg e]; exact h.env u
theorem yielded_of {a : Act} {j t : Nat} {b : Bool} (hj : (ops[j]?).bind (·.dst) = some t) (hb : a.tmps.getD t undef = .bool b) : yielded ops a.tmps j = some b := by
  unfold yielded
  rw [hj, Option.bind_some]
  rw [Array.getD_eq_getD_getElem?] at hb
  cases hq : a.tmps[t]? with
  | none => rw [hq] at hb; exact absurd hb (by simp [undef])
  | some v => rw [hq] at hb; simp at hb; subst hb; rfl
theorem yielded_none {a : Act} {j t : Nat} {vs : Array Value} (hj : (ops[j]?).bind (·.dst) = some t) (hb : a.tmps.getD t undef = .tuple vs) : yielded ops a.tmps j = none := by
  unfold yielded
  rw [hj, Option.bind_some]
  rw [Array.getD_eq_getD_getElem?] at hb
  cases hq : a.tmps[t]? with
  | none => rfl
  | some v => rw [hq] at hb; simp at hb; subst hb; rfl
theorem tup_split {p : PV N} {R : Type} {x y : Option R} {r : R} (h : onTup p x y = some r) : (∃ cs, p = .tup cs ∧ x = some r) ∨ (y = some r ∧ ∀ cs, p ≠ .tup cs) := by
  cases p <;> first | exact .inl ⟨_, rfl, h⟩ | exact .inr ⟨h, fun _ e => by cases e⟩
theorem dst_ok {m : Nat} (h : dstOk m o = true) : ∀ x, o.dst = some x → x < m := by
  intro x hx
  simpa [dstOk, hx, Nat.blt_eq] using h
theorem evOps_seq (hE : EncOK C.E) (hGE : G.E = C.E) (hGn : G.n = C.nt) (hcall : CallOK C.P C.E C.T.gl call ∧ InpOK C.T ∧ Glob C.T.gl G.w0 G.X) {F : St N → Log → Option R} {K : Act → World → Prop} (hF : ∀ s l a w, F s l = some r → SX G s a w → K a w) (hQ : ∀ a w, K a w → Q .normal a w) :
    ∀ (rest : List Oper) (i : Nat) (s : St N) (l : Log) (a : Act) (w : World), ops.toList.drop i = rest → evOps C call ops i rest s l F = some r → SX G s a w → wpOps C.P ops Q (List.range' i rest.length) a w := by
  intro rest
  induction rest with
  | nil =>
    intro i s l a w _ h hs
    exact hQ _ _ (hF s l a w h hs)
  | cons o rest ih =>
    intro i s l a w hd h hs
    obtain ⟨S, ρ, hs⟩ := hs
    have hi : ops[i]? = some o := by
      have := congrArg (fun l => l[0]?) hd
      simpa using this
    have hd' : ops.toList.drop (i + 1) = rest := by
      have := congrArg (List.drop 1) hd
      simpa [List.drop_drop, Nat.add_comm] using this
    rw [List.length_cons, List.range'_succ, wpOps_cons]
    unfold wpOp
    simp only [hi]
    simp only [evOps] at h
    by_cases hdst : dstOk C.nt o = true
    case neg => rw [Bool.not_eq_true] at hdst; rw [hdst, cond_false] at h; exact absurd h (by simp)
    rw [hdst, cond_true] at h
    have hdst := dst_ok hdst
    have run : ∀ (s : St N) (G' : PV N → St N → Option R), SR G S ρ s a w → stepOp C call s o G' = some r → (∀ v s', ∃ l', G' v s' = evOps C call ops (i + 1) rest (s'.put o.dst v) l' F) → o.wp C.P a w (wpOps C.P ops Q (List.range' (i + 1) rest.length)) Q := by
      intro s G' hs h hG'
      obtain ⟨v, s1, h1, h2⟩ := stepOp_pair h
      obtain ⟨l', hl'⟩ := hG' v s1
      rw [hl'] at h2
      have eff := st1_eff h1
      have env := hs.env
      have blk := hs.blk
      rw [hGE] at env blk
      refine op_steps hE hcall hs.cx (fun b h _ => hs.fresh b h) h1 (fun t _ => env t) (fun b _ _ b' hb => blk b b' hb) eff.2.1 _ _ (fun u w' S' ρ' out hp => ?_)
      rw [← hGE] at out hp
      exact ih (i + 1) _ _ _ _ hd' h2 ⟨S', ρ', hs.step out eff.1 hp (fun x hx => by rw [hGn]; exact hdst x hx)⟩
    cases hg : o.guard with
    | none =>
      rw [hg] at h
      rw [show Region.wanted o (yielded ops a.tmps) = true by simp [Region.wanted, hg]]
      rw [if_pos rfl]
      exact .inl (run s _ hs h (fun v s' => ⟨_, rfl⟩))
    | some g =>
      obtain ⟨j, want⟩ := g
      rw [hg] at h
      dsimp only at h
      cases ht : (ops[j]?).bind (·.dst) with
      | none => rw [ht] at h; exact absurd h (by simp)
      | some t =>
        rw [ht] at h
        dsimp only at h
        have hvt := hs.env t
        rcases tup_split h with ⟨cs, hcs, h⟩ | ⟨h, -⟩
        · rw [hcs] at hvt
          generalize hq : a.tmps.getD t undef = q at hvt
          cases hvt with
          | tup _ vs _ =>
            have hw : Region.wanted o (yielded ops a.tmps) = false := by simp [Region.wanted, hg, yielded_none ht hq]
            rw [hw, if_neg Bool.false_ne_true]
            exact ih (i + 1) _ _ _ _ hd' h ⟨S, ρ, hs.skip (fun x hx => by rw [hGn]; exact hdst x hx)⟩
        rw [hGE] at hvt
        obtain ⟨b, hb, h, -⟩ := forkB_ok h hvt
        have hy := yielded_of ht hb
        have hw : Region.wanted o (yielded ops a.tmps) = (b == want) := by
          simp only [Region.wanted, hg, hy]
          cases b <;> cases want <;> rfl
        rw [hw]
        by_cases hbw : (b == want) = true
        · rw [hbw, cond_true] at h
          rw [hbw, if_pos rfl]
          exact .inl (run _ _ (hs.told hb) h (fun v s' => ⟨_, rfl⟩))
        · rw [Bool.not_eq_true] at hbw
          rw [hbw, cond_false] at h
          rw [hbw, if_neg Bool.false_ne_true]
          exact ih (i + 1) _ _ _ _ hd' h ⟨S, ρ, (hs.told hb).skip (fun x hx => by rw [hGn]; exact hdst x hx)⟩
end
/-! #### the bits of what comes ahead -/
def foldBits (o : Oper) (f : Nat → Nat) : Nat := o.after.toList.foldl (fun m e => bif Region.binds .any e then m ||| 2 ^ e.on ||| f e.on else m) 0
theorem foldBits_congr {o : Oper} {f g : Nat → Nat} (h : ∀ e ∈ o.after.toList, Region.binds .any e = true → f e.on = g e.on) : foldBits o f = foldBits o g := by
  unfold foldBits
  generalize hm : (0 : Nat) = m
  clear hm
  revert m
  generalize o.after.toList = l at h
  induction l with
  | nil => intro m; rfl
  | cons e l ih =>
    intro m
    rw [List.foldl_cons, List.foldl_cons]
    have : (bif Region.binds .any e then m ||| 2 ^ e.on ||| f e.on else m) = (bif Region.binds .any e then m ||| 2 ^ e.on ||| g e.on else m) := by
      cases hb : Region.binds .any e with
      | false => rfl
      | true => rw [h e (List.mem_cons_self) hb]
    rw [this]
    exact ih (fun e he => h e (List.mem_cons_of_mem _ he)) _
theorem foldBits_bit {o : Oper} {f : Nat → Nat} {x : Nat} (h : (foldBits o f).testBit x = true) : ∃ e ∈ o.after.toList, Region.binds .any e = true ∧ (e.on = x ∨ (f e.on).testBit x = true) := by
  unfold foldBits at h
  have key : ∀ (l : List Edge) (m : Nat), (l.foldl (fun m e => bif Region.binds .any e then m ||| 2 ^ e.on ||| f e.on else m) m).testBit x = true → m.testBit x = true ∨ ∃ e ∈ l, Region.binds .any e = true ∧ (e.on = x ∨ (f e.on).testBit x = true) := by
    intro l
    induction l with
    | nil => intro m h; exact .inl h
    | cons e l ih =>
      intro m h
      rw [List.foldl_cons] at h
      rcases ih _ h with h | ⟨e', he, h⟩
      · cases hb : Region.binds .any e with
        | false => rw [hb, cond_false] at h; exact .inl h
        | true =>
          rw [hb, cond_true, Nat.testBit_or, Nat.testBit_or, Bool.or_eq_true, Bool.or_eq_true] at h
          rcases h with (h | h) | h
          · exact .inl h
          · rw [Nat.testBit_two_pow] at h
            exact .inr ⟨e, List.mem_cons_self, hb, .inl (of_decide_eq_true h)⟩
          · exact .inr ⟨e, List.mem_cons_self, hb, .inr h⟩
      · exact .inr ⟨e', List.mem_cons_of_mem _ he, h⟩
  rcases key _ _ h with h | h
  · exact absurd h (by simp)
  · exact h
theorem befs_spec : ∀ (rest : List Oper) (i : Nat) (acc : List Nat), acc.length = i → edgesOk rest i = true →
    (befs rest i acc).length = i + rest.length ∧ (∀ k, k < i → (befs rest i acc).getD (i + rest.length - 1 - k) 0 = acc.getD (i - 1 - k) 0) ∧
    (∀ k o, rest[k]? = some o → (befs rest i acc).getD (i + rest.length - 1 - (i + k)) 0 = foldBits o (fun j => (befs rest i acc).getD (i + rest.length - 1 - j) 0)) := by
  intro rest
  induction rest with
  | nil =>
    intro i acc ha _
    refine ⟨by simpa [befs] using ha, fun k hk => by simp [befs], fun k o h => absurd h (by simp)⟩
  | cons o rest ih =>
    intro i acc ha he
    simp only [edgesOk, Bool.and_eq_true] at he
    obtain ⟨h1, h2, h3⟩ := ih (i + 1) (foldBits o (fun j => acc.getD (i - 1 - j) 0) :: acc) (by rw [List.length_cons, ha]) he.2
    have eq : befs (o :: rest) i acc = befs rest (i + 1) (foldBits o (fun j => acc.getD (i - 1 - j) 0) :: acc) := rfl
    rw [eq]
    generalize befs rest (i + 1) (foldBits o (fun j => acc.getD (i - 1 - j) 0) :: acc) = B at h1 h2 h3
    have old : ∀ k, k < i → B.getD (i + (o :: rest).length - 1 - k) 0 = acc.getD (i - 1 - k) 0 := fun k hk => by
      have := h2 k (by omega)
      rw [show i + (o :: rest).length - 1 - k = i + 1 + rest.length - 1 - k by rw [List.length_cons]; omega, this]
      rw [show i + 1 - 1 - k = (i - 1 - k) + 1 by omega, List.getD_cons_succ]
    refine ⟨by rw [h1, List.length_cons]; omega, old, fun k o' hk => ?_⟩
    cases k with
    | zero =>
      simp at hk
      subst hk
      have := h2 i (by omega)
      rw [show i + (o :: rest).length - 1 - (i + 0) = i + 1 + rest.length - 1 - i by rw [List.length_cons]; omega, this]
      rw [show i + 1 - 1 - i = 0 by omega, List.getD_cons_zero]
      refine foldBits_congr (fun e hem hb => ?_)
      have hon := List.all_eq_true.mp he.1 e hem
      rw [hb] at hon
      have hon : e.on < i := by simpa [Nat.blt_eq] using hon
      exact (old e.on hon).symm
    | succ k =>
      have := h3 k o' (by simpa using hk)
      rw [show i + (o :: rest).length - 1 - (i + (k + 1)) = i + 1 + rest.length - 1 - (i + 1 + k) by rw [List.length_cons]; omega, this]
      refine foldBits_congr (fun e _ _ => ?_)
      rw [show i + (o :: rest).length - 1 - e.on = i + 1 + rest.length - 1 - e.on by rw [List.length_cons]; omega]
theorem befAt_spec {ops : Array Oper} (he : edgesOk ops.toList 0 = true) {j : Nat} {o : Oper} (hj : ops[j]? = some o) : befAt ops.size (befs ops.toList 0 []) j = foldBits o (fun i => befAt ops.size (befs ops.toList 0 []) i) := by
  obtain ⟨_, _, h⟩ := befs_spec ops.toList 0 [] rfl he
  have := h j o (by simpa using hj)
  simp only [Nat.zero_add, Array.length_toList] at this
  exact this
theorem edgesOk_at : ∀ (rest : List Oper) (i : Nat), edgesOk rest i = true → ∀ k o, rest[k]? = some o → ∀ e ∈ o.after, Region.binds .any e = true → e.on < i + k := by
  intro rest
  induction rest with
  | nil => intro i _ k o h; exact absurd h (by simp)
  | cons o rest ih =>
    intro i h k o' hk e he hb
    simp only [edgesOk, Bool.and_eq_true] at h
    cases k with
    | zero =>
      simp at hk; subst hk
      have hon := List.all_eq_true.mp h.1 e (by simpa using he)
      rw [hb] at hon
      simpa [Nat.blt_eq] using hon
    | succ k =>
      have := ih (i + 1) h.2 k o' (by simpa using hk) e he hb
      omega
theorem tmpOk_at {ops : Array Oper} {bs : List Nat} (h : tmpOk ops bs = true) {i j : Nat} (hij : i < j) {x y : Oper} (hx : ops[i]? = some x) (hy : ops[j]? = some y) : (befAt ops.size bs j).testBit i = true ∨ x.apart ops y = true := by
  have hj : j < ops.size := (Array.getElem?_eq_some_iff.1 hy).1
  have := List.all_eq_true.mp (List.all_eq_true.mp h j (List.mem_range.mpr hj)) i (List.mem_range.mpr hij)
  rw [hx, hy, Bool.or_eq_true] at this
  exact this
theorem logOk_at {n : Nat} {bs : List Nat} : ∀ {l : Log}, logOk n bs l = true → ∀ (l1 l2 l3 : Log) (j b : Nat) (w : Bool) (i b' : Nat) (w' : Bool), l = l1 ++ (j, b, w) :: l2 ++ (i, b', w') :: l3 → b = b' → (w || w') = true → i ≠ j → (befAt n bs j).testBit i = true := by
  intro l
  induction l with
  | nil => intro _ l1 l2 l3 j b w i b' w' h; exact absurd h (by simp)
  | cons x l ih =>
    intro h l1 l2 l3 j b w i b' w' hl hb hw hij
    obtain ⟨j0, b0, w0⟩ := x
    simp only [logOk, Bool.and_eq_true] at h
    cases l1 with
    | nil =>
      simp only [List.nil_append, List.cons_append, List.cons.injEq, Prod.mk.injEq] at hl
      obtain ⟨⟨rfl, rfl, rfl⟩, rfl⟩ := hl
      have := List.all_eq_true.mp h.1 (i, b', w') (by simp)
      dsimp only at this
      subst hb
      simp only [Bool.or_eq_true, Bool.not_eq_true'] at this
      rcases this with ((h1 | h1) | h1) | h1
      · exact absurd h1 (by simp)
      · rw [hw] at h1; exact absurd h1 (by simp)
      · exact absurd (Nat.eq_of_beq_eq_true h1) hij
      · exact h1
    | cons y l1 =>
      simp only [List.cons_append, List.cons.injEq] at hl
      exact ih h.2 l1 l2 l3 j b w i b' w' (by simpa using hl.2) hb hw hij

/-! #### the trace of a region in its own order -/
def Tells {N : Nat → Type} (p : PV N) (b : Bool) : Prop := p = .bool b ∨ ∃ pr, ∃ d : Decidable pr, p = .prop pr d ∧ b = @decide pr d
section
variable {N : Nat → Type} {C : Cfg N} {R : Type} {r : R} {call : FuncId → List (PV N) → Heap N → Option (List (PV N) × Heap N)} {ops : Array Oper} {S : Stab} {w : World} {ρ : Rho}
theorem forkB_tells {p : PV N} {G : Bool → Option R} (h : forkB p G = some r) : ∃ b, Tells p b ∧ G b = some r := by
  unfold forkB at h
  cases p with
  | bool b => exact ⟨b, .inl rfl, by cases b <;> simpa using h⟩
  | prop p d =>
    dsimp only at h
    refine ⟨@decide p d, .inr ⟨p, d, rfl, rfl⟩, ?_⟩
    by_cases hh : p
    · rw [if_pos hh] at h; rw [@decide_eq_true p d hh]; exact h
    · rw [if_neg hh] at h; rw [@decide_eq_false p d hh]; exact h
  | _ => exact absurd h (by simp)
theorem Tells.value {p : PV N} {b : Bool} (h : Tells p b) {v : Value} (hv : VR C.E S w ρ p v) : v = .bool b := by
  rcases h with rfl | ⟨pr, d, rfl, rfl⟩
  · cases hv; rfl
  · cases hv; rfl
/-- One operation of the trace: the state before it, the blocks it touches, the state behind it. -/
def TrS (C : Cfg N) (call : FuncId → List (PV N) → Heap N → Option (List (PV N) × Heap N)) (ops : Array Oper) (s : St N) (tc : List (Nat × Bool)) (s' : St N) (o : Oper) : Prop :=
  (o.guard = none ∧ ∃ v s1, st1 C call s o = some (v, s1) ∧ tc = tchO C s o s1 ∧ s' = s1.put o.dst v) ∨
  (∃ j want t b, o.guard = some (j, want) ∧ (ops[j]?).bind (·.dst) = some t ∧ Tells (look s.env t) b ∧
    (((b == want) = true ∧ ∃ v s1, st1 C call (s.put (some t) (.bool b)) o = some (v, s1) ∧ tc = tchO C (s.put (some t) (.bool b)) o s1 ∧ s' = s1.put o.dst v) ∨
     ((b == want) = false ∧ tc = [] ∧ s' = (s.put (some t) (.bool b)).put o.dst (.tup [])))) ∨
  (∃ j want t cs, o.guard = some (j, want) ∧ (ops[j]?).bind (·.dst) = some t ∧ look s.env t = .tup cs ∧ tc = [] ∧ s' = s.put o.dst (.tup []))
def logs (tch : Nat → List (Nat × Bool)) : Nat → Nat → Log → Log
  | _, 0, l => l
  | i, c + 1, l => logs tch (i + 1) c (logOf i (tch i) l)
theorem evOps_trace {F : St N → Log → Option R} : ∀ (rest : List Oper) (i : Nat) (s : St N) (l : Log), ops.toList.drop i = rest → evOps C call ops i rest s l F = some r →
    ∃ (st : Nat → St N) (tch : Nat → List (Nat × Bool)), st i = s ∧ (∀ k o, i ≤ k → ops[k]? = some o → TrS C call ops (st k) (tch k) (st (k + 1)) o ∧ dstOk C.nt o = true) ∧ F (st (i + rest.length)) (logs tch i rest.length l) = some r := by
  intro rest
  induction rest with
  | nil =>
    intro i s l hd h
    refine ⟨fun _ => s, fun _ => [], rfl, fun k o hk ho => ?_, h⟩
    have hlt : k < ops.size := (Array.getElem?_eq_some_iff.1 ho).1
    have := List.drop_eq_nil_iff.mp hd
    rw [Array.length_toList] at this
    omega
  | cons o rest ih =>
    intro i s l hd h
    have hi : ops[i]? = some o := by
      have := congrArg (fun l => l[0]?) hd
      simpa using this
    have hd' : ops.toList.drop (i + 1) = rest := by
      have := congrArg (List.drop 1) hd
      simpa [List.drop_drop, Nat.add_comm] using this
    simp only [evOps] at h
    by_cases hdst : dstOk C.nt o = true
    case neg => rw [Bool.not_eq_true] at hdst; rw [hdst, cond_false] at h; exact absurd h (by simp)
    rw [hdst, cond_true] at h
    have fin : ∀ (s' : St N) (tc : List (Nat × Bool)), TrS C call ops s tc s' o → evOps C call ops (i + 1) rest s' (logOf i tc l) F = some r →
        ∃ (st : Nat → St N) (tch : Nat → List (Nat × Bool)), st i = s ∧ (∀ k o, i ≤ k → ops[k]? = some o → TrS C call ops (st k) (tch k) (st (k + 1)) o ∧ dstOk C.nt o = true) ∧ F (st (i + (o :: rest).length)) (logs tch i (o :: rest).length l) = some r := by
      intro s' tc ht h
      obtain ⟨st, tch, h1, h2, h3⟩ := ih (i + 1) s' (logOf i tc l) hd' h
      have e : ∀ (c k : Nat) (l : Log), i < k → logs (fun k => if k = i then tc else tch k) k c l = logs tch k c l := by
        intro c
        induction c with
        | zero => intro k l _; rfl
        | succ c ihc => intro k l hk; simp only [logs]; rw [if_neg (by omega)]; exact ihc _ _ (by omega)
      refine ⟨fun k => if k = i then s else st k, fun k => if k = i then tc else tch k, if_pos rfl, fun k o' hk ho => ?_, ?_⟩
      · by_cases ek : k = i
        · subst ek
          rw [hi] at ho; injection ho with ho; subst ho
          (try dsimp only)
          rw [if_pos rfl, if_pos rfl, if_neg (by omega), h1]
          exact ⟨ht, hdst⟩
        · (try dsimp only)
          rw [if_neg ek, if_neg ek, if_neg (by omega)]
          exact h2 k o' (by omega) ho
      · (try dsimp only)
        rw [if_neg (by simp), List.length_cons]
        simp only [logs]
        rw [if_pos trivial, e _ _ _ (by omega), show i + (rest.length + 1) = i + 1 + rest.length by omega]
        exact h3
    cases hg : o.guard with
    | none =>
      rw [hg] at h
      obtain ⟨v, s1, h1, h2⟩ := stepOp_pair h
      exact fin _ _ (.inl ⟨hg, v, s1, h1, rfl, rfl⟩) h2
    | some g =>
      obtain ⟨j, want⟩ := g
      rw [hg] at h
      dsimp only at h
      cases ht : (ops[j]?).bind (·.dst) with
      | none => rw [ht] at h; exact absurd h (by simp)
      | some t =>
        rw [ht] at h
        dsimp only at h
        rcases tup_split h with ⟨cs, hcs, h⟩ | ⟨h, -⟩
        · exact fin _ [] (.inr (.inr ⟨j, want, t, cs, hg, ht, hcs, rfl, rfl⟩)) h
        obtain ⟨b, hb, h⟩ := forkB_tells h
        by_cases hbw : (b == want) = true
        · rw [hbw, cond_true] at h
          obtain ⟨v, s1, h1, h2⟩ := stepOp_pair h
          exact fin _ _ (.inr (.inl ⟨j, want, t, b, hg, ht, hb, .inl ⟨hbw, v, s1, h1, rfl, rfl⟩⟩)) h2
        · rw [Bool.not_eq_true] at hbw
          rw [hbw, cond_false] at h
          exact fin _ [] (.inr (.inl ⟨j, want, t, b, hg, ht, hb, .inr ⟨hbw, rfl, rfl⟩⟩)) h
theorem logOf_eq (i : Nat) : ∀ (ts : List (Nat × Bool)) (l : Log), logOf i ts l = ts.map (fun x => (i, x.1, x.2)) ++ l
  | [], _ => rfl
  | (b, w) :: ts, l => by simp only [logOf, List.map_cons, List.cons_append]; rw [logOf_eq i ts l]
theorem logs_split (tch : Nat → List (Nat × Bool)) : ∀ (c1 c2 i : Nat) (l : Log), logs tch i (c1 + c2) l = logs tch (i + c1) c2 (logs tch i c1 l)
  | 0, c2, i, l => by simp [logs]
  | c1 + 1, c2, i, l => by
    rw [show c1 + 1 + c2 = (c1 + c2) + 1 by omega]
    simp only [logs]
    rw [logs_split tch c1 c2 (i + 1), show i + 1 + c1 = i + (c1 + 1) by omega]
theorem logs_suffix (tch : Nat → List (Nat × Bool)) : ∀ (c i : Nat) (l : Log), ∃ X, logs tch i c l = X ++ l
  | 0, _, l => ⟨[], rfl⟩
  | c + 1, i, l => by
    obtain ⟨X, h⟩ := logs_suffix tch c (i + 1) (logOf i (tch i) l)
    exact ⟨X ++ (tch i).map (fun x => (i, x.1, x.2)), by simp only [logs]; rw [h, logOf_eq, List.append_assoc]⟩
theorem logs_mem (tch : Nat → List (Nat × Bool)) {a x : Nat} {w : Bool} (hm : (x, w) ∈ tch a) (c i : Nat) (l : Log) (h1 : i ≤ a) (h2 : a < i + c) : (a, x, w) ∈ logs tch i c l := by
  obtain ⟨X, h⟩ := logs_suffix tch (c - (a - i) - 1) (a + 1) (logOf a (tch a) (logs tch i (a - i) l))
  have e : logs tch i c l = logs tch (a + 1) (c - (a - i) - 1) (logOf a (tch a) (logs tch i (a - i) l)) := by
    have := logs_split tch (a - i) (c - (a - i)) i l
    rw [show a - i + (c - (a - i)) = c by omega, show i + (a - i) = a by omega] at this
    rw [this]
    conv => lhs; rw [show c - (a - i) = (c - (a - i) - 1) + 1 by omega]
    rfl
  rw [e, h, logOf_eq]
  simp only [List.mem_append, List.mem_map]
  exact .inr (.inl ⟨(x, w), hm, rfl⟩)
theorem logs_pair {tch : Nat → List (Nat × Bool)} {n : Nat} {bs : List Nat} (h : logOk n bs (logs tch 0 n []) = true) {i j b : Nat} {wi wj : Bool} (hij : i < j) (hj : j < n) (hi : (b, wi) ∈ tch i) (hjm : (b, wj) ∈ tch j) (hw : (wi || wj) = true) : (befAt n bs j).testBit i = true := by
  have e : logs tch 0 n [] = logs tch (j + 1) (n - j - 1) (logOf j (tch j) (logs tch 0 j [])) := by
    have := logs_split tch j (n - j) 0 []
    rw [show j + (n - j) = n by omega, Nat.zero_add] at this
    rw [this]
    conv => lhs; rw [show n - j = (n - j - 1) + 1 by omega]
    rfl
  obtain ⟨X, hX⟩ := logs_suffix tch (n - j - 1) (j + 1) (logOf j (tch j) (logs tch 0 j []))
  have hm := logs_mem tch hi j 0 [] (Nat.zero_le _) (by omega)
  obtain ⟨k1, k3, hk⟩ := List.append_of_mem hm
  obtain ⟨m1, m2, hm2⟩ := List.append_of_mem (List.mem_map.mpr ⟨(b, wj), hjm, rfl⟩ : (j, b, wj) ∈ (tch j).map (fun x => (j, x.1, x.2)))
  refine logOk_at h (X ++ m1) (m2 ++ k1) k3 j b wj i b wi ?_ rfl (by rw [Bool.or_comm]; exact hw) (by omega)
  rw [e, hX, logOf_eq, hm2, hk]
  simp
end

/-! #### any order comes to the same -/
section
variable {N : Nat → Type} {G : G0 N} {C : Cfg N} {call : FuncId → List (PV N) → Heap N → Option (List (PV N) × Heap N)} {ops : Array Oper} {st : Nat → St N} {tch : Nat → List (Nat × Bool)}
/-- The trace of a region, with what was looked at. -/
structure TR (C : Cfg N) (call : FuncId → List (PV N) → Heap N → Option (List (PV N) × Heap N)) (ops : Array Oper) (st : Nat → St N) (tch : Nat → List (Nat × Bool)) (bs : List Nat) : Prop where
  s : ∀ k o, ops[k]? = some o → TrS C call ops (st k) (tch k) (st (k + 1)) o ∧ dstOk C.nt o = true
  e : edgesOk ops.toList 0 = true
  b : bs = befs ops.toList 0 []
  t : tmpOk ops bs = true
  l : logOk ops.size bs (logs tch 0 ops.size []) = true
/-- What one operation of the trace does to the state. -/
theorem TrS.told {s s' : St N} {tc : List (Nat × Bool)} {o : Oper} (h : TrS C call ops s tc s' o) : ∃ (sp s1 : St N) (p : PV N), s' = s1.put o.dst p ∧ s1.env = sp.env ∧ sp.hp = s.hp ∧
    (∀ (S : Stab) (w : World) (ρ : Rho) t v, VR C.E S w ρ (look s.env t) v → VR C.E S w ρ (look sp.env t) v) ∧
    (∀ b, (b, true) ∉ tc → s1.hp[b]? = s.hp[b]?) ∧ s.hp.length ≤ s1.hp.length ∧ ∀ b, s.hp.length ≤ b → b < s1.hp.length → (b, true) ∈ tc := by
  have told : ∀ {t : Nat} {b : Bool}, Tells (look s.env t) b → ∀ (S : Stab) (w : World) (ρ : Rho) u v, VR C.E S w ρ (look s.env u) v → VR C.E S w ρ (look (s.put (some t) (.bool b)).env u) v := by
    intro t b hb S w ρ u v hv
    rw [look_put]
    by_cases e : some t = some u
    · rw [if_pos e]; injection e with e; subst e; rw [hb.value hv]; exact .bool b
    · rw [if_neg e]; exact hv
  have eff : ∀ {sp s1 : St N} {v : PV N}, st1 C call sp o = some (v, s1) → (∀ b, (b, true) ∉ tchO C sp o s1 → s1.hp[b]? = sp.hp[b]?) ∧ sp.hp.length ≤ s1.hp.length ∧ ∀ b, sp.hp.length ≤ b → b < s1.hp.length → (b, true) ∈ tchO C sp o s1 := by
    intro sp s1 v h
    obtain ⟨-, e2, e3⟩ := st1_eff h
    refine ⟨fun b hb => ?_, e2, fun b h1 h2 => List.mem_append_right _ (made_mem h1 h2)⟩
    rcases Nat.lt_or_ge b sp.hp.length with hl | hl
    · exact e3 b (fun h => hb (List.mem_append_left _ h)) hl
    · rcases Nat.lt_or_ge b s1.hp.length with hl' | hl'
      · exact absurd (List.mem_append_right _ (made_mem hl hl')) hb
      · rw [List.getElem?_eq_none hl, List.getElem?_eq_none hl']
  rcases h with ⟨-, v, s1, h1, rfl, rfl⟩ | ⟨j, want, t, b, -, -, hb, (⟨-, v, s1, h1, rfl, rfl⟩ | ⟨-, rfl, rfl⟩)⟩ | ⟨j, want, t, cs, -, -, hcs, rfl, rfl⟩
  · exact ⟨s, s1, v, rfl, (st1_eff h1).1, rfl, fun _ _ _ _ _ h => h, eff h1⟩
  · exact ⟨s.put (some t) (.bool b), s1, v, rfl, (st1_eff h1).1, rfl, told hb, eff h1⟩
  · exact ⟨s.put (some t) (.bool b), s.put (some t) (.bool b), .tup [], rfl, rfl, rfl, told hb, fun _ _ => rfl, Nat.le_refl _, fun b h1 h2 => absurd h2 (Nat.not_lt.mpr h1)⟩
  · exact ⟨s, s, .tup [], rfl, rfl, rfl, fun _ _ _ _ _ h => h, fun _ _ => rfl, Nat.le_refl _, fun b h1 h2 => absurd h2 (Nat.not_lt.mpr h1)⟩
theorem TrS.env {s s' : St N} {tc : List (Nat × Bool)} {o : Oper} (h : TrS C call ops s tc s' o) {S : Stab} {w : World} {ρ : Rho} {t : Nat} {v : Value} (ht : o.dst ≠ some t) (hv : VR C.E S w ρ (look s.env t) v) : VR C.E S w ρ (look s'.env t) v := by
  obtain ⟨sp, s1, p, rfl, h2, -, h4, -⟩ := h.told
  rw [look_put, if_neg ht, h2]
  exact h4 S w ρ t v hv
theorem TrS.hp {s s' : St N} {tc : List (Nat × Bool)} {o : Oper} (h : TrS C call ops s tc s' o) {b : Nat} (hb : (b, true) ∉ tc) : s'.hp[b]? = s.hp[b]? := by
  obtain ⟨sp, s1, p, rfl, -, -, -, h5, -⟩ := h.told
  rw [hp_put]
  exact h5 b hb
theorem TrS.len {s s' : St N} {tc : List (Nat × Bool)} {o : Oper} (h : TrS C call ops s tc s' o) : s.hp.length ≤ s'.hp.length := by
  obtain ⟨sp, s1, p, rfl, -, -, -, -, h5, -⟩ := h.told
  rw [hp_put]
  exact h5
variable {bs : List Nat}
theorem TR.env (T : TR C call ops st tch bs) {S : Stab} {w : World} {ρ : Rho} {t : Nat} {v : Value} (d : Nat) : ∀ m, m + d ≤ ops.size → (∀ k o, m ≤ k → k < m + d → ops[k]? = some o → o.dst ≠ some t) → VR C.E S w ρ (look (st m).env t) v → VR C.E S w ρ (look (st (m + d)).env t) v := by
  induction d with
  | zero => intro m _ _ h; exact h
  | succ d ih =>
    intro m hm hk h
    have hlt : m + d < ops.size := by omega
    have ho : ops[m + d]? = some ops[m + d] := Array.getElem?_eq_getElem hlt
    exact ((T.s (m + d) _ ho).1).env (hk _ _ (by omega) (by omega) ho) (ih m (by omega) (fun k o h1 h2 => hk k o h1 (by omega)) h)
theorem TR.hp (T : TR C call ops st tch bs) {b : Nat} (d : Nat) : ∀ m, m + d ≤ ops.size → (∀ k, m ≤ k → k < m + d → (b, true) ∉ tch k) → (st (m + d)).hp[b]? = (st m).hp[b]? := by
  induction d with
  | zero => intro m _ _; rfl
  | succ d ih =>
    intro m hm hk
    have hlt : m + d < ops.size := by omega
    have ho : ops[m + d]? = some ops[m + d] := Array.getElem?_eq_getElem hlt
    exact (((T.s (m + d) _ ho).1).hp (hk _ (by omega) (by omega))).trans (ih m (by omega) (fun k h1 h2 => hk k h1 (by omega)))
theorem TR.len (T : TR C call ops st tch bs) (d : Nat) : ∀ m, m + d ≤ ops.size → (st m).hp.length ≤ (st (m + d)).hp.length := by
  induction d with
  | zero => intro m _; exact Nat.le_refl _
  | succ d ih =>
    intro m hm
    have hlt : m + d < ops.size := by omega
    have ho : ops[m + d]? = some ops[m + d] := Array.getElem?_eq_getElem hlt
    exact Nat.le_trans (ih m (by omega)) ((T.s (m + d) _ ho).1).len
def Li (L : Array Bool) (i : Nat) : Prop := L.getD i false = true
/-- What is done of a region, in whatever order. -/
structure JD (G : G0 N) (C : Cfg N) (ops : Array Oper) (st : Nat → St N) (tch : Nat → List (Nat × Bool)) (bs : List Nat) (S : Stab) (ρ : Rho) (L : Array Bool) (a : Act) (w : World) : Prop where
  cx : Cx G.w0 G.X S ρ w
  s0 : ∀ b o, G.S0 b o → S b o ∧ w.cell? ⟨b, o, none⟩ = G.w0.cell? ⟨b, o, none⟩
  new : ∀ b o, S b o → ¬ G.S0 b o → G.X b ∨ G.w0.heap.size ≤ b
  ids : ∀ b, b < G.nb → ρ b = G.ρ0 b ∧ ∃ i, G.ρ0 b = some i ∧ i.kind ≠ 1
  size : a.tmps.size = C.nt
  defers : a.defers = []
  lsz : L.size = ops.size
  closed : ∀ j, Li L j → ∀ i, (befAt ops.size bs j).testBit i = true → Li L i
  env : ∀ t, (∃ i o, Li L i ∧ ops[i]? = some o ∧ o.dst = some t ∧ (∀ k o', Li L k → ops[k]? = some o' → o'.dst = some t → k ≤ i) ∧ VR C.E S w ρ (look (st (i + 1)).env t) (a.tmps.getD t undef)) ∨ ((∀ k o', Li L k → ops[k]? = some o' → o'.dst ≠ some t) ∧ VR C.E S w ρ (look (st 0).env t) (a.tmps.getD t undef))
  blk : ∀ b, (∃ i, Li L i ∧ (b, true) ∈ tch i ∧ (∀ k, Li L k → (b, true) ∈ tch k → k ≤ i) ∧ ∀ blk, (st (i + 1)).hp[b]? = some (some blk) → BR C.E S ρ w b blk) ∨ ((∀ k, Li L k → (b, true) ∉ tch k) ∧ ∀ blk, (st 0).hp[b]? = some (some blk) → BR C.E S ρ w b blk)
  dom : ∀ b i, ρ b = some i → b < (st 0).hp.length ∨ ∃ k, Li L k ∧ (st k).hp.length ≤ b ∧ b < (st (k + 1)).hp.length ∧ (b, true) ∈ tch k
theorem Li.lt {L : Array Bool} {i : Nat} (h : Li L i) : i < L.size := by
  unfold Li at h
  rcases Nat.lt_or_ge i L.size with h' | h'
  · exact h'
  · rw [Array.getD_eq_getD_getElem?, Array.getElem?_eq_none h'] at h; exact absurd h (by simp)
theorem Li.set {L : Array Bool} {j : Nat} (hj : j < L.size) (i : Nat) : Li (L.setIfInBounds j true) i ↔ (i = j ∨ Li L i) := by
  unfold Li
  rw [Array.getD_eq_getD_getElem?, Array.getD_eq_getD_getElem?]
  by_cases h : i = j
  · subst h; rw [Array.getElem?_setIfInBounds_self_of_lt hj]; simp
  · rw [Array.getElem?_setIfInBounds_ne (fun e => h e.symm)]; simp [h]
section
variable {S : Stab} {w : World} {ρ : Rho} {L : Array Bool} {a : Act} {j : Nat} {o : Oper}
/-- The operation j may come next. -/
structure Nxt (ops : Array Oper) (bs : List Nat) (L : Array Bool) (j : Nat) (o : Oper) : Prop where
  o : ops[j]? = some o
  lt : j < ops.size
  no : ¬ Li L j
  bef : ∀ i, (befAt ops.size bs j).testBit i = true → Li L i
  aft : ∀ k, Li L k → (befAt ops.size bs k).testBit j = false
theorem JD.next (T : TR C call ops st tch bs) (J : JD G C ops st tch bs S ρ L a w) (hr : j ∈ Region.ready .any ops L) : ∃ o, Nxt ops bs L j o := by
  obtain ⟨h1, o, ho, h2⟩ := mem_ready.mp hr
  have hlt : j < ops.size := (Array.getElem?_eq_some_iff.1 ho).1
  have no : ¬ Li L j := fun h => by
    unfold Li at h
    rw [Array.getD_eq_getD_getElem?] at h h1
    have hl : j < L.size := by rw [J.lsz]; exact hlt
    rw [Array.getElem?_eq_getElem hl] at h h1
    simp at h h1
    rw [h1] at h; exact absurd h (by simp)
  refine ⟨o, ho, hlt, no, fun i hi => ?_, fun k hk => ?_⟩
  · have hb := T.b
    subst hb
    rw [befAt_spec T.e ho] at hi
    obtain ⟨e, he, hb, h | h⟩ := foldBits_bit hi
    · exact h ▸ h2 e (by simpa using he) hb
    · exact J.closed e.on (h2 e (by simpa using he) hb) i h
  · rw [← Bool.not_eq_true]
    exact fun h => no (J.closed k hk j h)
theorem JD.op_env (T : TR C call ops st tch bs) (J : JD G C ops st tch bs S ρ L a w) (H : Nxt ops bs L j o) {t : Nat} (ht : t ∈ o.looksAt ops) : VR C.E S w ρ (look (st j).env t) (a.tmps.getD t undef) := by
  -- writers ahead of j are done
  have ahead : ∀ k o', k < j → ops[k]? = some o' → o'.dst = some t → Li L k := fun k o' hk ho' hd => by
    rcases tmpOk_at T.t hk ho' H.o with h | h
    · exact H.bef k h
    · exact absurd ht ((Oper.apart_spec h).1 t hd)
  rcases J.env t with ⟨i, oi, hi, hoi, hdi, hmax, hv⟩ | ⟨hno, hv⟩
  · have hne : i ≠ j := fun e => H.no (e ▸ hi)
    have hij : i < j := by
      rcases Nat.lt_or_gt_of_ne hne with h | h
      · exact h
      · rcases tmpOk_at T.t h H.o hoi with h' | h'
        · rw [H.aft i hi] at h'; exact absurd h' (by simp)
        · exact absurd ht ((Oper.apart_spec h').2.2 t hdi)
    have := T.env (S := S) (w := w) (ρ := ρ) (t := t) (j - (i + 1)) (i + 1) (by have := H.lt; omega) (fun k o' h1 h2 ho' hd => by
      have := hmax k o' (ahead k o' (by omega) ho' hd) ho' hd
      omega) hv
    rw [show i + 1 + (j - (i + 1)) = j by omega] at this
    exact this
  · have := T.env (S := S) (w := w) (ρ := ρ) (t := t) j 0 (by have := H.lt; omega) (fun k o' h1 h2 ho' hd => hno k o' (ahead k o' (by omega) ho' hd) ho' hd) hv
    rw [Nat.zero_add] at this
    exact this
theorem JD.op_blk (T : TR C call ops st tch bs) (J : JD G C ops st tch bs S ρ L a w) (H : Nxt ops bs L j o) {b : Nat} {wr : Bool} (hb : (b, wr) ∈ tch j) : ∀ blk, (st j).hp[b]? = some (some blk) → BR C.E S ρ w b blk := by
  have ahead : ∀ k, k < j → (b, true) ∈ tch k → Li L k := fun k hk h => H.bef k (logs_pair T.l hk H.lt h hb rfl)
  rcases J.blk b with ⟨i, hi, hbi, hmax, hv⟩ | ⟨hno, hv⟩
  · have hne : i ≠ j := fun e => H.no (e ▸ hi)
    have hil : i < ops.size := J.lsz ▸ hi.lt
    have hij : i < j := by
      rcases Nat.lt_or_gt_of_ne hne with h | h
      · exact h
      · have := logs_pair T.l h hil hb hbi (by simp)
        rw [H.aft i hi] at this; exact absurd this (by simp)
    have := T.hp (b := b) (j - (i + 1)) (i + 1) (by have := H.lt; omega) (fun k h1 h2 h => by
      have := hmax k (ahead k (by omega) h) h
      omega)
    rw [show i + 1 + (j - (i + 1)) = j by omega] at this
    rw [this]
    exact hv
  · have := T.hp (b := b) j 0 (by have := H.lt; omega) (fun k h1 h2 h => hno k (ahead k (by omega) h) h)
    rw [Nat.zero_add] at this
    rw [this]
    exact hv
theorem JD.op_fresh (T : TR C call ops st tch bs) (J : JD G C ops st tch bs S ρ L a w) (H : Nxt ops bs L j o) {b : Nat} (h1 : (st j).hp.length ≤ b) (h2 : b < (st (j + 1)).hp.length) : ρ b = none := by
  cases hr : ρ b with
  | none => rfl
  | some i =>
    exfalso
    rcases J.dom _ _ hr with h | ⟨k, hk, g1, g2, g3⟩
    · have := T.len j 0 (by have := H.lt; omega)
      rw [Nat.zero_add] at this
      omega
    · have hne : k ≠ j := fun e => H.no (e ▸ hk)
      have hkl : k < ops.size := J.lsz ▸ hk.lt
      rcases Nat.lt_or_gt_of_ne hne with h | h
      · have := T.len (j - (k + 1)) (k + 1) (by have := H.lt; omega)
        rw [show k + 1 + (j - (k + 1)) = j by omega] at this
        omega
      · have := T.len (k - (j + 1)) (j + 1) (by omega)
        rw [show j + 1 + (k - (j + 1)) = k by omega] at this
        omega
/-- One more operation is done. -/
theorem JD.step (T : TR C call ops st tch bs) (J : JD G C ops st tch bs S ρ L a w) (H : Nxt ops bs L j o) {S' : Stab} {ρ' : Rho} {w' : World} {p : PV N} {u : Value}
    (cx : Cx G.w0 G.X S' ρ' w') (hS : ∀ b o, S b o → S' b o ∧ w'.cell? ⟨b, o, none⟩ = w.cell? ⟨b, o, none⟩) (hρ : Rle ρ ρ') (hnew : ∀ b o, S' b o → ¬ S b o → G.X b ∨ G.w0.heap.size ≤ b)
    (henv : ∀ t, o.dst = some t → look (st (j + 1)).env t = p) (hp : VR C.E S' w' ρ' p u)
    (hkeep : ∀ b, (b, true) ∉ tch j → ρ' b = ρ b ∧ (st (j + 1)).hp[b]? = (st j).hp[b]? ∧ ∀ i q, ρ b = some i → i.base = some q → i.md < 2 → w'.heap[q]? = w.heap[q]?)
    (hmake : ∀ b blk, (b, true) ∈ tch j → (st (j + 1)).hp[b]? = some (some blk) → ((st j).hp[b]? = some (some blk) ∧ ρ' b = ρ b ∧ ∀ i q, ρ b = some i → i.base = some q → i.md < 2 → w'.heap[q]? = w.heap[q]?) ∨ BR C.E S' ρ' w' b blk)
    (hdom : ∀ b i, ρ b = none → ρ' b = some i → (st j).hp.length ≤ b ∧ b < (st (j + 1)).hp.length ∧ (b, true) ∈ tch j) :
    JD G C ops st tch bs S' ρ' (L.setIfInBounds j true) (a.put o.dst u) w' := by
  have hjl : j < L.size := by rw [J.lsz]; exact H.lt
  have hd : ∀ x, o.dst = some x → x < a.tmps.size := fun x hx => by rw [J.size]; exact dst_ok (T.s j o H.o).2 x hx
  -- a block that is not written by j
  have keep : ∀ b, (b, true) ∉ tch j → ∀ blk, BR C.E S ρ w b blk → BR C.E S' ρ' w' b blk := fun b hb blk h => by
    exact h.mono hS hρ (hkeep b hb).1 (hkeep b hb).2.2
  refine ⟨cx, fun b q h => ⟨(hS b q (J.s0 b q h).1).1, (hS b q (J.s0 b q h).1).2.trans (J.s0 b q h).2⟩, fun b q h h0 => ?_, fun b hb => ?_, by rw [size_put]; exact J.size, by rw [defers_put]; exact J.defers, by rw [Array.size_setIfInBounds]; exact J.lsz, fun k hk i hi => ?_, fun t => ?_, fun b => ?_, fun b i hi => ?_⟩
  · by_cases hh : S b q
    · exact J.new b q hh h0
    · exact hnew b q h hh
  · obtain ⟨h1, i, h2, h3⟩ := J.ids b hb
    refine ⟨?_, i, h2, h3⟩
    obtain ⟨i', g1, g2⟩ := hρ b i (h1.trans h2)
    rw [g1, g2.2.1 h3, h2]
  · rw [Li.set hjl] at hk ⊢
    rcases hk with rfl | hk
    · exact .inr (H.bef i hi)
    · exact .inr (J.closed k hk i hi)
  · rw [tmps_put _ _ _ _ hd]
    by_cases e : o.dst = some t
    · rw [if_pos e]
      refine .inl ⟨j, o, (Li.set hjl _).mpr (.inl rfl), H.o, e, fun k o' hk ho' hdk => ?_, by rw [henv t e]; exact hp⟩
      rcases (Li.set hjl _).mp hk with rfl | hk
      · exact Nat.le_refl _
      · rcases Nat.lt_or_ge j k with h | h
        · rcases tmpOk_at T.t h H.o ho' with h' | h'
          · rw [H.aft k hk] at h'; exact absurd h' (by simp)
          · exact absurd hdk ((Oper.apart_spec h').2.1 t e)
        · exact h
    · rw [if_neg e]
      rcases J.env t with ⟨i, oi, hi, hoi, hdi, hmax, hv⟩ | ⟨hno, hv⟩
      · refine .inl ⟨i, oi, (Li.set hjl _).mpr (.inr hi), hoi, hdi, fun k o' hk ho' hdk => ?_, hv.mono hS hρ⟩
        rcases (Li.set hjl _).mp hk with rfl | hk
        · rw [H.o] at ho'; injection ho' with ho'; subst ho'; exact absurd hdk e
        · exact hmax k o' hk ho' hdk
      · refine .inr ⟨fun k o' hk ho' hdk => ?_, hv.mono hS hρ⟩
        rcases (Li.set hjl _).mp hk with rfl | hk
        · rw [H.o] at ho'; injection ho' with ho'; subst ho'; exact absurd hdk e
        · exact hno k o' hk ho' hdk
  · by_cases hb : (b, true) ∈ tch j
    · refine .inl ⟨j, (Li.set hjl _).mpr (.inl rfl), hb, fun k hk hbk => ?_, fun blk hblk => ?_⟩
      · rcases (Li.set hjl _).mp hk with rfl | hk
        · exact Nat.le_refl _
        · rcases Nat.lt_or_ge j k with h | h
          · have := logs_pair T.l h (J.lsz ▸ hk.lt) hb hbk rfl
            rw [H.aft k hk] at this; exact absurd this (by simp)
          · exact h
      · rcases hmake b blk hb hblk with ⟨h1, h2⟩ | h1
        · exact (J.op_blk T H hb blk h1).mono hS hρ h2.1 h2.2
        · exact h1
    · rcases J.blk b with ⟨i, hi, hbi, hmax, hv⟩ | ⟨hno, hv⟩
      · refine .inl ⟨i, (Li.set hjl _).mpr (.inr hi), hbi, fun k hk hbk => ?_, fun blk hblk => keep b hb blk (hv blk hblk)⟩
        rcases (Li.set hjl _).mp hk with rfl | hk
        · exact absurd hbk hb
        · exact hmax k hk hbk
      · refine .inr ⟨fun k hk hbk => ?_, fun blk hblk => keep b hb blk (hv blk hblk)⟩
        rcases (Li.set hjl _).mp hk with rfl | hk
        · exact absurd hbk hb
        · exact hno k hk hbk
  · have old : ∀ i, ρ b = some i → b < (st 0).hp.length ∨ ∃ k, Li (L.setIfInBounds j true) k ∧ (st k).hp.length ≤ b ∧ b < (st (k + 1)).hp.length ∧ (b, true) ∈ tch k := fun i hi => by
      rcases J.dom b i hi with h | ⟨k, hk, h⟩
      · exact .inl h
      · exact .inr ⟨k, (Li.set hjl _).mpr (.inr hk), h⟩
    cases hq : ρ b with
    | none =>
      have := hdom b i hq hi
      exact .inr ⟨j, (Li.set hjl _).mpr (.inl rfl), this⟩
    | some i0 => exact old i0 hq
end
end
/-! ### regions, code, calls -/
section
variable {N : Nat → Type} {G : G0 N} {C : Cfg N} {R : Type} {r : R} {call : FuncId → List (PV N) → Heap N → Option (List (PV N) × Heap N)} {ops : Array Oper} {st : Nat → St N} {tch : Nat → List (Nat × Bool)} {bs : List Nat} {Q : Exit → Act → World → Prop} {S : Stab} {w : World} {ρ : Rho} {a : Act} {s : St N}
theorem looks_op {o : Oper} {t : Nat} (h : Operand.tmp t ∈ o.op.operands) : t ∈ o.looksAt ops := by
  refine List.mem_append_left _ (List.mem_filterMap.mpr ⟨.tmp t, by simpa using h, rfl⟩)
/-- One operation in whatever order. -/
theorem JD.wpOp (hE : EncOK C.E) (hcall : CallOK C.P C.E C.T.gl call ∧ InpOK C.T ∧ Glob C.T.gl G.w0 G.X) (T : TR C call ops st tch bs) {L : Array Bool} (J : JD G C ops st tch bs S ρ L a w) {j : Nat} (hr : j ∈ Region.ready .any ops L) {K : Act → World → Prop}
    (hK : ∀ a w, (∃ S ρ, JD G C ops st tch bs S ρ (L.setIfInBounds j true) a w) → K a w) : wpOp C.P ops Q j K a w := by
  obtain ⟨o, H⟩ := J.next T hr
  unfold Go.wpOp
  simp only [H.o]
  have run : ∀ (sp : St N), sp.hp = (st j).hp → (∀ t, t ∈ o.looksAt ops → VR C.E S w ρ (look sp.env t) (a.tmps.getD t undef)) → (∃ v s1, st1 C call sp o = some (v, s1) ∧ tch j = tchO C sp o s1 ∧ st (j + 1) = s1.put o.dst v) → o.wp C.P a w K Q := by
    intro sp hhp hv ⟨v, s1, h1, htc, h2⟩
    have e2 : (st (j + 1)).hp = s1.hp := by rw [h2, hp_put]
    refine op_steps hE hcall J.cx (fun b hb1 hb2 => J.op_fresh T H (by rw [← hhp]; exact hb1) (by rw [e2]; exact hb2)) h1 (fun t ht => hv t (looks_op ht)) (fun b wr hb blk hblk => J.op_blk T H (wr := wr) (htc ▸ List.mem_append_left _ hb) blk (hhp ▸ hblk)) (st1_eff h1).2.1 K Q (fun u w' S' ρ' out hp => hK _ _ ⟨S', ρ', ?_⟩)
    refine J.step T H out.cx out.st out.rho out.new (fun t ht => by rw [h2, look_put, if_pos ht]) hp ?_ ?_ ?_
    · intro b hb; rw [e2, ← hhp]; exact out.keep b (by rw [← htc]; exact hb)
    · intro b blk hb hq; rw [e2] at hq; rw [← hhp]; exact out.make b blk (by rw [← htc]; exact hb) hq
    · intro b i h0 h1; rw [e2, ← hhp, htc]; exact out.dom b i h0 h1
  rcases (T.s j o H.o).1 with ⟨hg, v, s1, h1, h2, h3⟩ | ⟨k, want, t, b, hg, ht, hb, h⟩ | ⟨k, want, t, cs, hg, ht, hcs, h2, h3⟩
  · rw [show Region.wanted o (yielded ops a.tmps) = true by simp [Region.wanted, hg], if_pos rfl]
    exact .inl (run (st j) rfl (fun t ht => J.op_env T H ht) ⟨v, s1, h1, h2, h3⟩)
  · have htl : t ∈ o.looksAt ops := by simp [Oper.looksAt, hg, ht]
    have hbv := hb.value (J.op_env T H htl)
    have hy := yielded_of ht hbv
    have hw : Region.wanted o (yielded ops a.tmps) = (b == want) := by
      simp only [Region.wanted, hg, hy]
      cases b <;> cases want <;> rfl
    have told : ∀ u, u ∈ o.looksAt ops → VR C.E S w ρ (look ((st j).put (some t) (.bool b)).env u) (a.tmps.getD u undef) := fun u hu => by
      rw [look_put]
      by_cases e : some t = some u
      · rw [if_pos e]; injection e with e; subst e; rw [hbv]; exact .bool b
      · rw [if_neg e]; exact J.op_env T H hu
    rw [hw]
    rcases h with ⟨hbw, v, s1, h1, h2, h3⟩ | ⟨hbw, h2, h3⟩
    · rw [hbw, if_pos rfl]
      exact .inl (run _ (hp_put _ _ _) told ⟨v, s1, h1, h2, h3⟩)
    · rw [hbw, if_neg Bool.false_ne_true]
      refine hK _ _ ⟨S, ρ, J.step T H J.cx (fun _ _ h => ⟨h, rfl⟩) (Rle.refl _) (fun _ _ h h' => absurd h h') (fun u hu => by rw [h3, look_put, if_pos hu]) (.tup [] #[] .nil) (fun b _ => ⟨rfl, by rw [h3, hp_put, hp_put], fun _ _ _ _ _ => rfl⟩) (fun b blk _ hq => .inl ⟨by rw [h3, hp_put, hp_put] at hq; exact hq, rfl, fun _ _ _ _ _ => rfl⟩) (fun b i h0 h1 => by rw [h0] at h1; exact absurd h1 (by simp))⟩
  · have htl : t ∈ o.looksAt ops := by simp [Oper.looksAt, hg, ht]
    have hvt := J.op_env T H htl
    rw [hcs] at hvt
    generalize hq : a.tmps.getD t undef = q at hvt
    cases hvt with
    | tup _ vs _ =>
      have hw : Region.wanted o (yielded ops a.tmps) = false := by simp [Region.wanted, hg, yielded_none ht hq]
      rw [hw, if_neg Bool.false_ne_true]
      refine hK _ _ ⟨S, ρ, J.step T H J.cx (fun _ _ h => ⟨h, rfl⟩) (Rle.refl _) (fun _ _ h h' => absurd h h') (fun u hu => by rw [h3, look_put, if_pos hu]) (.tup [] #[] .nil) (fun b _ => ⟨rfl, by rw [h3, hp_put], fun _ _ _ _ _ => rfl⟩) (fun b blk _ hq => .inl ⟨by rw [h3, hp_put] at hq; exact hq, rfl, fun _ _ _ _ _ => rfl⟩) (fun b i h0 h1 => by rw [h0] at h1; exact absurd h1 (by simp))⟩
theorem JD.all (hE : EncOK C.E) (hGE : G.E = C.E) (hGn : G.n = C.nt) (hcall : CallOK C.P C.E C.T.gl call ∧ InpOK C.T ∧ Glob C.T.gl G.w0 G.X) (T : TR C call ops st tch bs) {K : Act → World → Prop} (hQ : ∀ a w, K a w → Q .normal a w) (hK : ∀ a w, SX G (st ops.size) a w → K a w) :
    ∀ (fuel : Nat) (L : Array Bool) (U : List Nat) (a : Act) (w : World), U.length = fuel → (∀ i, i < ops.size → (Li L i ↔ i ∉ U)) → (∃ S ρ, JD G C ops st tch bs S ρ L a w) → wpAny C.P .any ops Q fuel L a w := by
  -- the end
  have fin : ∀ (L : Array Bool) (a : Act) (w : World), (∀ i, i < ops.size → Li L i) → (∃ S ρ, JD G C ops st tch bs S ρ L a w) → Q .normal a w := by
    intro L a w hall ⟨S, ρ, J⟩
    refine hQ _ _ (hK _ _ ⟨S, ρ, J.cx, J.s0, J.new, fun t => ?_, fun b blk hb => ?_, fun b hb => ?_, J.ids, by rw [hGn]; exact J.size, J.defers⟩)
    · rw [hGE]
      rcases J.env t with ⟨i, o, hi, ho, hd, hmax, hv⟩ | ⟨hno, hv⟩
      · have hil : i < ops.size := J.lsz ▸ hi.lt
        have := T.env (S := S) (w := w) (ρ := ρ) (t := t) (ops.size - (i + 1)) (i + 1) (by omega) (fun k o' h1 h2 ho' hd' => by
          have := hmax k o' (hall k (by omega)) ho' hd'
          omega) hv
        rw [show i + 1 + (ops.size - (i + 1)) = ops.size by omega] at this
        exact this
      · have := T.env (S := S) (w := w) (ρ := ρ) (t := t) ops.size 0 (by omega) (fun k o' h1 h2 ho' hd' => hno k o' (hall k (by omega)) ho' hd') hv
        rw [Nat.zero_add] at this
        exact this
    · rw [hGE]
      rcases J.blk b with ⟨i, hi, hbi, hmax, hv⟩ | ⟨hno, hv⟩
      · have hil : i < ops.size := J.lsz ▸ hi.lt
        have := T.hp (b := b) (ops.size - (i + 1)) (i + 1) (by omega) (fun k h1 h2 h => by
          have := hmax k (hall k (by omega)) h
          omega)
        rw [show i + 1 + (ops.size - (i + 1)) = ops.size by omega] at this
        rw [this] at hb
        exact hv blk hb
      · have := T.hp (b := b) ops.size 0 (by omega) (fun k h1 h2 h => hno k (hall k (by omega)) h)
        rw [Nat.zero_add] at this
        rw [this] at hb
        exact hv blk hb
    · cases hr : ρ b with
      | none => rfl
      | some i =>
        exfalso
        rcases J.dom b i hr with h | ⟨k, hk, h1, h2, h3⟩
        · have := T.len ops.size 0 (by omega)
          rw [Nat.zero_add] at this
          omega
        · have hkl : k < ops.size := J.lsz ▸ hk.lt
          have := T.len (ops.size - (k + 1)) (k + 1) (by omega)
          rw [show k + 1 + (ops.size - (k + 1)) = ops.size by omega] at this
          omega
  -- no operation is ready only at the end
  have stop : ∀ (L : Array Bool), L.size = ops.size → Region.ready .any ops L = [] → ∀ i, i < ops.size → Li L i := by
    intro L hL hnil i hi
    induction i using Nat.strongRecOn with
    | _ i ih =>
      refine Classical.byContradiction (fun hno => ?_)
      have ho : ops[i]? = some ops[i] := Array.getElem?_eq_getElem hi
      have : i ∈ Region.ready .any ops L := by
        refine mem_ready.mpr ⟨?_, ops[i], ho, fun e he hb => ?_⟩
        · unfold Li at hno
          rw [Array.getD_eq_getD_getElem?, Array.getElem?_eq_getElem (by omega)] at hno ⊢
          simpa using hno
        · have := edgesOk_at ops.toList 0 T.e i ops[i] (by simpa using ho) e he hb
          exact ih e.on (by omega) (by omega)
      rw [hnil] at this
      exact absurd this (by simp)
  intro fuel
  induction fuel with
  | zero =>
    intro L U a w hU hL hJ
    have hall : ∀ i, i < ops.size → Li L i := fun i hi => (hL i hi).mpr (by rw [List.length_eq_zero_iff.mp hU]; simp)
    refine ⟨?_, fin L a w hall hJ⟩
    obtain ⟨S, ρ, J⟩ := hJ
    cases hr : Region.ready .any ops L with
    | nil => rfl
    | cons j l =>
      exfalso
      obtain ⟨o, H⟩ := J.next T (by rw [hr]; exact List.mem_cons_self)
      exact H.no (hall j H.lt)
  | succ fuel ih =>
    intro L U a w hU hL hJ
    refine ⟨fun hnil => fin L a w (stop L (by obtain ⟨S, ρ, J⟩ := hJ; exact J.lsz) hnil) hJ, fun j hj => ?_⟩
    obtain ⟨S, ρ, J⟩ := hJ
    obtain ⟨o, H⟩ := J.next T hj
    have hjU : j ∈ U := Classical.byContradiction (fun h => H.no ((hL j H.lt).mpr h))
    refine J.wpOp hE hcall T hj (fun a w h => ?_)
    by_cases hdup : j ∈ U.erase j
    · -- a list with a number twice: one of them is dropped
      refine ih (L.setIfInBounds j true) ((U.erase j).filter (fun x => x ≠ j) ++ List.replicate ((U.erase j).length - ((U.erase j).filter (fun x => x ≠ j)).length) ops.size) a w ?_ (fun i hi => ?_) h
      · have h1 := List.length_filter_le (fun x => decide (x ≠ j)) (U.erase j)
        have h2 := List.length_erase_of_mem hjU
        simp only [List.length_append, List.length_replicate]
        omega
      · rw [Li.set (by rw [J.lsz]; exact H.lt)]
        simp only [List.mem_append, List.mem_filter, List.mem_replicate, decide_eq_true_eq, ne_eq]
        by_cases e : i = j
        · subst e; simp; intro _ h'; omega
        · simp only [e, false_or, not_false_eq_true, and_true]
          rw [hL i hi, List.mem_erase_of_ne e]
          constructor
          · rintro h' (h'' | ⟨_, h''⟩)
            · exact h' h''
            · omega
          · intro h' h''; exact h' (.inl h'')
    · refine ih (L.setIfInBounds j true) (U.erase j) a w (by rw [List.length_erase_of_mem hjU, hU]; rfl) (fun i hi => ?_) h
      rw [Li.set (by rw [J.lsz]; exact H.lt)]
      by_cases e : i = j
      · subst e; simp [hdup]
      · rw [List.mem_erase_of_ne e, ← hL i hi]; simp [e]
/-- A region. -/
theorem region_ok (hE : EncOK C.E) (hGE : G.E = C.E) (hGn : G.n = C.nt) (hcall : CallOK C.P C.E C.T.gl call ∧ InpOK C.T ∧ Glob C.T.gl G.w0 G.X) (hm : C.P.follows .mixedOrders = true) {draw : Bool} {id : Nat} {F : St N → Option R} (h : evRegion C call ops draw s F = some r) (hs : SX G s a w)
    (hF : ∀ s a w, F s = some r → SX G s a w → Q .normal a w) : (Code.region id ops draw).wp C.P Q a w := by
  unfold evRegion at h
  cases draw with
  | false =>
    rw [cond_false] at h
    have := evOps_seq (ops := ops) (Q := Q) hE hGE hGn hcall (F := fun s _ => F s) (K := Q .normal) (fun s l a w h hs => hF s a w h hs) (fun _ _ h => h) ops.toList 0 s [] a w rfl h hs
    refine wp_region ?_
    rw [List.range_eq_range']
    rw [Array.length_toList] at this
    exact this
  | true =>
    rw [cond_true] at h
    by_cases hc : (edgesOk ops.toList 0 && tmpOk ops (befs ops.toList 0 [])) = true
    case neg => rw [Bool.not_eq_true] at hc; rw [hc, cond_false] at h; exact absurd h (by simp)
    rw [hc, cond_true] at h
    rw [Bool.and_eq_true] at hc
    obtain ⟨st, tch, h1, h2, h3⟩ := evOps_trace (ops := ops) ops.toList 0 s [] rfl h
    (try dsimp only at h3)
    simp only [Nat.zero_add, Array.length_toList] at h3
    by_cases hl : logOk ops.size (befs ops.toList 0 []) (logs tch 0 ops.size []) = true
    case neg => rw [Bool.not_eq_true] at hl; rw [hl, cond_false] at h3; exact absurd h3 (by simp)
    rw [hl, cond_true] at h3
    have T : TR C call ops st tch (befs ops.toList 0 []) := ⟨fun k o ho => h2 k o (Nat.zero_le _) ho, hc.1, rfl, hc.2, hl⟩
    obtain ⟨S, ρ, hs⟩ := hs
    refine wp_region_any hm ?_
    refine JD.all (G := G) hE hGE hGn hcall T (K := Q .normal) (fun _ _ h => h) (fun a w hx => hF _ a w h3 hx) ops.size _ (List.range ops.size) a _ (List.length_range) (fun i hi => ?_) ⟨S, ρ, ?_⟩
    · unfold Li
      rw [Array.getD_eq_getD_getElem?, Array.getElem?_replicate, if_pos hi]
      simp [hi]
    · have no : ∀ i, ¬ Li (Array.replicate ops.size false) i := fun i h => by
        unfold Li at h
        rw [Array.getD_eq_getD_getElem?, Array.getElem?_replicate] at h
        split at h <;> exact absurd h (by simp)
      have hcell : ∀ b o, S b o → S b o ∧ ({ w with drawn := w.drawn + 1 } : World).cell? ⟨b, o, none⟩ = w.cell? ⟨b, o, none⟩ := fun b o h => ⟨h, rfl⟩
      have henv := hs.env
      have hblk := hs.blk
      rw [hGE] at henv hblk
      exact ⟨⟨hs.cx.bel.trans ⟨rfl, rfl, rfl, Nat.le_refl _, fun _ _ _ => rfl⟩, hs.cx.st, hs.cx.lt, hs.cx.own, hs.cx.inj⟩, hs.s0, hs.new, hs.ids, by rw [← hGn]; exact hs.size, hs.defers, by simp, fun j hj => absurd hj (no j),
        fun t => .inr ⟨fun k _ hk => absurd hk (no k), by rw [h1]; exact (henv t).mono hcell (Rle.refl _)⟩,
        fun b => .inr ⟨fun k hk => absurd hk (no k), fun blk hb => by rw [h1] at hb; exact (hblk b blk hb).mono hcell (Rle.refl _) rfl (fun _ _ _ _ _ => rfl)⟩,
        fun b i hi => .inl (by
          rw [h1]
          rcases Nat.lt_or_ge b s.hp.length with h | h
          · exact h
          · rw [hs.fresh b h] at hi; exact absurd hi (by simp))⟩
end
/-! ### control -/
section
variable {N : Nat → Type} {G : G0 N} {S : Stab} {w : World} {ρ : Rho} {C : Cfg N} {a : Act} {s : St N} {R : Type} {r : R} {call : FuncId → List (PV N) → Heap N → Option (List (PV N) × Heap N)} {Q : Exit → Act → World → Prop} {u : Nat → Value}
/-- A state and values. -/
structure SU (G : G0 N) (S : Stab) (ρ : Rho) (s : St N) (u : Nat → Value) (w : World) : Prop where
  cx : Cx G.w0 G.X S ρ w
  s0 : ∀ b o, G.S0 b o → S b o ∧ w.cell? ⟨b, o, none⟩ = G.w0.cell? ⟨b, o, none⟩
  new : ∀ b o, S b o → ¬ G.S0 b o → G.X b ∨ G.w0.heap.size ≤ b
  env : ∀ t, VR G.E S w ρ (look s.env t) (u t)
  blk : ∀ b blk, s.hp[b]? = some (some blk) → BR G.E S ρ w b blk
  fresh : ∀ b, s.hp.length ≤ b → ρ b = none
  ids : ∀ b, b < G.nb → ρ b = G.ρ0 b ∧ ∃ i, G.ρ0 b = some i ∧ i.kind ≠ 1
theorem SR.su (h : SR G S ρ s a w) : SU G S ρ s (fun t => a.tmps.getD t undef) w := ⟨h.cx, h.s0, h.new, h.env, h.blk, h.fresh, h.ids⟩
theorem SU.sr (h : SU G S ρ s (fun t => a.tmps.getD t undef) w) (h1 : a.tmps.size = G.n) (h2 : a.defers = []) : SR G S ρ s a w := ⟨h.cx, h.s0, h.new, h.env, h.blk, h.fresh, h.ids, h1, h2⟩
def tcAll (M : Nat) : List (Nat × Bool) := (List.range M).map fun b => (b, true)
theorem tcAll_mem {M b : Nat} (h : b < M) : (b, true) ∈ tcAll M := List.mem_map.mpr ⟨b, List.mem_range.mpr h, rfl⟩
theorem SU.prep (h : SU G S ρ s u w) (an : Ann) : ∃ S' ρ', SU G S' ρ' (prep an s) u w := by
  have hle : s.hp.length ≤ (Go.Vm.prep an s).hp.length := prep_len an s
  have know : Know G.E w (tcAll (Go.Vm.prep an s).hp.length) S ρ s.hp (Go.Vm.prep an s).hp.length := ⟨fun b _ _ => h.blk b, fun b h1 _ => h.fresh b h1, fun b _ h2 => tcAll_mem h2⟩
  have pre0 : PreR G.E G.w0 G.X w (tcAll (Go.Vm.prep an s).hp.length) u S ρ s.hp S ρ s := ⟨Out.refl h.cx, h.env⟩
  obtain ⟨S1, ρ1, p⟩ := prep_pre (a := an) pre0 know (Nat.le_refl _) (fun t b v _ => ⟨h.blk b, fun v e c l h0 => tcAll_mem (Nat.lt_of_lt_of_le (List.getElem?_eq_some_iff.mp h0).1 hle)⟩) (fun b hb => by
    have hid : isId (mid an s).hp b = true := (List.mem_filter.mp hb).2
    obtain ⟨blk, h1, -⟩ := isId_some hid
    exact tcAll_mem (Nat.lt_of_lt_of_le (List.getElem?_eq_some_iff.mp h1).1 (nilBs_len _ _))) (.inr (fun c hc => tcAll_mem (Nat.lt_of_lt_of_le hc hle)))
  refine ⟨S1, ρ1, p.out.cx, fun b o hb => ?_, fun b o h1 h0 => ?_, p.env, fun b => p.out.br (h.blk b), fun b hb => ?_, fun b hb => ?_⟩
  · obtain ⟨g1, g2⟩ := h.s0 b o hb
    exact ⟨(p.out.st b o g1).1, g2⟩
  · by_cases hs : S b o
    · exact h.new b o hs h0
    · exact p.out.new b o h1 hs
  · cases hq : ρ1 b with
    | none => rfl
    | some i => have := p.out.dom b i (h.fresh b (Nat.le_trans hle hb)) hq; omega
  · obtain ⟨h1, i, h2, h3⟩ := h.ids b hb
    refine ⟨?_, i, h2, h3⟩
    obtain ⟨i', g1, g2⟩ := p.out.rho b i (h1.trans h2)
    rw [g1, g2.2.1 h3, h2]
theorem SU.renum (h : SU G S ρ s u w) (keep : List Tmp) {ord : List Nat} (hn : nodupN ord = true) (hid : ∀ b, b < G.nb → ord[b]? = some b) : SU G S (ordRho ρ ord) (renum s keep ord) u w := by
  have hbr : ∀ b ∈ ord, ∀ blk, s.hp[b]? = some (some blk) → BR G.E S ρ w b blk := fun b _ => h.blk b
  refine ⟨⟨h.cx.bel, h.cx.st, fun b i q hi hq hm => ?_, fun b i q hi hq hm => ?_, (ord_cx h.cx hn).inj⟩, h.s0, h.new, fun t => ?_, renum_BR hbr, fun b hb => ?_, fun b hb => ?_⟩
  · exact (ord_cx h.cx hn).lt b i q hi hq hm
  · obtain ⟨b', j, h1, h2, rfl⟩ := ordRho_some hi
    have := ((ord_cx h.cx hn).own b _ q hi hq hm).2
    rw [resetI_base] at hq; rw [resetI_md] at hm
    exact ⟨(h.cx.own b' j q h2 hq hm).1, this⟩
  · show VR G.E S w _ (look (keepEnv _ _ s.env keep) t) _
    rcases look_keepEnv (fun b => inv b ord) (verNew s.hp) s.env t keep with e | e
    · rw [e]; exact (h.env t).mv (moves_ord hbr)
    · rw [e]; exact .bad _
  · have hb : ord.length ≤ b := by simpa [Go.Vm.renum] using hb
    unfold ordRho
    rw [List.getElem?_eq_none hb]; rfl
  · obtain ⟨h1, i, h2, h3⟩ := h.ids b hb
    refine ⟨?_, i, h2, h3⟩
    rw [ordRho_at (hid b hb) (h1.trans h2), resetI_id h3, h2]
theorem ordOf_id {keep : List Tmp} {nb b : Nat} (hb : b < nb) : (ordOf s keep nb)[b]? = some b := by
  unfold ordOf
  rw [List.getElem?_append_left (by rw [List.length_range]; exact hb), List.getElem?_range hb]
theorem SU.form (h : SU G S ρ s u w) (an : Ann) {nb : Nat} (hnb : nb = G.nb) : ∃ S' ρ', SU G S' ρ' (toForm nb an s) u w := by
  subst hnb
  obtain ⟨S1, ρ1, h1⟩ := h.prep an
  unfold toForm
  dsimp only
  cases hn : nodupN (ordOf (Go.Vm.prep an s) an.keep G.nb) with
  | false => exact ⟨S, ρ, h⟩
  | true => exact ⟨S1, _, h1.renum an.keep hn (fun b hb => ordOf_id hb)⟩
theorem SX.canon (h : SX G s a w) (hnb : C.nb = G.nb) (c : Code) : SX G (canon C c s) a w := by
  obtain ⟨S, ρ, h⟩ := h
  unfold Go.Vm.canon
  split
  · exact ⟨S, ρ, h⟩
  · split
    · exact ⟨S, ρ, h⟩
    · rename_i an _
      obtain ⟨S', ρ', h'⟩ := h.su.form an hnb
      exact ⟨S', ρ', h'.sr h.size h.defers⟩
/-- A loop with a count of its own. -/
theorem wp_loop_of {P : Program} {c : Code} (I : Nat → Act → World → Prop) {m : Nat} (h₀ : I m a w) (round : ∀ m a w, I m a w → c.wp P (Exit.then (fun a w => ∃ m', m' < m ∧ I m' a w) Q) a w) : (Code.loop c).wp P Q a w := by
  classical
  have least : ∀ (p : Nat → Prop), (∃ m, p m) → ∃ m, p m ∧ ∀ k, p k → m ≤ k := by
    intro p ⟨m, hm⟩
    induction m using Nat.strongRecOn with
    | _ m ih =>
      by_cases h : ∃ k, k < m ∧ p k
      · obtain ⟨k, hk, hp⟩ := h; exact ih k hk hp
      · exact ⟨m, hm, fun k hk => Nat.le_of_not_lt (fun hl => h ⟨k, hl, hk⟩)⟩
  let μ : Act → World → Nat := fun a w => if h : ∃ m, I m a w then (least (fun m => I m a w) h).choose else 0
  have hμ : ∀ a w, (∃ m, I m a w) → I (μ a w) a w ∧ ∀ k, I k a w → μ a w ≤ k := fun a w h => by
    have := (least (fun m => I m a w) h).choose_spec
    simp only [μ, dif_pos h]
    exact this
  refine wp_loop (fun a w => ∃ m, I m a w) μ ⟨m, h₀⟩ (fun a w hI => ?_)
  have h1 := hμ a w hI
  refine wp_mono (round (μ a w) a w h1.1) (fun e a' w' hq => ?_)
  cases e with
  | normal =>
    obtain ⟨m', hm', hI'⟩ := hq
    exact ⟨⟨m', hI'⟩, Nat.lt_of_le_of_lt ((hμ a' w' ⟨m', hI'⟩).2 m' hI') hm'⟩
  | _ => exact hq
theorem cutAt_some {C : Cfg N} {k : Nat} {b : Code} {R : Type} {r : R} {G : St N → Option R} {s : St N} (h : cutAt C k b G s = some r) : G s = some r := by
  have hk : stopK k G s = G s := by cases k <;> rfl
  unfold cutAt at h
  split at h
  · cases hc : C.T.cut C.f ‹_› with
    | true => rw [hc, cond_true, hk] at h; exact h
    | false => rw [hc, cond_false] at h; exact h
  · exact h
theorem evC_ok (hE : EncOK C.E) (hGE : G.E = C.E) (hGn : G.n = C.nt) (hnb : C.nb = G.nb) (hcall : CallOK C.P C.E C.T.gl call ∧ InpOK C.T ∧ Glob C.T.gl G.w0 G.X) (hm : C.P.follows .mixedOrders = true) {k : Nat} {Rt : St N → Option R} (c : Code) : ∀ (Q : Exit → Act → World → Prop) (s : St N) (a : Act) (w : World) (F : St N → Option R) (X : Nat → St N → Option R),
    evC C call k Rt c s F X = some r → SX G s a w → (∀ s a w, Rt s = some r → SX G s a w → Q .ret a w) → (∀ s a w, F s = some r → SX G s a w → Q .normal a w) → (∀ i s a w, X i s = some r → SX G s a w → Q (.exit i) a w) → c.wp C.P Q a w := by
  induction c with
  | skip => intro Q s a w F X h hs hR hF hX; exact wp_skip (hF s a w h hs)
  | region id ops draw => intro Q s a w F X h hs hR hF hX; exact region_ok hE hGE hGn hcall hm h hs hF
  | seq x y ihx ihy =>
    intro Q s a w F X h hs hR hF hX
    simp only [evC] at h
    exact wp_seq (ihx _ s a w _ _ h hs hR (fun s a w h hs => ihy Q _ a w F X (cutAt_some h) (hs.canon hnb y) hR hF hX) hX)
  | cond c x y ihx ihy =>
    intro Q s a w F X h hs hR hF hX
    simp only [evC] at h
    obtain ⟨S, ρ, hs'⟩ := hs
    have henv := hs'.env
    rw [hGE] at henv
    obtain ⟨b, hb, h, -⟩ := forkB_ok h (val_VR (C := C) 0 (fun u _ => henv u) : VR C.E S w ρ (val C 0 s.env c) (a.eval c))
    refine wp_cond hb ?_
    cases b with
    | true => rw [cond_true] at h; exact ihx Q s a w F X h ⟨S, ρ, hs'⟩ hR hF hX
    | false => rw [cond_false] at h; exact ihy Q s a w F X h ⟨S, ρ, hs'⟩ hR hF hX
  | block id x ih =>
    intro Q s a w F X h hs hR hF hX
    simp only [evC] at h
    refine wp_block (ih _ s a w F _ h hs hR hF (fun i s a w h hs => ?_))
    by_cases e : i = id
    · subst e
      rw [show Nat.beq i i = true by simp, cond_true] at h
      simp only [Exit.inBlock, if_true]
      exact hF s a w h hs
    · have : Nat.beq i id = false := by rw [← Bool.not_eq_true]; exact fun h => e (Nat.eq_of_beq_eq_true h)
      rw [this, cond_false] at h
      simp only [Exit.inBlock, if_neg e]
      exact hX i s a w h hs
  | loop x ih =>
    intro Q s a w F X h hs hR hF hX
    simp only [evC] at h
    refine wp_loop_of (fun m a w => ∃ s, SX G s a w ∧ rounds (fun s K => evC C call k Rt x s (fun s => K (canon C x s)) X) m s = some r) ⟨_, hs.canon hnb x, h⟩ (fun m a w hI => ?_)
    obtain ⟨s, hs, h⟩ := hI
    cases m with
    | zero => exact absurd h (by simp [rounds])
    | succ m =>
      simp only [rounds] at h
      exact ih _ s a w _ X h hs hR (fun s a w h hs => ⟨m, Nat.lt_succ_self m, _, hs.canon hnb x, h⟩) hX
  | exit id => intro Q s a w F X h hs hR hF hX; exact wp_exit (hX id s a w h hs)
  | ret => intro Q s a w F X h hs hR hF hX; exact wp_ret (hR s a w h hs)
  | rangeFunc f p x y => intro Q s a w F X h; exact absurd h (by simp [evC])
  | scope x ih => intro Q s a w F X h hs hR hF hX; exact wp_scope_straight (ih (Exit.noGoto Q) s a w F X h hs hR hF hX)
  | label l => intro Q s a w F X h hs hR hF hX; exact wp_label (hF s a w h hs)
  | goto l => intro Q s a w F X h; exact absurd h (by simp [evC])
  | refuse y => intro Q s a w F X h; exact absurd h (by simp [evC])
end
/-! ### functions -/
section
variable {N : Nat → Type} {G : G0 N} {S : Stab} {w : World} {ρ : Rho} {C : Cfg N} {a : Act} {s : St N}
theorem resVals_run (hGE : G.E = C.E) (h : SR G S ρ s a w) : ∀ (l : List ResultVar) (r : List (PV N)), resVals C s l = some r → ∃ us : List Value, us.length = l.length ∧ (l.mapM (fun (x : ResultVar) => (match x with | .tmp t => (pure (a.tmps.getD t undef) : Sem Value) | .cell x t => do loadVar t (← asAddr (a.tmps.getD x undef)) : Sem Value))).run C.P w = .ok us w ∧ VRs G.E S w ρ r us := by
  intro l
  induction l with
  | nil => intro r h; simp only [resVals, Option.some.injEq] at h; subst h; exact ⟨[], rfl, rfl, .nil⟩
  | cons x l ih =>
    intro r hr
    cases x with
    | tmp t =>
      simp only [resVals] at hr
      obtain ⟨r', hr', rfl⟩ := Option.map_eq_some_iff.mp hr
      obtain ⟨us, h1, h2, h3⟩ := ih r' hr'
      refine ⟨a.tmps.getD t undef :: us, by rw [List.length_cons, List.length_cons, h1], ?_, .cons _ _ _ _ (h.env t) h3⟩
      rw [List.mapM_cons, Sem.run_bind]
      simp only [Sem.run_pure, Result.andThen_ok, Sem.run_bind, h2]
    | cell x t =>
      simp only [resVals] at hr
      have hx := h.env x
      split at hr
      · rename_i b j hl
        rw [hl] at hx
        generalize hu : a.tmps.getD x undef = u at hx
        cases hx with
        | bptr _ _ i q hi hk hbase =>
          split at hr
          · rename_i cs hh
            obtain ⟨i', q', vs, g1, -, g3, -, g5, g6⟩ := h.blk b _ hh
            rw [hi] at g1; injection g1 with g1; subst g1
            rw [hbase] at g3; injection g3 with g3; subst g3
            rw [hGE] at g6
            obtain ⟨p, v, f1, f2, f3⟩ := load_ok (C := C) (b := q) (o := 0) (j := j) hr g6 (fun c v hc => by rw [Nat.zero_add, cell_of g5]; simpa using hc)
            obtain ⟨r', hr', rfl⟩ := Option.map_eq_some_iff.mp f1
            obtain ⟨us, h1, h2, h3⟩ := ih r' hr'
            rw [Nat.zero_add] at f3
            have f3 : (loadVar t ⟨q, j, none⟩).run C.P w = .ok v w := by
              have : (Instr.loadAt t (.pointer (some ⟨q, j, none⟩))) = loadVar t ⟨q, j, none⟩ := rfl
              rw [← this]; exact f3
            refine ⟨v :: us, by rw [List.length_cons, List.length_cons, h1], ?_, .cons _ _ _ _ (by rw [hGE]; exact f2) h3⟩
            rw [List.mapM_cons, Sem.run_bind]
            have ea : (asAddr (a.tmps.getD x undef)).run C.P w = .ok ⟨q, j, none⟩ w := by rw [hu]; rfl
            simp only [Sem.run_bind, ea, Sem.run_pure, Result.andThen_ok, f3, h2]
          · exact absurd hr (by simp)
      · exact absurd hr (by simp)
theorem results_run {fn : Func} {us : List Value} (h : (fn.results.toList.mapM (fun (x : ResultVar) => (match x with | .tmp t => (pure (a.tmps.getD t undef) : Sem Value) | .cell x t => do loadVar t (← asAddr (a.tmps.getD x undef)) : Sem Value))).run C.P w = .ok us w) :
    ∃ u, (Go.results fn a.tmps).run C.P w = .ok u w ∧ ∀ {E : Enc N} {S : Stab} {w : World} {ρ : Rho} {r : List (PV N)}, VRs E S w ρ r us → ResR E S w ρ r u := by
  have hm : (fn.results.mapM (fun (x : ResultVar) => (match x with | .tmp t => (pure (a.tmps.getD t undef) : Sem Value) | .cell x t => do loadVar t (← asAddr (a.tmps.getD x undef)) : Sem Value))).run C.P w = .ok us.toArray w := by
    rw [Array.mapM_eq_mapM_toList, Sem.run_map, h]
    rfl
  refine ⟨if h : us.toArray.size = 1 then us.toArray[0] else .tuple us.toArray, ?_, fun {E S w ρ r} h3 => ?_⟩
  · unfold Go.results
    rw [Sem.run_bind]
    exact (congrArg (fun z => Result.andThen z (fun b w' => (pure (if h : b.size = 1 then b[0] else Value.tuple b) : Sem Value).run C.P w')) hm).trans rfl
  · unfold ResR
    match r, us, h3 with
    | [], [], h3 => exact ⟨#[], by simp, .nil⟩
    | [p], [u], h3 =>
      cases h3 with
      | cons _ _ _ _ hp _ => simpa using hp
    | p :: q :: ps, u :: v :: us, h3 => exact ⟨(u :: v :: us).toArray, by rw [dif_neg (by simp)], h3⟩
theorem look_append (e e' : Env N) (t : Nat) : look (e ++ e') t = look e t ∨ look (e ++ e') t = look e' t := by
  induction e with
  | nil => exact .inr rfl
  | cons x e ih =>
    obtain ⟨t', p⟩ := x
    rw [List.cons_append, look_cons, look_cons]
    by_cases h : t' = t
    · rw [if_pos h, if_pos h]; exact .inl rfl
    · rw [if_neg h, if_neg h]; exact ih
theorem look_app (vs : List (PV N)) (e' : Env N) (t : Nat) : look (params vs 0 ++ e') t = if t < vs.length then (vs[t]?).getD .bad else look e' t := by
  have key : ∀ (vs : List (PV N)) (i : Nat), look (params vs i ++ e') t = if i ≤ t ∧ t < i + vs.length then (vs[t - i]?).getD .bad else look e' t := by
    intro vs
    induction vs with
    | nil => intro i; rw [if_neg (by rintro ⟨h1, h2⟩; rw [List.length_nil] at h2; omega)]; rfl
    | cons v vs ih =>
      intro i
      show look ((i, v) :: (params vs (i + 1) ++ e')) t = _
      rw [look_cons]
      by_cases h : i = t
      · subst h; simp
      · rw [if_neg h, ih (i + 1)]
        by_cases h1 : i + 1 ≤ t ∧ t < i + 1 + vs.length
        · rw [if_pos h1, if_pos (by simp; omega), show t - i = (t - (i + 1)) + 1 by omega, List.getElem?_cons_succ]
        · rw [if_neg h1, if_neg (by simp; omega)]
  have := key vs 0
  rw [this]
  by_cases h : t < vs.length
  · rw [if_pos ⟨Nat.zero_le _, by omega⟩, if_pos h, Nat.sub_zero]
  · rw [if_neg (by omega), if_neg h]
theorem look_handles (hp : Heap N) (t : Nat) : ∀ n, look (handles hp n) t = .bad ∨ ∃ k bt cs, t = 1000 + k ∧ look (handles hp n) t = .bptr k 0 ∧ hp[k]? = some (some (.box bt cs))
  | 0 => .inl rfl
  | n + 1 => by
    unfold handles
    split
    · rename_i cs hb
      rw [look_cons]
      by_cases h : 1000 + n = t
      · rw [if_pos h]; exact .inr ⟨n, _, cs, h.symm, rfl, boxAt_some hb⟩
      · rw [if_neg h]; exact look_handles hp t n
    · exact look_handles hp t n
/-- What the plain machine answers, the model's calls come to. -/
theorem results_ok {rs : List ResultVar} {fn : Func} (hfn : rs = fn.results.toList) (hGE : G.E = C.E) (hnb : C.nb = G.nb) (h : SR G S ρ s a w) {r : List (PV N) × Heap N} (hr : results C rs s = some r) :
    ∃ u S' ρ' s', (Go.results fn a.tmps).run C.P w = .ok u w ∧ (∃ v, SU G S' ρ' s' v w) ∧ r.2 = s'.hp ∧ ResR G.E S' w ρ' r.1 u := by
  unfold results at hr
  obtain ⟨vs, hvs, rfl⟩ := Option.map_eq_some_iff.mp hr
  obtain ⟨us, h1, h2, h3⟩ := resVals_run hGE h rs vs hvs
  rw [hfn] at h2
  obtain ⟨u, g1, g2⟩ := results_run (N := N) h2
  let v : Nat → Value := fun t => if t < vs.length then us.getD t undef else match ρ (t - 1000) with | some i => .pointer (i.base.map fun q => ⟨q, 0, none⟩) | none => undef
  have su : SU G S ρ ⟨params vs 0 ++ handles s.hp C.nb, s.hp⟩ v w := by
    refine ⟨h.cx, h.s0, h.new, fun t => ?_, h.blk, h.fresh, h.ids⟩
    show VR G.E S w ρ (look (params vs 0 ++ handles s.hp C.nb) t) (v t)
    rw [look_app]
    by_cases ht : t < vs.length
    · rw [if_pos ht]
      have hx : vs[t]? = some vs[t] := List.getElem?_eq_getElem ht
      obtain ⟨x, e1, e2⟩ := h3.get t _ hx
      rw [hx]
      have : v t = x := by
        show (if t < vs.length then us.getD t undef else _) = x
        rw [if_pos ht, List.getD_eq_getElem?_getD, e1]; rfl
      rw [this]; exact e2
    · rw [if_neg ht]
      rcases look_handles s.hp t C.nb with e | ⟨k, bt, cs, e1, e2, e3⟩
      · rw [e]; exact .bad _
      · rw [e2]
        obtain ⟨i, q, vs', f1, f2, f3, -⟩ := h.blk k _ e3
        have : v t = .pointer (some ⟨q, 0, none⟩) := by
          show (if t < vs.length then us.getD t undef else match ρ (t - 1000) with | some i => .pointer (i.base.map fun q => ⟨q, 0, none⟩) | none => undef) = _
          rw [if_neg ht, show t - 1000 = k by omega, f1]
          simp [f3]
        rw [this]
        exact .bptr k 0 i q f1 f2 f3
  obtain ⟨S', ρ', su'⟩ := su.form { C.T.fin C.f with keep := List.range vs.length } hnb
  refine ⟨u, S', ρ', _, g1, ⟨v, su'⟩, rfl, g2 ?_⟩
  refine VRs.of_get (by rw [List.length_map, List.length_range]; exact h3.length) (fun t p x hp hx => ?_)
  rw [List.getElem?_map] at hp
  obtain ⟨t', ht', rfl⟩ := Option.map_eq_some_iff.mp hp
  have htl : t < vs.length := by
    have := (List.getElem?_eq_some_iff.mp ht').1
    rwa [List.length_range] at this
  have ht'' : t' = t := by
    have := (List.getElem?_eq_some_iff.mp ht').2
    rw [List.getElem_range] at this; exact this.symm
  subst ht''
  have := su'.env t'
  have hv : v t' = x := by
    show (if t' < vs.length then us.getD t' undef else _) = x
    rw [if_pos htl, List.getD_eq_getElem?_getD, hx]; rfl
  rw [hv] at this
  show VR G.E S' w ρ' (ansOf C vs t' (look _ t')) x
  unfold ansOf
  cases nslAt C t' with
  | false => exact this
  | true =>
    rw [cond_true]
    split
    · rename_i e c l hvt
      obtain ⟨x', e1, e2⟩ := h3.get t' _ hvt
      rw [hx] at e1
      injection e1 with e1
      subst e1
      cases e2 with
      | vsl _ _ _ A cap vs hl hr hc hA hcap hnl =>
        obtain ⟨rfl, rfl, rfl⟩ := hnl (by simp)
        exact .vsl (some e) c [] none 0 (fun _ => []) (fun j x h => absurd h (by simp)) (fun j x h => absurd h (by simp)) (fun j h => absurd h (by simp)) (fun h => absurd h (by simp)) (Nat.le_refl _) (fun _ => ⟨rfl, rfl, rfl⟩)
    · exact this
theorem nbOf_id : ∀ (hp : Heap N) (b : Nat), b < nbOf hp → ∃ blk, hp[b]? = some (some blk) ∧ isIdB (some blk) = true
  | [], b, h => absurd h (by simp [nbOf])
  | z :: hp, b, h => by
    unfold nbOf at h
    cases hz : isIdB z with
    | false => rw [hz, cond_false] at h; exact absurd h (by omega)
    | true =>
      rw [hz, cond_true] at h
      cases b with
      | zero =>
        cases z with
        | none => exact absurd hz (by simp [isIdB])
        | some blk => exact ⟨blk, rfl, hz⟩
      | succ b => exact nbOf_id hp b (by omega)
/-- Contracts that are given. -/
def ExtOK (T : Tbl N) : Prop := ∀ f g, T.ext f = some g → ∀ pargs hp r, g pargs hp = some r → ∀ (S : Stab) (ρ : Rho) (w : World) (args : Array Value), Cx w (Xof ρ) S ρ w → Glob T.gl w (Xof ρ) → VRs T.E S w ρ pargs args.toList → (∀ b blk, hp[b]? = some (some blk) → BR T.E S ρ w b blk) → (∀ b, hp.length ≤ b → ρ b = none) →
    Calls T.P f args w (CallPost T.E w S ρ (nbOf hp) r)
theorem evF_ok {T : Tbl N} (hE : EncOK T.E) (hX : ExtOK T) (hI : InpOK T) (hm : T.P.follows .mixedOrders = true) : ∀ k, CallOK T.P T.E T.gl (evF T k) := by
  intro k
  induction k with
  | zero => intro f pargs hp r h; exact absurd h (by simp [evF])
  | succ k ih =>
    intro f pargs hp r h S ρ w args hcx hglob hargs hblk hfr
    simp only [evF] at h
    cases hx : T.ext f with
    | some g =>
      rw [hx] at h
      exact hX f g hx pargs hp r h S ρ w args hcx hglob hargs hblk hfr
    | none =>
      rw [hx] at h
      dsimp only at h
      cases hf : T.P.funcs[f]? with
      | none => rw [hf] at h; exact absurd h (by simp)
      | some fn =>
        rw [hf] at h
        dsimp only at h
        cases hb : fn.body with
        | none => rw [hb] at h; exact absurd h (by simp)
        | some c =>
          rw [hb] at h
          dsimp only at h
          obtain ⟨hle, h⟩ := bif_true h
          rw [Nat.ble_eq] at hle
          have hlen := hargs.length
          have hlen' : pargs.length = args.size := hlen
          refine calls_of_wp hf hb ?_
          let G : G0 N := ⟨T.E, w, Xof ρ, S, ρ, nbOf hp, fn.ntmps⟩
          have fin : ∀ (s : St N) (a : Act) (w' : World), results ⟨T, f, fn.ntmps, nbOf hp⟩ fn.results.toList s = some r → SX G s a w' → a.defers = [] ∧ ∃ v, (Go.results fn a.tmps).run T.P w' = .ok v w' ∧ CallPost T.E w S ρ (nbOf hp) r (.returned v) w' := by
            intro s a w' hr ⟨S', ρ', hs⟩
            obtain ⟨u, S2, ρ2, s2, h1, ⟨v, su⟩, h3, h4⟩ := results_ok (G := G) (C := ⟨T, f, fn.ntmps, nbOf hp⟩) rfl rfl rfl hs hr
            refine ⟨hs.defers, u, h1, u, S2, ρ2, rfl, su.cx, su.s0, su.new, h4, fun b blk hb => su.blk b blk (h3 ▸ hb), fun b hb => (su.ids b hb).1, fun b hb => su.fresh b (h3 ▸ hb)⟩
          refine evC_ok (G := G) (C := ⟨T, f, fn.ntmps, nbOf hp⟩) hE rfl rfl rfl ⟨ih, hI, hglob⟩ hm c (bodyPost T.P fn (CallPost T.E w S ρ (nbOf hp) r)) ⟨params pargs 0, hp⟩ _ w _ _ h ⟨S, ρ, hcx, fun _ _ h => ⟨h, rfl⟩, fun _ _ h h' => absurd h h', fun t => ?_, hblk, hfr, fun b hb => ?_, by show (args ++ Array.replicate (fn.ntmps - args.size) undef).size = fn.ntmps; simp; omega, rfl⟩ (fun s a w' hr hs => fin s a w' hr hs) (fun s a w' hr hs => fin s a w' hr hs) (fun i s a w' hx => absurd hx (by simp))
          · show VR T.E S w ρ (look (params pargs 0) t) _
            rw [look_params, if_pos (Nat.zero_le _), Nat.sub_zero]
            cases hp : pargs[t]? with
            | none => exact .bad _
            | some p =>
              obtain ⟨v, h1, h2⟩ := hargs.get t p hp
              have hv : args[t]? = some v := by simpa using h1
              have : (args ++ Array.replicate (fn.ntmps - args.size) undef).getD t undef = v := by
                rw [Array.getD_eq_getD_getElem?, Array.getElem?_append_left (Array.getElem?_eq_some_iff.1 hv).1, hv]
                rfl
              rw [this]
              exact h2
          · obtain ⟨blk, h1, h2⟩ := nbOf_id hp b hb
            obtain ⟨i, h3, h4⟩ := (hblk b blk h1).idKind h2
            exact ⟨rfl, i, h3, h4⟩
end
end Go.Vm
