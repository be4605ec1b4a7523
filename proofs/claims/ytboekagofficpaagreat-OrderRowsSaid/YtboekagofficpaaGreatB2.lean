/- Joined: A11 A12 A13 A14 A15 A16 A17 A18 A19. -/
import Derived.Test.YtboekagofficpaaGreatB1
import Derived.Tactics
import GoSem.ClaimChange
import Derived.SizedLaws
import Derived.ChangeShapes
import Derived.RowKit
import Derived.OpenShut
import Derived.Carry
import Derived.WideLaws
set_option linter.unusedVariables false
set_option linter.unusedSimpArgs false
/- A region that draws its order: a plan that serves for all orders. -/
set_option linter.unusedVariables false
set_option linter.unusedSimpArgs false
namespace Go.Abs
open Go

/-! ### the checks, all by reckoning -/
structure Plan where
  first : List Nat
  rest : List (Nat × List Nat × List Nat)

def preds (ops : Array Oper) (i : Nat) : List Nat :=
  match ops[i]? with
  | some o => (o.after.toList.filter fun e => Region.binds .any e).map (·.on)
  | none => []

def maskOf (ops : Array Oper) (m : List Nat) (i : Nat) : Nat :=
  (preds ops i).foldl (fun s k => s ||| (2 ^ k ||| m.getD k 0)) 0

def masksGo (ops : Array Oper) : Nat → Nat → List Nat → List Nat
  | 0, _, acc => acc
  | n + 1, i, acc => masksGo ops n (i + 1) (acc ++ [maskOf ops acc i])

def masks (ops : Array Oper) : List Nat := masksGo ops ops.size 0 []

def dstOf (ops : Array Oper) (i : Nat) : Option Tmp := (ops[i]?).bind (·.dst)

def looks (ops : Array Oper) (i : Nat) : List Tmp :=
  match ops[i]? with
  | some o => o.looksAt ops
  | none => []

def kindAt (P : Program) (ops : Array Oper) (i : Nat) : Kind :=
  match ops[i]? with
  | some o => kindOf P o.op
  | none => .eff

/-- What holds of the region, whatever the plan. -/
def statOk (ops : Array Oper) (m : List Nat) : Bool :=
  (List.range ops.size).all fun i =>
    (preds ops i).all (· < i) && (m.getD i 0 == maskOf ops m i) &&
    (match dstOf ops i with
      | none => true
      | some d => (List.range ops.size).all fun j => j == i || (dstOf ops j != some d && (!(looks ops j).contains d || (m.getD j 0).testBit i || (m.getD i 0).testBit j)))

def lastOk (m : List Nat) (last : Option Nat) (i : Nat) : Bool :=
  match last with
  | none => true
  | some E => (m.getD i 0).testBit E

def segOk (P : Program) (ops : Array Oper) (m : List Nat) (last : Option Nat) : List Nat → List Nat → Option (List Nat)
  | C, [] => some C
  | C, i :: s =>
    if i < ops.size && !C.contains i && kindAt P ops i != .eff && (preds ops i).all (C.contains ·) && lastOk m last i then segOk P ops m last (i :: C) s
    else none

def restOk (P : Program) (ops : Array Oper) (m : List Nat) : Option Nat → List Nat → List (Nat × List Nat × List Nat) → Bool
  | _, C, [] => (List.range ops.size).all (C.contains ·)
  | last, C, (E, chks, s) :: r =>
    E < ops.size && !C.contains E && kindAt P ops E == .eff && (preds ops E).all (C.contains ·) &&
    lastOk m last E &&
    C.all (fun i => kindAt P ops i != .read || (m.getD E 0).testBit i || chks.contains i) &&
    chks.all (fun i => C.contains i && kindAt P ops i == .read && (looks ops i).all fun t => (List.range ops.size).all fun j => dstOf ops j != some t || (m.getD i 0).testBit j) &&
    (match segOk P ops m (some E) (E :: C) s with
      | some C' => restOk P ops m (some E) C' r
      | none => false)

def planOk (P : Program) (ops : Array Oper) (p : Plan) : Bool :=
  let m := masks ops
  statOk ops m &&
  (match segOk P ops m none [] p.first with
    | some C => restOk P ops m none C p.rest
    | none => false)

/-- The plan: all that may be done is done as early as it may be. -/
def mkSeg (P : Program) (ops : Array Oper) (C : List Nat) : List Nat → List Nat × List Nat
  | [] => ([], C)
  | i :: r =>
    if !C.contains i && kindAt P ops i != .eff && (preds ops i).all (C.contains ·) then
      let x := mkSeg P ops (i :: C) r
      (i :: x.1, x.2)
    else mkSeg P ops C r

def mkRest (P : Program) (ops : Array Oper) (m : List Nat) : List Nat → List Nat → List (Nat × List Nat × List Nat)
  | _, [] => []
  | C, E :: r =>
    let chks := C.filter fun i => kindAt P ops i == .read && !(m.getD E 0).testBit i
    let x := mkSeg P ops (E :: C) (List.range ops.size)
    (E, chks, x.1) :: mkRest P ops m x.2 r

def mkPlan (P : Program) (ops : Array Oper) : Plan :=
  let x := mkSeg P ops [] (List.range ops.size)
  ⟨x.1, mkRest P ops (masks ops) x.2 ((List.range ops.size).filter fun i => kindAt P ops i == .eff)⟩

/-! ### the plan's run -/
def aSeg (P : Program) (ops : Array Oper) (K : Tm → Heap → Prop) : List Nat → Tm → Heap → Prop
  | [], T, H => K T H
  | i :: s, T, H =>
    match ops[i]? with
    | none => False
    | some o =>
      match aWanted ops o T with
      | some true => aStep P (env T) H o fun v H' => aSeg P ops K s (aPut T o.dst v) H'
      | some false => aSeg P ops K s (aPut T o.dst undef) H
      | none => False

/-- A read that may come later reads the same. -/
def aChk (P : Program) (ops : Array Oper) (T : Tm) (H : Heap) (i : Nat) : Prop :=
  match ops[i]? with
  | none => False
  | some o =>
    match aWanted ops o T with
    | some true => ∃ v, aRead P (env T) H o = some v ∧ ∀ d, o.dst = some d → d < T.length → T[d]? = some v
    | some false => True
    | none => False

def aRest (P : Program) (ops : Array Oper) (K : Tm → Heap → Prop) : List (Nat × List Nat × List Nat) → Tm → Heap → Prop
  | [], T, H => K T H
  | (E, chks, s) :: r, T, H => aSeg P ops (fun T H => (∀ i ∈ chks, aChk P ops T H i) ∧ aSeg P ops (aRest P ops K r) s T H) [E] T H

def aPlan (P : Program) (ops : Array Oper) (p : Plan) (K : Tm → Heap → Prop) (T : Tm) (H : Heap) : Prop :=
  aSeg P ops (aRest P ops K p.rest) p.first T H

end Go.Abs

/- The plan serves: whatever order is drawn, the machine comes to what the plan's run comes to. -/
namespace Go.Abs
open Go

section
variable {P : Program} {ops : Array Oper}

theorem foldl_testBit (m : List Nat) (k : Nat) : ∀ (l : List Nat) (s : Nat), (l.foldl (fun s p => s ||| (2 ^ p ||| m.getD p 0)) s).testBit k = true → s.testBit k = true ∨ ∃ p ∈ l, p = k ∨ (m.getD p 0).testBit k = true
  | [], s, h => .inl h
  | p :: l, s, h => by
    rcases foldl_testBit m k l _ h with h | ⟨q, hq, h⟩
    · rw [Nat.testBit_or, Nat.testBit_or, Bool.or_eq_true, Bool.or_eq_true] at h
      rcases h with h | h | h
      · exact .inl h
      · rw [Nat.testBit_two_pow] at h
        exact .inr ⟨p, by simp, .inl (by simpa using h)⟩
      · exact .inr ⟨p, by simp, .inr h⟩
    · exact .inr ⟨q, by simp [hq], h⟩

theorem stat_spec {m : List Nat} (h : statOk ops m = true) {i : Nat} (hi : i < ops.size) :
    (∀ p ∈ preds ops i, p < i) ∧ m.getD i 0 = maskOf ops m i ∧
    ∀ d, dstOf ops i = some d → ∀ j, j < ops.size → j ≠ i → dstOf ops j ≠ some d ∧ (d ∈ looks ops j → (m.getD j 0).testBit i = true ∨ (m.getD i 0).testBit j = true) := by
  unfold statOk at h
  rw [List.all_eq_true] at h
  have h1 := h i (by simpa using hi)
  simp only [Bool.and_eq_true, List.all_eq_true, decide_eq_true_eq, beq_iff_eq] at h1
  obtain ⟨⟨h1, h2⟩, h3⟩ := h1
  refine ⟨h1, h2, fun d hd j hj hne => ?_⟩
  rw [hd] at h3
  simp only [List.all_eq_true, List.mem_range] at h3
  have h4 := h3 j hj
  simp only [Bool.or_eq_true, beq_iff_eq, Bool.and_eq_true, bne_iff_ne, ne_eq, Bool.not_eq_true', List.contains_eq_mem, decide_eq_false_iff_not] at h4
  rcases h4 with h4 | ⟨h4, h5⟩
  · exact absurd h4 hne
  · refine ⟨h4, fun hd' => ?_⟩
    rcases h5 with (h5 | h5) | h5
    · exact absurd hd' h5
    · exact .inl h5
    · exact .inr h5

/-- A set of operations that has, with each, all that it waits for. -/
def Closed (ops : Array Oper) (X : Nat → Prop) : Prop := ∀ i, i < ops.size → X i → ∀ p ∈ preds ops i, X p

theorem mask_ready {m : List Nat} (hs : statOk ops m = true) {X : Nat → Prop} (hX : Closed ops X) : ∀ (i : Nat), i < ops.size → (∀ p ∈ preds ops i, X p) → ∀ k, (m.getD i 0).testBit k = true → X k := by
  intro i
  induction i using Nat.strongRecOn with
  | _ i ih =>
    intro hi hp k hk
    obtain ⟨h1, h2, _⟩ := stat_spec hs hi
    rw [h2] at hk
    rcases foldl_testBit m k _ _ hk with h | ⟨p, hpm, h⟩
    · simp at h
    · rcases h with rfl | h
      · exact hp _ hpm
      · exact ih p (h1 p hpm) (Nat.lt_trans (h1 p hpm) hi) (hX p (Nat.lt_trans (h1 p hpm) hi) (hp p hpm)) k h

theorem mask_closed {m : List Nat} (hs : statOk ops m = true) {X : Nat → Prop} (hX : Closed ops X) {i : Nat} (hi : i < ops.size) (h : X i) {k : Nat} (hk : (m.getD i 0).testBit k = true) : X k :=
  mask_ready hs hX i hi (hX i hi h) k hk

theorem segOk_spec {m : List Nat} {last : Option Nat} : ∀ {s C C' : List Nat}, segOk P ops m last C s = some C' →
    (∀ i ∈ C, i ∈ C') ∧ (∀ i ∈ C', i ∈ C ∨ (∀ E, last = some E → (m.getD i 0).testBit E = true))
  | [], C, C', h => by
    simp only [segOk, Option.some.injEq] at h
    subst h
    exact ⟨fun _ h => h, fun _ h => .inl h⟩
  | i :: s, C, C', h => by
    simp only [segOk] at h
    split at h
    · rename_i hc
      simp only [Bool.and_eq_true] at hc
      obtain ⟨h1, h2⟩ := segOk_spec h
      refine ⟨fun j hj => h1 j (by simp [hj]), fun j hj => ?_⟩
      rcases h2 j hj with h | h
      · rcases List.mem_cons.1 h with rfl | h
        · exact .inr fun E hE => by have := hc.2; rw [hE] at this; exact this
        · exact .inl h
      · exact .inr h
    · cases h

/-- What may come up now is in the plan's past, or is what the plan has next. -/
theorem rest_early {m : List Nat} (hs : statOk ops m = true) {X : Nat → Prop} (hX : Closed ops X) {i : Nat} (hi : i < ops.size) (hp : ∀ p ∈ preds ops i, X p) :
    ∀ (r : List (Nat × List Nat × List Nat)) (last : Option Nat) (C : List Nat) (E : Nat) (chks s : List Nat), restOk P ops m last C ((E, chks, s) :: r) = true → i ∉ C → i ≠ E → X E
  | r, last, C, E, chks, s, h, hiC, hiE => by
    simp only [restOk, Bool.and_eq_true] at h
    obtain ⟨_, hrest⟩ := h
    split at hrest
    rotate_left
    · cases hrest
    rename_i C' hseg
    obtain ⟨h1, h2⟩ := segOk_spec hseg
    by_cases hiC' : i ∈ C'
    · rcases h2 i hiC' with h | h
      · rcases List.mem_cons.1 h with h | h
        · exact absurd h hiE
        · exact absurd h hiC
      · exact mask_ready hs hX i hi hp E (h E rfl)
    · match r, hrest with
      | [], hrest =>
        simp only [restOk, List.all_eq_true, List.mem_range, List.contains_eq_mem, decide_eq_true_eq] at hrest
        exact absurd (hrest i hi) hiC'
      | (E2, chks2, s2) :: r2, hrest =>
        have hE2 : (m.getD E2 0).testBit E = true ∧ E2 < ops.size := by
          have hr := hrest
          simp only [restOk, Bool.and_eq_true, decide_eq_true_eq] at hr
          exact ⟨hr.1.1.1.2, hr.1.1.1.1.1.1.1⟩
        by_cases he : i = E2
        · subst he
          exact mask_ready hs hX i hi hp E hE2.1
        · have := rest_early hs hX hi hp r2 (some E) C' E2 chks2 s2 hrest hiC' he
          exact mask_closed hs hX hE2.2 this hE2.1
end

end Go.Abs

/- The plan serves: the invariant, and its steps. -/
namespace Go.Abs
open Go

def guardDst (ops : Array Oper) (o : Oper) : Option Tmp := o.guard.bind fun g => (ops[g.1]?).bind (·.dst)

theorem guard_looks {ops : Array Oper} {o : Oper} {d : Tmp} (h : guardDst ops o = some d) : d ∈ o.looksAt ops := by
  unfold guardDst at h
  cases hg : o.guard with
  | none => simp [hg] at h
  | some g =>
    obtain ⟨j, want⟩ := g
    simp [hg] at h
    simp only [Oper.looksAt, hg, List.mem_append]
    right
    simpa using h

theorem operand_looks {ops : Array Oper} {o : Oper} {t : Tmp} (h : Operand.tmp t ∈ o.op.operands.toList) : t ∈ o.looksAt ops := by
  simp only [Oper.looksAt, List.mem_append, List.mem_filterMap]
  exact .inl ⟨_, h, rfl⟩

theorem wanted_congr {ops : Array Oper} {o : Oper} {S S' : Tm} (h : ∀ d, guardDst ops o = some d → S[d]? = S'[d]?) : aWanted ops o S = aWanted ops o S' := by
  unfold aWanted
  cases hg : o.guard with
  | none => rfl
  | some g =>
    obtain ⟨j, want⟩ := g
    cases hd : (ops[j]?).bind (·.dst) with
    | none => simp [hd]
    | some d =>
      have := h d (by simp [guardDst, hg, hd])
      simp [hd, this]

theorem wanted_pt {ρ : Ren} {S : Tm} {a : Act} {ops : Array Oper} {o : Oper} {b : Bool}
    (hp : ∀ d, guardDst ops o = some d → (∀ v, S[d]? = some v → ∃ v', a.tmps[d]? = some v' ∧ VRel ρ v v') ∧ (S[d]? = none → a.tmps[d]? = none)) (hw : aWanted ops o S = some b) :
    Region.wanted o (yielded ops a.tmps) = b := by
  unfold aWanted at hw
  unfold Region.wanted
  split at hw
  · rename_i hg; injection hw with hw; subst hw; simp [hg]
  · rename_i j want hg
    simp only [hg]
    split at hw
    · rename_i hd; injection hw with hw; subst hw; simp [yielded, hd]
    · rename_i d hd
      simp only [yielded, hd, Option.bind_some]
      obtain ⟨p1, p2⟩ := hp d (by simp [guardDst, hg, hd])
      split at hw
      · rename_i t ht
        injection hw with hw; subst hw
        obtain ⟨v', h1, h2⟩ := p1 _ ht
        rw [h1, h2.bool]
        cases t <;> cases want <;> rfl
      · rename_i vs ht
        injection hw with hw; subst hw
        obtain ⟨v', h1, h2⟩ := p1 _ ht
        obtain ⟨xs', e, _⟩ := h2.tup
        rw [h1, e]
        rfl
      · rename_i ht
        injection hw with hw; subst hw
        rw [p2 ht]; rfl
      · cases hw

/-! ### a heap that has grown reads the same -/
theorem aCell_grow {H H' : Heap} (hg : ∀ b o, H.get b = some o → H'.get b = some o) {a : Addr} {v : Value} (h : aCell H a = some v) : aCell H' a = some v := by
  unfold aCell at h ⊢
  cases hb : H.get a.block with
  | none => rw [hb] at h; cases h
  | some o => rw [hg _ _ hb]; rw [hb] at h; exact h

theorem aCells_grow {H H' : Heap} (hg : ∀ b o, H.get b = some o → H'.get b = some o) {a : Addr} {n : Nat} {v : List Value} (h : aCells H a n = some v) : aCells H' a n = some v := by
  unfold aCells at h ⊢
  cases hb : H.get a.block with
  | none => rw [hb] at h; cases h
  | some o => rw [hg _ _ hb]; rw [hb] at h; exact h

theorem aMapGet_grow {P : Program} {H H' : Heap} (hg : ∀ b o, H.get b = some o → H'.get b = some o) {t : TypeId} {x ix v : Value} {ok : Bool} (h : aMapGet P H t x ix ok = some v) : aMapGet P H' t x ix ok = some v := by
  unfold aMapGet at h ⊢
  split at h
  · split at h
    · rename_i hd he
      simp only [hd, hg _ _ he]
      exact h
    · cases h
  · exact h
  · cases h
theorem aRead_grow {P : Program} {e : Env} {o : Oper} {H H' : Heap} (hg : ∀ b o, H.get b = some o → H'.get b = some o) {v : Value} (h : aRead P e H o = some v) : aRead P e H' o = some v := by
  unfold aRead at h ⊢
  split at h
  · rename_i t x ho
    cases hx : e x with
    | none => rw [hx] at h; cases h
    | some a =>
      rw [hx] at h
      simp only [Option.bind_some] at h ⊢
      unfold aLoad at h ⊢
      split at h
      · split at h
        · split at h
          · rename_i ad _ hr hs
            try simp only [hs]
            cases hc : aCells H ad (szOf P t) with
            | none => rw [hc] at h; cases h
            | some l => rw [hc] at h; rw [aCells_grow hg hc]; simpa using h
          · cases h
        · exact aCell_grow hg h
        · cases h
      · exact h
      · cases h
  · rename_i t x lo hi mx ho
    split at h
    · rename_i a l u hx hl hh
      try simp only [hx, hl, hh]
      split at h
      · rename_i hm
        try rw [if_pos hm]
        unfold aSlice at h ⊢
        split at h
        · rename_i hu; first | exact h | (simp only [hu]; exact h)
        · rename_i e' base n c hu
          try simp only [hu]
          split at h
          · rename_i hs
            try rw [if_pos hs]
            split at h
            · rename_i hc
              try rw [if_pos hc]
              split at h
              · split at h
                · rename_i hh' hb1
                  try simp only [hb1]
                  split at h
                  · rename_i hb2; first | exact h | (simp only [hb2]; exact h)
                  · rename_i l' hb2
                    try simp only [hb2]
                    split at h
                    · rename_i hlt
                      try rw [if_pos hlt]
                      split at h
                      · rename_i own el cs hgb
                        rw [hg _ _ hgb]
                        exact h
                      · cases h
                    · cases h
                  · cases h
                · cases h
              · cases h
            · rename_i hc
              try rw [if_neg hc]
              exact h
          · cases h
        · rename_i hu; first | exact h | (simp only [hu]; exact h)
        · cases h
      · cases h
    · cases h
  · rename_i src dst x ho
    cases hx : e x with
    | none => rw [hx] at h; cases h
    | some a =>
      rw [hx] at h
      simp only [Option.bind_some] at h ⊢
      unfold aBytes at h ⊢
      split at h
      · rename_i hs hd; first | exact h | (simp only [hs, hd]; exact h)
      · rename_i e' a n c hs hd
        try simp only [hs, hd]
        split at h
        · rename_i he
          try simp only [he]
          by_cases hn : n = 0
          · rw [if_pos hn] at h ⊢; exact h
          · rw [if_neg hn] at h ⊢
            cases hc : aCells H a n with
            | none => rw [hc] at h; cases h
            | some l => rw [hc] at h; rw [aCells_grow hg hc]; exact h
        · cases h
      · rename_i hs hd; first | exact h | (simp only [hs, hd]; exact h)
      · cases h
  · rename_i t x ix ok ho
    cases hx : e x with
    | none => rw [hx] at h; cases h
    | some a =>
      cases hi : e ix with
      | none => rw [hx, hi] at h; cases h
      | some b =>
        rw [hx, hi] at h
        exact aMapGet_grow hg h
  · cases h

end Go.Abs

/- The plan serves for all orders: the theorem. -/
namespace Go.Abs
open Go

def Dn (D : Array Bool) (i : Nat) : Prop := D.getD i false = true

def anc (ops : Array Oper) (m : List Nat) (i : Nat) (t : Tmp) : Prop := ∃ j, j < ops.size ∧ dstOf ops j = some t ∧ (m.getD i 0).testBit j = true

/-- What an operation that the plan has done, and the machine has not yet, will do. -/
def LagKind (P : Program) (o : Oper) (S : Tm) (H : Heap) (ρ : Ren) (H0n : Nat) (β : Option Nat) (v : Value) : Prop :=
  (kindOf P o.op = .pure ∧ aPure P (env S) o = some v) ∨ (kindOf P o.op = .read ∧ aRead P (env S) H o = some v) ∨
  (kindOf P o.op = .new ∧ ∃ el cells f b, aNew P (env S) o.op = some (el, cells, f) ∧ v = f b ∧ β = some b ∧ H0n ≤ b ∧ b < H.next ∧ ρ b = none ∧ H.get b = some (.row true el cells))

def Lag (P : Program) (ops : Array Oper) (m : List Nat) (T0 T : Tm) (H : Heap) (ρ : Ren) (H0n : Nat) (i : Nat) (β : Option Nat) : Prop :=
  ∃ (o : Oper) (S : Tm) (v : Value), ops[i]? = some o ∧ S.length = T0.length ∧ (∀ t ∈ looks ops i, anc ops m i t → S[t]? = T[t]?) ∧ (∀ t ∈ looks ops i, ¬ anc ops m i t → S[t]? = T0[t]?) ∧
    (∀ d, o.dst = some d → d < T0.length → T[d]? = some v) ∧
    ((aWanted ops o S = some false ∧ v = undef) ∨ (aWanted ops o S = some true ∧ LagKind P o S H ρ H0n β v))

structure Inv (n0 : Nat) (P : Program) (ops : Array Oper) (m : List Nat) (T0 : Tm) (ρ0 : Ren) (H0 : Heap) (w0 : World) (C : List Nat) (T : Tm) (H : Heap) (D : Array Bool) (ρ : Ren) (a : Act) (w : World) (β : Nat → Option Nat) : Prop where
  len : T.length = T0.length
  alen : a.tmps.size = T0.length
  defers : Marks n0 ρ w a.defers
  ext : Ext P ρ0 H0 w0 ρ H w
  gh : H.gh = H0.gh
  pins : Pins ρ w H0.gh
  dsz : D.size = ops.size
  DC : ∀ i, Dn D i → i ∈ C
  eff : ∀ i ∈ C, kindAt P ops i = .eff → Dn D i
  Cn : ∀ i ∈ C, i < ops.size
  Ccl : Closed ops (· ∈ C)
  Dcl : Closed ops (Dn D)
  TU : ∀ t, (∀ i ∈ C, dstOf ops i ≠ some t) → T[t]? = T0[t]?
  TIw : ∀ (t : Nat) (v : Value), (∃ i, Dn D i ∧ dstOf ops i = some t) → T[t]? = some v → ∃ v', a.tmps[t]? = some v' ∧ VRel ρ v v'
  TIn : ∀ (t : Nat) (v : Value), (∀ i, Dn D i → dstOf ops i ≠ some t) → T0[t]? = some v → ∃ v', a.tmps[t]? = some v' ∧ VRel ρ v v'
  lag : ∀ i ∈ C, ¬ Dn D i → Lag P ops m T0 T H ρ H0.next i (β i)
  βinj : ∀ i j b, β i = some b → β j = some b → i = j
  βlt : ∀ i b, β i = some b → b < H.next

section
variable {n0 : Nat} {ro : Option Nat} {P : Program} {ops : Array Oper} {m : List Nat} {T0 : Tm} {ρ0 : Ren} {H0 : Heap} {w0 : World}

theorem dst_unique (hs : statOk ops m = true) {i j : Nat} {t : Tmp} (hi : i < ops.size) (hj : j < ops.size) (h1 : dstOf ops i = some t) (h2 : dstOf ops j = some t) : i = j := by
  rcases Nat.decEq i j with h | h
  · exact absurd h2 ((stat_spec hs hi).2.2 t h1 j hj (fun e => h e.symm)).1
  · exact h

theorem looks_of {i : Nat} {o : Oper} (h : ops[i]? = some o) : looks ops i = o.looksAt ops := by simp [looks, h]

theorem dstOf_of {i : Nat} {o : Oper} (h : ops[i]? = some o) : dstOf ops i = o.dst := by simp [dstOf, h]

theorem kindAt_of {i : Nat} {o : Oper} (h : ops[i]? = some o) : kindAt P ops i = kindOf P o.op := by simp [kindAt, h]

theorem getElem_lt {i : Nat} {o : Oper} (h : ops[i]? = some o) : i < ops.size := by
  rcases Nat.lt_or_ge i ops.size with h' | h'
  · exact h'
  · rw [Array.getElem?_eq_none h'] at h; cases h

/-- Where a temporary that an operation looks at was written, when the operation may come up. -/
theorem look_cases (hs : statOk ops m = true) {X : Nat → Prop} (hX : Closed ops X) (hXn : ∀ i, X i → i < ops.size) {i : Nat} (hi : i < ops.size) (hp : ∀ p ∈ preds ops i, X p) (hni : ¬ X i) {t : Tmp} (ht : t ∈ looks ops i) :
    (∃ j, X j ∧ dstOf ops j = some t ∧ anc ops m i t) ∨ (¬ anc ops m i t ∧ ∀ j, X j → dstOf ops j ≠ some t) := by
  by_cases ha : anc ops m i t
  · obtain ⟨j, hj, hd, hb⟩ := ha
    exact .inl ⟨j, mask_ready hs hX i hi hp j hb, hd, j, hj, hd, hb⟩
  · refine .inr ⟨ha, fun j hj hd => ?_⟩
    have hjn := hXn j hj
    have hne : i ≠ j := fun e => hni (e ▸ hj)
    rcases ((stat_spec hs hjn).2.2 t hd i hi hne).2 ht with h | h
    · exact ha ⟨j, hjn, hd, h⟩
    · exact hni (mask_closed hs hX hjn hj h)

/-- What the machine's temporaries hold of what a ready operation looks at. -/
theorem Inv.see {C : List Nat} {T : Tm} {H : Heap} {D : Array Bool} {ρ : Ren} {a : Act} {w : World} {β : Nat → Option Nat} (hs : statOk ops m = true) (I : Inv n0 P ops m T0 ρ0 H0 w0 C T H D ρ a w β)
    {i : Nat} (hi : i < ops.size) (hp : ∀ p ∈ preds ops i, Dn D p) (hni : ¬ Dn D i) {S : Tm} (hS1 : ∀ t ∈ looks ops i, anc ops m i t → S[t]? = T[t]?) (hS2 : ∀ t ∈ looks ops i, ¬ anc ops m i t → S[t]? = T0[t]?)
    {t : Tmp} (ht : t ∈ looks ops i) {v : Value} (hv : S[t]? = some v) : ∃ v', a.tmps[t]? = some v' ∧ VRel ρ v v' := by
  rcases look_cases hs I.Dcl (fun j hj => I.Cn j (I.DC j hj)) hi hp hni ht with ⟨j, hj, hd, ha⟩ | ⟨ha, hn⟩
  · rw [hS1 t ht ha] at hv
    exact I.TIw t v ⟨j, hj, hd⟩ hv
  · rw [hS2 t ht ha] at hv
    exact I.TIn t v hn hv

theorem erel_of {ρ : Ren} {a : Act} {S : Tm} {o : Oper} (h : ∀ t ∈ o.looksAt ops, ∀ v, S[t]? = some v → ∃ v', a.tmps[t]? = some v' ∧ VRel ρ v v') : ERel ρ o.op.operands.toList (env S) a.eval := by
  intro x hx v hv
  cases x with
  | tmp t =>
    obtain ⟨v', h1, h2⟩ := h t (operand_looks hx) v hv
    simp only [Act.eval, Array.getD_eq_getD_getElem?, h1]
    exact h2
  | const u =>
    simp only [env] at hv
    split at hv
    · rename_i hg; injection hv with hv; subst hv; exact .of_gr hg
    · cases hv
  | global g => cases hv
  | func f =>
    simp only [env] at hv
    injection hv with hv; subst hv
    exact .fn .nil .nil

theorem wanted_see {ρ : Ren} {a : Act} {S : Tm} {o : Oper} (h : ∀ t ∈ o.looksAt ops, ∀ v, S[t]? = some v → ∃ v', a.tmps[t]? = some v' ∧ VRel ρ v v') (hl : S.length = a.tmps.size) {b : Bool} (hw : aWanted ops o S = some b) :
    Region.wanted o (yielded ops a.tmps) = b :=
  wanted_pt (fun d hd => ⟨fun v hv => h d (guard_looks hd) v hv, fun hn => by
    rw [List.getElem?_eq_none_iff] at hn
    exact Array.getElem?_eq_none (by omega)⟩) hw

theorem put_tmps (a : Act) (dst : Option Tmp) (v : Value) (t : Nat) : (a.put dst v).tmps[t]? = if dst = some t ∧ t < a.tmps.size then some v else a.tmps[t]? := by
  cases dst with
  | none => simp [Act.put]
  | some d =>
    simp only [Act.put, Option.some.injEq]
    by_cases h : d = t
    · subst h
      by_cases h2 : d < a.tmps.size
      · simp [h2]
      · simp [h2]
    · rw [Array.getElem?_setIfInBounds_ne h, if_neg (fun e => h e.1)]

theorem size_put (a : Act) (dst : Option Tmp) (v : Value) : (a.put dst v).tmps.size = a.tmps.size := by cases dst <;> simp [Act.put]

theorem aPut_get (T : Tm) (dst : Option Tmp) (v : Value) (t : Nat) : (aPut T dst v)[t]? = if dst = some t ∧ t < T.length then some v else T[t]? := by
  cases dst with
  | none => simp [aPut]
  | some d =>
    simp only [aPut, Option.some.injEq]
    by_cases h : d = t
    · subst h
      by_cases h2 : d < T.length
      · rw [if_pos ⟨rfl, h2⟩, List.getElem?_set_self h2]
      · have h3 : T.length ≤ d := Nat.le_of_not_lt h2
        rw [if_neg (fun e => h2 e.2), List.set_eq_of_length_le h3]
    · rw [List.getElem?_set_ne h, if_neg (fun e => h e.1)]

theorem length_aPut (T : Tm) (dst : Option Tmp) (v : Value) : (aPut T dst v).length = T.length := by cases dst <;> simp [aPut]

theorem Dn_set {D : Array Bool} {i j : Nat} (hi : i < D.size) : Dn (D.setIfInBounds i true) j ↔ (j = i ∨ Dn D j) := by
  unfold Dn
  simp only [Array.getD_eq_getD_getElem?]
  by_cases h : j = i
  · subst h; simp [hi]
  · rw [Array.getElem?_setIfInBounds_ne (fun e => h e.symm)]; simp [h]

/-- A row that the plan has made and the machine makes now. -/
theorem Ext.allocP {ρ : Ren} {H : Heap} {w : World} (h : Ext P ρ0 H0 w0 ρ H w) {b : Nat} {el : TypeId} {cells : List Value} {cs : Array Value} (hb0 : H0.next ≤ b) (hb1 : b < H.next) (hn : ρ b = none) (hg : H.get b = some (.row true el cells))
    (hc : VRels ρ cells cs.toList) : Ext P ρ0 H0 w0 (ρ.add b ⟨w.heap.size, 0, true, szOf P el, cs.size, none⟩) H (w.alloc (.cells cs el)) := by
  have hR := h.rel
  have hle : Ren.le ρ (ρ.add b ⟨w.heap.size, 0, true, szOf P el, cs.size, none⟩) := by
    intro c L hL
    simp only [Ren.add]
    rw [if_neg (fun e => by subst e; rw [hn] at hL; cases hL)]
    exact hL
  refine ⟨h.le.trans hle, ?_, h.next, by have := h.size; simp; omega, ?_, ?_, h.os, h.output, h.tape, ⟨?_, ?_, ?_, hR.free, ⟨by have := hR.void.2.1; simp only [Ren.add]; rw [if_neg (fun e => by subst e; rw [hg] at this; cases this)]; exact hR.void.1, hR.void.2⟩, ?_, ?_, ?_, fun c L hL => by
    simp only [Ren.add] at hL
    split at hL
    · injection hL with hL; subst hL; simp
    · have := hR.bnd c L hL; simp; omega⟩, fun c L hL => by
    simp only [Ren.add] at hL
    split at hL
    · injection hL with hL; subst hL; exact .inr h.size
    · exact h.blks c L hL⟩
  · intro c hc0 hcn
    obtain ⟨k1, k2⟩ := h.phant c hc0 hcn
    refine ⟨?_, k2⟩
    simp only [Ren.add]; rw [if_neg (by omega)]; exact k1
  · intro c L hL ho
    simp only [Ren.add] at hL
    split at hL
    · injection hL with hL; subst hL; exact .inr h.size
    · exact h.own c L hL ho
  · intro i hi hni
    rw [RowKit.Below.heap_alloc w _ i (Nat.lt_of_lt_of_le hi h.size)]
    exact h.frame i hi hni
  · intro c L hL
    simp only [Ren.add] at hL
    split at hL
    · rename_i e; subst e; exact hb1
    · exact hR.dom c L hL
  · intro c L own el' ce hL hgc
    simp only [Ren.add] at hL
    split at hL
    · rename_i e
      injection hL with hL; subst hL; subst e
      rw [hg] at hgc
      injection hgc with hgc; injection hgc with g1 g2 g3
      subst g1; subst g2; subst g3
      refine ⟨cs, (0, 0), heap_alloc_new w _, ?_, rfl, fun _ => ⟨rfl, rfl, rfl⟩⟩
      intro i v hv
      obtain ⟨v', k1, k2⟩ := hc.get i v hv
      exact ⟨v', by rw [Nat.zero_add, ← Array.getElem?_toList]; exact k1, k2.mono hle⟩
    · obtain ⟨cs', fr, h1, h2, h3⟩ := hR.rows c L own el' ce hL hgc
      refine ⟨cs', fr, ?_, ?_, h3⟩
      · rw [RowKit.Below.heap_alloc w _ _ (hR.lt hL hgc)]; exact h1
      · intro i v hv
        obtain ⟨v', k1, k2⟩ := h2 i v hv
        exact ⟨v', k1, k2.mono hle⟩
  · intro c L es clock hL hgc
    simp only [Ren.add] at hL
    split at hL
    · rename_i e; subst e; rw [hg] at hgc; cases hgc
    · obtain ⟨es', h1, h2, h3, h4, h5⟩ := hR.maps c L es clock hL hgc
      refine ⟨es', ?_, h2, h3, h4, ?_⟩
      · rw [RowKit.Below.heap_alloc w _ _ (hR.lt hL hgc)]; exact h1
      · intro i e he
        obtain ⟨e', k1, k2, k3, k4, k5⟩ := h5 i e he
        exact ⟨e', k1, k2, k3, k4, k5.mono hle⟩
  · intro b1 b2 L1 L2 o2 hne h1 h2 g1 g1' g2
    simp only [Ren.add] at h1 h2
    by_cases e1 : b1 = b
    · have e2 : b2 ≠ b := fun e => hne (e1.trans e.symm)
      rw [if_pos e1] at h1; rw [if_neg e2] at h2
      injection h1 with h1; subst h1
      have := hR.lt h2 g2
      simp only; omega
    · rw [if_neg e1] at h1
      by_cases e2 : b2 = b
      · rw [if_pos e2] at h2
        injection h2 with h2; subst h2
        have := hR.lt' h1 g1'
        simp only; omega
      · rw [if_neg e2] at h2
        exact hR.inj b1 b2 L1 L2 o2 hne h1 h2 g1 g1' g2
  · intro c L fs hL hf
    simp only [Ren.add] at hL
    split at hL
    · injection hL with hL; subst hL; cases hf
    · obtain ⟨q1, el', fr, q2⟩ := hR.frz c L fs hL hf
      exact ⟨q1, el', fr, by rw [RowKit.Below.heap_alloc w _ _ (lt_of_heap q2)]; exact q2⟩
  · intro b1 b2 L1 L2 fs h1 h2 hf g1 g1'
    simp only [Ren.add] at h1 h2
    by_cases e2 : b2 = b
    · rw [if_pos e2] at h2; injection h2 with h2; subst h2; cases hf
    · rw [if_neg e2] at h2
      by_cases e1 : b1 = b
      · rw [if_pos e1] at h1
        injection h1 with h1; subst h1
        obtain ⟨_, el', fr, q2⟩ := hR.frz b2 L2 fs h2 hf
        have := lt_of_heap q2
        simp only; omega
      · rw [if_neg e1] at h1
        exact hR.frinj b1 b2 L1 L2 fs h1 h2 hf g1 g1'

/-- The invariant goes on where the machine has done what the plan had done. -/
theorem Inv.caught {C : List Nat} {T : Tm} {H : Heap} {D : Array Bool} {ρ : Ren} {a : Act} {w : World} {β : Nat → Option Nat} (I : Inv n0 P ops m T0 ρ0 H0 w0 C T H D ρ a w β)
    {i : Nat} {o : Oper} (ho : ops[i]? = some o) (hiC : i ∈ C) (hp : ∀ p ∈ preds ops i, Dn D p) (hni : ¬ Dn D i) {v v' : Value} (hd : ∀ d, o.dst = some d → d < T0.length → T[d]? = some v)
    {ρ' : Ren} {w' : World} (hE : Ext P ρ0 H0 w0 ρ' H w') (hmk : Marks n0 ρ' w' a.defers) (hpn : Pins ρ' w' H0.gh) (hle : Ren.le ρ ρ') (hv : VRel ρ' v v') (hlag : ∀ j, j ≠ i → ∀ b, β j = some b → ρ b = none → ρ' b = none) :
    Inv n0 P ops m T0 ρ0 H0 w0 C T H (D.setIfInBounds i true) ρ' (a.put o.dst v') w' β := by
  have hi := getElem_lt ho
  have hiD : i < D.size := by rw [I.dsz]; exact hi
  have hset := fun j => Dn_set (j := j) hiD
  refine ⟨I.len, by rw [size_put]; exact I.alen, by rw [put_defers]; exact hmk, hE, I.gh, hpn, by simp [I.dsz], ?_, ?_, I.Cn, I.Ccl, ?_, I.TU, ?_, ?_, ?_, I.βinj, I.βlt⟩
  · intro j hj
    rcases (hset j).1 hj with rfl | h
    · exact hiC
    · exact I.DC j h
  · intro j hj hk
    exact (hset j).2 (.inr (I.eff j hj hk))
  · intro j hj hdj p hpm
    rcases (hset j).1 hdj with rfl | h
    · exact (hset p).2 (.inr (hp p hpm))
    · exact (hset p).2 (.inr (I.Dcl j hj h p hpm))
  · rintro t u ⟨j, hj, hdj⟩ hu
    by_cases he : o.dst = some t
    · have hlt : t < T0.length := by
        rcases Nat.lt_or_ge t T.length with h | h
        · rw [← I.len]; exact h
        · rw [List.getElem?_eq_none h] at hu; cases hu
      rw [hd t he hlt] at hu
      injection hu with hu; subst hu
      refine ⟨v', ?_, hv⟩
      rw [put_tmps, if_pos ⟨he, by rw [I.alen]; exact hlt⟩]
    · rcases (hset j).1 hj with rfl | h
      · rw [dstOf_of ho] at hdj; exact absurd hdj he
      · obtain ⟨u', h1, h2⟩ := I.TIw t u ⟨j, h, hdj⟩ hu
        refine ⟨u', ?_, h2.mono hle⟩
        rw [put_tmps, if_neg (fun e => he e.1)]
        exact h1
  · intro t u hn hu
    have he : o.dst ≠ some t := by
      have := hn i ((hset i).2 (.inl rfl))
      rwa [dstOf_of ho] at this
    obtain ⟨u', h1, h2⟩ := I.TIn t u (fun j hj => hn j ((hset j).2 (.inr hj))) hu
    refine ⟨u', ?_, h2.mono hle⟩
    rw [put_tmps, if_neg (fun e => he e.1)]
    exact h1
  · intro j hj hnj
    have hne : j ≠ i := fun e => hnj ((hset j).2 (.inl e))
    have hnD : ¬ Dn D j := fun h => hnj ((hset j).2 (.inr h))
    obtain ⟨oj, S, u, h1, h2, h3, h4, h5, h6⟩ := I.lag j hj hnD
    refine ⟨oj, S, u, h1, h2, h3, h4, h5, ?_⟩
    rcases h6 with h6 | ⟨h6, h7⟩
    · exact .inl h6
    · refine .inr ⟨h6, ?_⟩
      rcases h7 with h7 | h7 | ⟨h7, el, cells, f, b, q1, q2, q3, q4, q5, q6, q7⟩
      · exact .inl h7
      · exact .inr (.inl h7)
      · exact .inr (.inr ⟨h7, el, cells, f, b, q1, q2, q3, q4, q5, hlag j hne b q3 q6, q7⟩)

theorem lag_nodefer {o : Oper} {S : Tm} {H : Heap} {ρ : Ren} {H0n : Nat} {β : Option Nat} {v : Value} (h : LagKind P o S H ρ H0n β v) (c : Call) : o.op ≠ .defer c := by
  intro hc
  rcases h with ⟨h, _⟩ | ⟨h, _⟩ | ⟨h, _⟩ <;> (rw [hc] at h; cases h)
theorem Pins.allocP {ρ : Ren} {w : World} {gs : List Pin} (h : Pins ρ w gs) (b : Nat) (o : Obj) {es lim : Nat} {hb : ρ b = none} : Pins (ρ.add b ⟨w.heap.size, 0, true, es, lim, none⟩) (w.alloc o) gs :=
  ⟨h.1, fun p hp => by
    obtain ⟨h1, h2, h3⟩ := h.2 p hp
    have hlt := lt_of_heap h1
    refine ⟨(RowKit.Below.heap_alloc w _ _ hlt).trans h1, h2.mono (fun c L hL => by simp only [Ren.add]; rw [if_neg (fun e => by subst e; rw [hb] at hL; cases hL)]; exact hL), fun c L hL ho => ?_⟩
    simp only [Ren.add] at hL
    split at hL
    · injection hL with hL; subst hL; simp only; omega
    · exact h3 c L hL ho⟩
theorem Marks.allocP {n0 : Nat} {ρ : Ren} {w : World} {ds : List Deferred} (h : Marks n0 ρ w ds) (b : Nat) (o : Obj) {es lim : Nat} : Marks n0 (ρ.add b ⟨w.heap.size, 0, true, es, lim, none⟩) (w.alloc o) ds := by
  obtain ⟨Ds, e1, e2, h⟩ := h
  refine ⟨Ds, e1, e2, fun D hD => ?_⟩
  obtain ⟨h0, h1, h3⟩ := h D hD
  have hlt := lt_of_heap h1
  refine ⟨h0, (RowKit.Below.heap_alloc w _ _ hlt).trans h1, fun c L hL ho => ?_⟩
  simp only [Ren.add] at hL
  split at hL
  · injection hL with hL; subst hL; simp only; omega
  · exact h3 c L hL ho
/-- The machine does what the plan had done. -/
theorem Inv.catch (hs : statOk ops m = true) {C : List Nat} {T : Tm} {H : Heap} {D : Array Bool} {ρ : Ren} {a : Act} {w : World} {β : Nat → Option Nat} (I : Inv n0 P ops m T0 ρ0 H0 w0 C T H D ρ a w β)
    {i : Nat} {o : Oper} (ho : ops[i]? = some o) (hiC : i ∈ C) (hp : ∀ p ∈ preds ops i, Dn D p) (hni : ¬ Dn D i) {K : Act → World → Prop} {Q : Exit → Act → World → Prop}
    (hK : ∀ ρ' a' w', Inv n0 P ops m T0 ρ0 H0 w0 C T H (D.setIfInBounds i true) ρ' a' w' β → K a' w') : wpOpIn (wideR ro) 0 P ops Q i K a w := by
  have hi := getElem_lt ho
  obtain ⟨o', S, v, ho', hSl, hS1, hS2, hd, hL⟩ := I.lag i hiC hni
  rw [ho] at ho'; injection ho' with ho'; subst ho'
  have hsee : ∀ t ∈ o.looksAt ops, ∀ v, S[t]? = some v → ∃ v', a.tmps[t]? = some v' ∧ VRel ρ v v' := fun t ht v hv =>
    I.see hs hi hp hni hS1 hS2 (by rw [looks_of ho]; exact ht) hv
  have hER := erel_of (ops := ops) hsee
  unfold wpOpIn
  simp only [ho]
  rcases hL with ⟨hw, rfl⟩ | ⟨hw, hL⟩
  · rw [wanted_see hsee (by rw [hSl, I.alen]) hw, if_neg (by simp)]
    exact ⟨fun _ _ => trivial, hK _ _ _ (I.caught ho hiC hp hni hd I.ext I.defers I.pins Ren.le.rfl (.tuple .nil) (fun _ _ _ _ h => h))⟩
  · rw [wanted_see hsee (by rw [hSl, I.alen]) hw, if_pos rfl]
    unfold Oper.wpIn
    refine ⟨fun _ _ => trivial, ?_⟩
    rw [Oper.semAt_eq _ _ _ (lag_nodefer hL)]
    rcases hL with ⟨_, h1⟩ | ⟨_, h1⟩ | ⟨_, el, cells, f, b, h1, rfl, hβ, q4, q5, q6, q7⟩
    · obtain ⟨v', k1, k2⟩ := aPure_run h1 hER w
      rw [k1]
      exact hK _ _ _ (I.caught ho hiC hp hni hd I.ext I.defers I.pins Ren.le.rfl k2 (fun _ _ _ _ h => h))
    · obtain ⟨v', k1, k2⟩ := aRead_run h1 I.ext.rel hER
      rw [k1]
      exact hK _ _ _ (I.caught ho hiC hp hni hd I.ext I.defers I.pins Ren.le.rfl k2 (fun _ _ _ _ h => h))
    · obtain ⟨cs, k1, k2⟩ := aNew_run h1 (o := o) rfl hER w
      rw [k1]
      have hE := Ext.allocP I.ext q4 q5 q6 q7 k2
      refine hK _ _ _ (I.caught ho hiC hp hni hd hE (I.defers.allocP _ _) (I.pins.allocP _ _ (hb := q6)) ?_ (aNew_val h1 (Ren.add_self _ _ _) rfl) ?_)
      · intro c L hL
        simp only [Ren.add]
        rw [if_neg (fun e => by subst e; rw [q6] at hL; cases hL)]
        exact hL
      · intro j hne c hc hn
        simp only [Ren.add]
        rw [if_neg (fun e => by subst e; exact hne (I.βinj j i c hc hβ))]
        exact hn

/-- A temporary that a second operation writes is no other's. -/
theorem anc_ne (hs : statOk ops m = true) {i j : Nat} {o : Oper} (ho : ops[i]? = some o) (hC : ∀ k, (m.getD j 0).testBit k = true → k ≠ i) {t : Tmp} (ha : anc ops m j t) : o.dst ≠ some t := by
  obtain ⟨k, hk, hd, hb⟩ := ha
  intro e
  exact hC k hb (dst_unique hs hk (getElem_lt ho) hd (by rw [dstOf_of ho]; exact e))

/-- What lags behind still does, where the plan has done one operation more. -/
theorem Lag.step (hs : statOk ops m = true) {T : Tm} {H : Heap} {ρ : Ren} {j : Nat} {β β' : Option Nat} (hL : Lag P ops m T0 T H ρ H0.next j β)
    {i : Nat} {o : Oper} (ho : ops[i]? = some o) (hji : j ≠ i) (hC : ∀ k, (m.getD j 0).testBit k = true → k ≠ i) (v : Value) {H' : Heap} {ρ' : Ren} (hβ : β' = β)
    (hread : ∀ oj, ops[j]? = some oj → kindOf P oj.op = .read → ∀ S u, S.length = T0.length → (∀ t ∈ looks ops j, anc ops m j t → S[t]? = (aPut T o.dst v)[t]?) → (∀ t ∈ looks ops j, ¬ anc ops m j t → S[t]? = T0[t]?) → aWanted ops oj S = some true →
      (∀ d, oj.dst = some d → d < T0.length → (aPut T o.dst v)[d]? = some u) → aRead P (env S) H oj = some u →
      ∃ S' u', S'.length = T0.length ∧ (∀ t ∈ looks ops j, anc ops m j t → S'[t]? = (aPut T o.dst v)[t]?) ∧ (∀ t ∈ looks ops j, ¬ anc ops m j t → S'[t]? = T0[t]?) ∧ aWanted ops oj S' = some true ∧
        (∀ d, oj.dst = some d → d < T0.length → (aPut T o.dst v)[d]? = some u') ∧ aRead P (env S') H' oj = some u')
    (hnew : ∀ b, β = some b → b < H.next → ρ b = none → ∀ ob, H.get b = some ob → b < H'.next ∧ ρ' b = none ∧ H'.get b = some ob) :
    Lag P ops m T0 (aPut T o.dst v) H' ρ' H0.next j β' := by
  subst hβ
  obtain ⟨oj, S, u, h1, h2, h3, h4, h5, h6⟩ := hL
  have hdj : ∀ d, oj.dst = some d → o.dst ≠ some d := fun d hd e => hji (dst_unique hs (getElem_lt h1) (getElem_lt ho) (by rw [dstOf_of h1]; exact hd) (by rw [dstOf_of ho]; exact e))
  have h3' : ∀ t ∈ looks ops j, anc ops m j t → S[t]? = (aPut T o.dst v)[t]? := fun t ht ha => by
    rw [aPut_get, if_neg (fun e => anc_ne hs ho hC ha e.1)]
    exact h3 t ht ha
  have h5' : ∀ d, oj.dst = some d → d < T0.length → (aPut T o.dst v)[d]? = some u := fun d hd hlt => by
    rw [aPut_get, if_neg (fun e => hdj d hd e.1)]
    exact h5 d hd hlt
  rcases h6 with h6 | ⟨h6, h7⟩
  · exact ⟨oj, S, u, h1, h2, h3', h4, h5', .inl h6⟩
  · rcases h7 with h7 | ⟨h7, h8⟩ | ⟨h7, el, cells, f, b, q1, q2, q3, q4, q5, q6, q7⟩
    · exact ⟨oj, S, u, h1, h2, h3', h4, h5', .inr ⟨h6, .inl h7⟩⟩
    · obtain ⟨S', u', g1, g2, g3, g4, g5, g6⟩ := hread oj h1 h7 S u h2 h3' h4 h6 h5' h8
      exact ⟨oj, S', u', h1, g1, g2, g3, g5, .inr ⟨g4, .inr (.inl ⟨h7, g6⟩)⟩⟩
    · obtain ⟨g1, g2, g3⟩ := hnew b q3 q5 q6 _ q7
      exact ⟨oj, S, u, h1, h2, h3', h4, h5', .inr ⟨h6, .inr (.inr ⟨h7, el, cells, f, b, q1, q2, q3, q4, g1, g2, g3⟩)⟩⟩

theorem Ext.push {ρ : Ren} {H : Heap} {w : World} (h : Ext P ρ0 H0 w0 ρ H w) (o : AObj) : Ext P ρ0 H0 w0 ρ (H.push o) w := by
  have hR := h.rel
  have hne : ∀ b L, ρ b = some L → b ≠ H.next := fun b L hb => by have := hR.dom b L hb; omega
  refine ⟨h.le, ?_, Nat.le_succ_of_le h.next, h.size, h.own, h.frame, h.os, h.output, h.tape, ⟨?_, ?_, ?_, ?_, ⟨hR.void.1, by rw [Heap.get_push, if_neg (by have := hR.void.2.2; omega)]; exact hR.void.2.1, by simp⟩, ?_, hR.frz, ?_, hR.bnd⟩, h.blks⟩
  · intro b hb hn
    obtain ⟨k1, k2⟩ := h.phant b hb hn
    refine ⟨k1, ?_⟩
    have := h.next
    rw [Heap.get_push, if_neg (by omega)]; exact k2
  · intro b L hb
    have := hR.dom b L hb
    simp; omega
  · intro b L own el ce hb hg
    rw [Heap.get_push, if_neg (hne b L hb)] at hg
    exact hR.rows b L own el ce hb hg
  · intro b L es cl hb hg
    rw [Heap.get_push, if_neg (hne b L hb)] at hg
    exact hR.maps b L es cl hb hg
  · intro b hb
    simp only [Heap.next_push] at hb
    rw [Heap.get_push, if_neg (by omega)]
    exact hR.free b (by omega)
  · intro b1 b2 L1 L2 o2 hn h1 h2 g1 g1' g2
    rw [Heap.get_push, if_neg (hne b1 L1 h1)] at g1 g1'
    rw [Heap.get_push, if_neg (hne b2 L2 h2)] at g2
    exact hR.inj b1 b2 L1 L2 o2 hn h1 h2 g1 g1' g2
  · intro b1 b2 L1 L2 fs h1 h2 hf g1 g1'
    rw [Heap.get_push, if_neg (hne b1 L1 h1)] at g1 g1'
    exact hR.frinj b1 b2 L1 L2 fs h1 h2 hf g1 g1'

theorem push_keeps {H : Heap} (hf : ∀ b, H.next ≤ b → H.get b = none) (o : AObj) : ∀ b o', H.get b = some o' → (H.push o).get b = some o' := by
  intro b o' h
  rw [Heap.get_push, if_neg]
  · exact h
  · intro e; rw [hf b (by omega)] at h; cases h

/-- The plan does an operation that writes nothing, ahead of the machine. -/
theorem Inv.ahead (hs : statOk ops m = true) {C : List Nat} {T : Tm} {H : Heap} {D : Array Bool} {ρ : Ren} {a : Act} {w : World} {β : Nat → Option Nat} (I : Inv n0 P ops m T0 ρ0 H0 w0 C T H D ρ a w β)
    {i : Nat} {o : Oper} (ho : ops[i]? = some o) (hiC : i ∉ C) (hk : kindOf P o.op ≠ .eff) (hp : ∀ p ∈ preds ops i, p ∈ C) {K : Tm → Heap → Prop}
    (h : match aWanted ops o T with | some true => aStep P (env T) H o (fun v H' => K (aPut T o.dst v) H') | some false => K (aPut T o.dst undef) H | none => False) :
    ∃ T' H' β', Inv n0 P ops m T0 ρ0 H0 w0 (i :: C) T' H' D ρ a w β' ∧ K T' H' := by
  have hi := getElem_lt ho
  have hmk : ∀ k, (m.getD i 0).testBit k = true → k ≠ i := fun k hb e => hiC (e ▸ mask_ready hs I.Ccl i hi hp k hb)
  have hmj : ∀ j ∈ C, ∀ k, (m.getD j 0).testBit k = true → k ≠ i := fun j hj k hb e => hiC (e ▸ mask_closed hs I.Ccl (I.Cn j hj) hj hb)
  have hS2 : ∀ t ∈ looks ops i, ¬ anc ops m i t → T[t]? = T0[t]? := fun t ht ha => by
    rcases look_cases hs I.Ccl I.Cn hi hp hiC ht with ⟨_, _, _, h⟩ | ⟨_, h⟩
    · exact absurd h ha
    · exact I.TU t h
  have key : ∀ (v : Value) (H' : Heap) (β' : Nat → Option Nat), Ext P ρ0 H0 w0 ρ H' w → H'.gh = H.gh → H.next ≤ H'.next → (∀ b ob, H.get b = some ob → H'.get b = some ob) →
      (∀ j, j ≠ i → β' j = β j) → (∀ x y b, β' x = some b → β' y = some b → x = y) → (∀ x b, β' x = some b → b < H'.next) →
      ((aWanted ops o T = some false ∧ v = undef) ∨ (aWanted ops o T = some true ∧ LagKind P o T H' ρ H0.next (β' i) v)) → Inv n0 P ops m T0 ρ0 H0 w0 (i :: C) (aPut T o.dst v) H' D ρ a w β' := by
    intro v H' β' hE hgh hnx hget hβ hβi hβl hLK
    refine ⟨by rw [length_aPut]; exact I.len, I.alen, I.defers, hE, hgh.trans I.gh, I.pins, I.dsz, fun k hk => List.mem_cons_of_mem _ (I.DC k hk), ?_, ?_, ?_, I.Dcl, ?_, ?_, I.TIn, ?_, hβi, hβl⟩
    · intro k hkC hke
      rcases List.mem_cons.1 hkC with rfl | h
      · rw [kindAt_of ho] at hke; exact absurd hke hk
      · exact I.eff k h hke
    · intro k hkC
      rcases List.mem_cons.1 hkC with rfl | h
      · exact hi
      · exact I.Cn k h
    · intro k hkn hkC p hpm
      rcases List.mem_cons.1 hkC with rfl | h
      · exact List.mem_cons_of_mem _ (hp p hpm)
      · exact List.mem_cons_of_mem _ (I.Ccl k hkn h p hpm)
    · intro t ht
      have hd : o.dst ≠ some t := by
        have := ht i (by simp)
        rwa [dstOf_of ho] at this
      rw [aPut_get, if_neg (fun e => hd e.1)]
      exact I.TU t fun k hk => ht k (List.mem_cons_of_mem _ hk)
    · rintro t u ⟨k, hkD, hkd⟩ hu
      have hd : o.dst ≠ some t := fun e => hiC (by
        have := dst_unique hs hi (I.Cn k (I.DC k hkD)) (by rw [dstOf_of ho]; exact e) hkd
        rw [this]; exact I.DC k hkD)
      rw [aPut_get, if_neg (fun e => hd e.1)] at hu
      exact I.TIw t u ⟨k, hkD, hkd⟩ hu
    · intro j hj hnj
      by_cases hji : j = i
      · subst hji
        refine ⟨o, T, v, ho, I.len, ?_, hS2, ?_, hLK⟩
        · intro t ht ha
          rw [aPut_get, if_neg (fun e => anc_ne hs ho hmk ha e.1)]
        · intro d hd hlt
          rw [aPut_get, if_pos ⟨hd, by rw [I.len]; exact hlt⟩]
      · have hjC : j ∈ C := by
          rcases List.mem_cons.1 hj with h | h
          · exact absurd h hji
          · exact h
        refine Lag.step hs (I.lag j hjC hnj) ho hji (hmj j hjC) v (hβ j hji) ?_ ?_
        · intro oj _ _ S u g1 g2 g3 g4 g5 g6
          exact ⟨S, u, g1, g2, g3, g4, g5, aRead_grow hget g6⟩
        · intro b _ hlt hn ob hob
          exact ⟨Nat.lt_of_lt_of_le hlt hnx, hn, hget b ob hob⟩
  cases hw : aWanted ops o T with
  | none => rw [hw] at h; exact h.elim
  | some b =>
    rw [hw] at h
    cases b with
    | false => exact ⟨_, _, β, key undef H β I.ext rfl (Nat.le_refl _) (fun _ _ h => h) (fun _ _ => rfl) I.βinj I.βlt (.inl ⟨hw, rfl⟩), h⟩
    | true =>
      simp only at h
      unfold aStep at h
      split at h
      · rename_i hkd
        rw [ob_iff] at h
        obtain ⟨v, hv, hK⟩ := h
        exact ⟨_, _, β, key v H β I.ext rfl (Nat.le_refl _) (fun _ _ h => h) (fun _ _ => rfl) I.βinj I.βlt (.inr ⟨hw, .inl ⟨hkd, hv⟩⟩), hK⟩
      · rename_i hkd
        rw [ob_iff] at h
        obtain ⟨v, hv, hK⟩ := h
        exact ⟨_, _, β, key v H β I.ext rfl (Nat.le_refl _) (fun _ _ h => h) (fun _ _ => rfl) I.βinj I.βlt (.inr ⟨hw, .inr (.inl ⟨hkd, hv⟩)⟩), hK⟩
      · rename_i hkd
        rw [ob_iff] at h
        obtain ⟨⟨el, cells, f⟩, hv, hK⟩ := h
        refine ⟨_, _, fun j => if j = i then some H.next else β j, key (f H.next) (H.push (.row true el cells)) _ (I.ext.push _) rfl (by simp) (push_keeps I.ext.rel.free _) ?_ ?_ ?_ (.inr ⟨hw, .inr (.inr ⟨hkd, el, cells, f, H.next, hv, rfl, by simp, I.ext.next, by simp, I.ext.rel.fresh (Nat.le_refl _), by rw [Heap.get_push, if_pos rfl]⟩)⟩), hK⟩
        · intro j hj; rw [if_neg hj]
        · intro x y b hx hy
          split at hx
          · injection hx with hx
            split at hy
            · rename_i e1 e2; rw [e1, e2]
            · have := I.βlt y b hy; omega
          · split at hy
            · injection hy with hy
              have := I.βlt x b hx; omega
            · exact I.βinj x y b hx hy
        · intro x b hx
          split at hx
          · injection hx with hx; simp; omega
          · have := I.βlt x b hx; simp; omega
      · rename_i hkd; exact absurd hkd hk

/-- The plan and the machine do the next writing operation together. -/
theorem Inv.both (hs : statOk ops m = true) {C : List Nat} {T : Tm} {H : Heap} {D : Array Bool} {ρ : Ren} {a : Act} {w : World} {β : Nat → Option Nat} (I : Inv n0 P ops m T0 ρ0 H0 w0 C T H D ρ a w β)
    {i : Nat} {o : Oper} (ho : ops[i]? = some o) (hiC : i ∉ C) (hp : ∀ p ∈ preds ops i, Dn D p) {chks : List Nat}
    (hc1 : ∀ j ∈ C, kindAt P ops j = .read → (m.getD i 0).testBit j = true ∨ j ∈ chks) (hc2 : ∀ j ∈ chks, ∀ t ∈ looks ops j, ∀ k, k < ops.size → dstOf ops k = some t → (m.getD j 0).testBit k = true)
    {K : Tm → Heap → Prop}
    (h : match aWanted ops o T with
      | some true => aStep P (env T) H o (fun v H' => (∀ j ∈ chks, aChk P ops (aPut T o.dst v) H' j) ∧ K (aPut T o.dst v) H')
      | some false => (∀ j ∈ chks, aChk P ops (aPut T o.dst undef) H j) ∧ K (aPut T o.dst undef) H
      | none => False)
    {Kc : Act → World → Prop} {Q : Exit → Act → World → Prop}
    (hK : ∀ T' H' ρ' a' w', Inv n0 P ops m T0 ρ0 H0 w0 (i :: C) T' H' (D.setIfInBounds i true) ρ' a' w' β → K T' H' → Kc a' w') : wpOpIn (wideR ro) 0 P ops Q i Kc a w := by
  have hi := getElem_lt ho
  have hiD : i < D.size := by rw [I.dsz]; exact hi
  have hset := fun j => Dn_set (j := j) hiD
  have hni : ¬ Dn D i := fun h => hiC (I.DC i h)
  have hpC : ∀ p ∈ preds ops i, p ∈ C := fun p hpm => I.DC p (hp p hpm)
  have hmj : ∀ j ∈ C, ∀ k, (m.getD j 0).testBit k = true → k ≠ i := fun j hj k hb e => hiC (e ▸ mask_closed hs I.Ccl (I.Cn j hj) hj hb)
  have hS2 : ∀ t ∈ looks ops i, ¬ anc ops m i t → T[t]? = T0[t]? := fun t ht ha => by
    rcases look_cases hs I.Ccl I.Cn hi hpC hiC ht with ⟨_, _, _, h⟩ | ⟨_, h⟩
    · exact absurd h ha
    · exact I.TU t h
  have hsee : ∀ t ∈ o.looksAt ops, ∀ v, T[t]? = some v → ∃ v', a.tmps[t]? = some v' ∧ VRel ρ v v' := fun t ht v hv =>
    I.see hs hi hp hni (fun _ _ _ => rfl) hS2 (by rw [looks_of ho]; exact ht) hv
  have hER := erel_of (ops := ops) hsee
  have key : ∀ (v v' : Value) (ρ' : Ren) (H' : Heap) (w' : World), Ext P ρ H w ρ' H' w' → H'.gh = H.gh → VRel ρ' v v' → (∀ j ∈ chks, aChk P ops (aPut T o.dst v) H' j) → K (aPut T o.dst v) H' → Kc (a.put o.dst v') w' := by
    intro v v' ρ' H' w' hE hgh hv hch hKv
    have hTU : ∀ t, (∀ k ∈ i :: C, dstOf ops k ≠ some t) → (aPut T o.dst v)[t]? = T0[t]? := fun t ht => by
      have hd : o.dst ≠ some t := by
        have := ht i (by simp)
        rwa [dstOf_of ho] at this
      rw [aPut_get, if_neg (fun e => hd e.1)]
      exact I.TU t fun k hk => ht k (List.mem_cons_of_mem _ hk)
    refine hK _ _ _ _ _ ⟨by rw [length_aPut]; exact I.len, by rw [size_put]; exact I.alen, by rw [put_defers]; exact I.defers.ext hE, I.ext.trans hE, hgh.trans I.gh, I.pins.ext hE, by simp [I.dsz], ?_, ?_, ?_, ?_, ?_, hTU, ?_, ?_, ?_, I.βinj, fun x b hx => Nat.lt_of_lt_of_le (I.βlt x b hx) hE.next⟩ hKv
    · intro k hk
      rcases (hset k).1 hk with rfl | h
      · simp
      · exact List.mem_cons_of_mem _ (I.DC k h)
    · intro k hk hke
      rcases List.mem_cons.1 hk with rfl | h
      · exact (hset _).2 (.inl rfl)
      · exact (hset _).2 (.inr (I.eff k h hke))
    · intro k hk
      rcases List.mem_cons.1 hk with rfl | h
      · exact hi
      · exact I.Cn k h
    · intro k hkn hk p hpm
      rcases List.mem_cons.1 hk with rfl | h
      · exact List.mem_cons_of_mem _ (hpC p hpm)
      · exact List.mem_cons_of_mem _ (I.Ccl k hkn h p hpm)
    · intro k hkn hk p hpm
      rcases (hset k).1 hk with rfl | h
      · exact (hset p).2 (.inr (hp p hpm))
      · exact (hset p).2 (.inr (I.Dcl k hkn h p hpm))
    · rintro t u ⟨k, hk, hkd⟩ hu
      by_cases he : o.dst = some t
      · have hlt : t < T.length := by
          rcases Nat.lt_or_ge t T.length with h | h
          · exact h
          · rw [List.getElem?_eq_none (by rw [length_aPut]; exact h)] at hu; cases hu
        rw [aPut_get, if_pos ⟨he, hlt⟩] at hu
        injection hu with hu; subst hu
        refine ⟨v', ?_, hv⟩
        rw [put_tmps, if_pos ⟨he, by rw [I.alen, ← I.len]; exact hlt⟩]
      · rw [aPut_get, if_neg (fun e => he e.1)] at hu
        rcases (hset k).1 hk with rfl | h
        · rw [dstOf_of ho] at hkd; exact absurd hkd he
        · obtain ⟨u', h1, h2⟩ := I.TIw t u ⟨k, h, hkd⟩ hu
          refine ⟨u', ?_, h2.mono hE.le⟩
          rw [put_tmps, if_neg (fun e => he e.1)]
          exact h1
    · intro t u hn hu
      have he : o.dst ≠ some t := by
        have := hn i ((hset i).2 (.inl rfl))
        rwa [dstOf_of ho] at this
      obtain ⟨u', h1, h2⟩ := I.TIn t u (fun k hk => hn k ((hset k).2 (.inr hk))) hu
      refine ⟨u', ?_, h2.mono hE.le⟩
      rw [put_tmps, if_neg (fun e => he e.1)]
      exact h1
    · intro j hj hnj
      have hji : j ≠ i := fun e => hnj ((hset j).2 (.inl e))
      have hnD : ¬ Dn D j := fun h => hnj ((hset j).2 (.inr h))
      have hjC : j ∈ C := by
        rcases List.mem_cons.1 hj with h | h
        · exact absurd h hji
        · exact h
      refine Lag.step hs (I.lag j hjC hnD) ho hji (hmj j hjC) v rfl ?_ ?_
      · intro oj hoj hkj S u g1 g2 g3 g4 g5 g6
        have hjch : j ∈ chks := by
          rcases hc1 j hjC (by rw [kindAt_of hoj]; exact hkj) with h | h
          · exact absurd (mask_ready hs I.Dcl i hi hp j h) hnD
          · exact h
        have hT0 : ∀ t ∈ looks ops j, ¬ anc ops m j t → (aPut T o.dst v)[t]? = T0[t]? := fun t ht ha => hTU t fun k hk hkd => by
          have hkn : k < ops.size := by
            rcases List.mem_cons.1 hk with rfl | h
            · exact hi
            · exact I.Cn k h
          exact ha ⟨k, hkn, hkd, hc2 j hjch t ht k hkn hkd⟩
        have hwT : aWanted ops oj (aPut T o.dst v) = some true := by
          rw [← g4]
          refine wanted_congr fun d hd => ?_
          have hdl : d ∈ looks ops j := by rw [looks_of hoj]; exact guard_looks hd
          by_cases ha : anc ops m j d
          · exact (g2 d hdl ha).symm
          · rw [g3 d hdl ha, hT0 d hdl ha]
        have hcj := hch j hjch
        unfold aChk at hcj
        simp only [hoj, hwT] at hcj
        obtain ⟨v2, q1, q2⟩ := hcj
        exact ⟨aPut T o.dst v, v2, by rw [length_aPut]; exact I.len, fun _ _ _ => rfl, hT0, hwT, fun d hd hlt => q2 d hd (by rw [length_aPut, I.len]; exact hlt), q1⟩
      · intro b _ hlt hn ob hob
        obtain ⟨k1, k2⟩ := hE.phant b hlt hn
        exact ⟨Nat.lt_of_lt_of_le hlt hE.next, k1, by rw [k2]; exact hob⟩
  unfold wpOpIn
  simp only [ho]
  cases hw : aWanted ops o T with
  | none => rw [hw] at h; exact h.elim
  | some b =>
    rw [hw] at h
    rw [wanted_see hsee (by rw [I.len, I.alen]) hw]
    cases b with
    | false =>
      rw [if_neg (by simp)]
      exact ⟨fun _ _ => trivial, key undef undef ρ H w (Ext.refl I.ext.rel) rfl (.tuple .nil) h.1 h.2⟩
    | true =>
      rw [if_pos rfl]
      refine aStep_wp h I.ext.rel (I.gh ▸ I.pins) hER ?_
      intro v v' ρ' H' w' h1 h0 h2 h3
      exact key v v' ρ' H' w' h1 h0 h2 h3.1 h3.2

/-- The plan does a run of operations that write nothing. -/
theorem Inv.seg (hs : statOk ops m = true) {last : Option Nat} {K : Tm → Heap → Prop} {D : Array Bool} {ρ : Ren} {a : Act} {w : World} : ∀ (s : List Nat) {C C' : List Nat} {T : Tm} {H : Heap} {β : Nat → Option Nat},
    Inv n0 P ops m T0 ρ0 H0 w0 C T H D ρ a w β → segOk P ops m last C s = some C' → aSeg P ops K s T H → ∃ T' H' β', Inv n0 P ops m T0 ρ0 H0 w0 C' T' H' D ρ a w β' ∧ K T' H'
  | [], C, C', T, H, β, I, hseg, h => by
    simp only [segOk, Option.some.injEq] at hseg
    subst hseg
    exact ⟨T, H, β, I, h⟩
  | i :: s, C, C', T, H, β, I, hseg, h => by
    simp only [segOk] at hseg
    split at hseg
    rotate_left
    · cases hseg
    rename_i hc
    simp only [Bool.and_eq_true, decide_eq_true_eq, Bool.not_eq_true', List.contains_eq_mem, decide_eq_false_iff_not, bne_iff_ne, ne_eq, List.all_eq_true] at hc
    obtain ⟨⟨⟨⟨hi, hiC⟩, hk⟩, hp⟩, _⟩ := hc
    simp only [aSeg] at h
    split at h
    · exact h.elim
    · rename_i o ho
      rw [kindAt_of ho] at hk
      obtain ⟨T', H', β', I', h'⟩ := I.ahead hs ho hiC hk hp h
      exact Inv.seg hs s I' hseg h'

/-- Whatever may come up: the plan has done it, or it is what the plan does next. -/
theorem Inv.any (hs : statOk ops m = true) {K : Tm → Heap → Prop} {Q : Exit → Act → World → Prop}
    (hQ : ∀ ρ' T' H' a' w', Ext P ρ0 H0 w0 ρ' H' w' → H'.gh = H0.gh → VRels ρ' T' a'.tmps.toList → Marks n0 ρ' w' a'.defers → K T' H' → Q .normal a' w') :
    ∀ (n : Nat) {last : Option Nat} {C : List Nat} {r : List (Nat × List Nat × List Nat)} {T : Tm} {H : Heap} {D : Array Bool} {ρ : Ren} {a : Act} {w : World} {β : Nat → Option Nat},
      Inv n0 P ops m T0 ρ0 H0 w0 C T H D ρ a w β → restOk P ops m last C r = true → aRest P ops K r T H → ((List.range ops.size).filter fun i => !D.getD i false).length ≤ n → wpAnyIn (wideR ro) 0 P .any ops Q n D a w := by
  intro n
  have hDD : ∀ (D : Array Bool) (i : Nat), D.size = ops.size → i < ops.size → D.getD i true = D.getD i false := fun D i h hi => by
    simp [Array.getD_eq_getD_getElem?, Array.getElem?_eq_getElem (show i < D.size by omega)]
  have hready : ∀ (D : Array Bool) (i : Nat), D.size = ops.size → (i ∈ Region.ready .any ops D ↔ i < ops.size ∧ ¬ Dn D i ∧ ∀ p ∈ preds ops i, Dn D p) := by
    intro D i hD
    unfold Region.ready
    simp only [List.mem_filter, List.mem_range, Bool.and_eq_true, Bool.not_eq_true']
    constructor
    · rintro ⟨h1, h2, h3⟩
      refine ⟨h1, ?_, ?_⟩
      · unfold Dn; rw [← hDD D i hD h1, h2]; simp
      · intro p hp
        have ho : ops[i]? = some ops[i] := Array.getElem?_eq_getElem h1
        simp only [preds, ho, List.mem_map, List.mem_filter] at hp
        obtain ⟨e, ⟨he, hb⟩, rfl⟩ := hp
        rw [ho] at h3
        simp only [Option.map_some, Option.getD_some] at h3
        rw [Array.all_eq_true_iff_forall_mem] at h3
        have := h3 e (Array.mem_toList_iff.1 he)
        simpa [hb, Dn] using this
    · rintro ⟨h1, h2, h3⟩
      refine ⟨h1, ?_, ?_⟩
      · rw [hDD D i hD h1]; simpa [Dn] using h2
      · have ho : ops[i]? = some ops[i] := Array.getElem?_eq_getElem h1
        rw [ho]
        simp only [Option.map_some, Option.getD_some]
        rw [Array.all_eq_true_iff_forall_mem]
        intro e he
        by_cases hb : Region.binds .any e = true
        · have := h3 e.on (by simp only [preds, ho, List.mem_map, List.mem_filter]; exact ⟨e, ⟨Array.mem_toList_iff.2 he, hb⟩, rfl⟩)
          simpa [hb, Dn] using this
        · simp [hb]
  have hall : ∀ (D : Array Bool), D.size = ops.size → Region.ready .any ops D = [] → ∀ i, i < ops.size → Dn D i := by
    intro D hD hr i
    induction i using Nat.strongRecOn with
    | _ i ih =>
      intro hi
      rcases Classical.em (Dn D i) with h | h
      · exact h
      · have : i ∈ Region.ready .any ops D := (hready D i hD).2 ⟨hi, h, fun p hp => ih p ((stat_spec hs hi).1 p hp) (Nat.lt_trans ((stat_spec hs hi).1 p hp) hi)⟩
        rw [hr] at this; cases this
  have hend : ∀ {last : Option Nat} {C : List Nat} {r : List (Nat × List Nat × List Nat)} {T : Tm} {H : Heap} {D : Array Bool} {ρ : Ren} {a : Act} {w : World} {β : Nat → Option Nat},
      Inv n0 P ops m T0 ρ0 H0 w0 C T H D ρ a w β → restOk P ops m last C r = true → aRest P ops K r T H → (∀ i, i < ops.size → Dn D i) → Q .normal a w := by
    intro last C r T H D ρ a w β I hr h hD
    cases r with
    | cons x r =>
      obtain ⟨E, chks, s⟩ := x
      simp only [restOk, Bool.and_eq_true, decide_eq_true_eq, Bool.not_eq_true', List.contains_eq_mem, decide_eq_false_iff_not] at hr
      exact absurd (I.DC E (hD E hr.1.1.1.1.1.1.1)) hr.1.1.1.1.1.1.2
    | nil =>
      refine hQ ρ T H a w I.ext I.gh ?_ I.defers h
      refine VRels.of_get (by rw [I.len]; simp [I.alen]) fun t v hv => ?_
      have : ∃ v', a.tmps[t]? = some v' ∧ VRel ρ v v' := by
        by_cases hw : ∃ i, Dn D i ∧ dstOf ops i = some t
        · exact I.TIw t v hw hv
        · have hn : ∀ i, Dn D i → dstOf ops i ≠ some t := fun i hi hd => hw ⟨i, hi, hd⟩
          rw [I.TU t fun i hi => hn i (hD i (I.Cn i hi))] at hv
          exact I.TIn t v hn hv
      obtain ⟨v', h1, h2⟩ := this
      exact ⟨v', by rw [Array.getElem?_toList]; exact h1, h2⟩
  induction n with
  | zero =>
    intro last C r T H D ρ a w β I hr h hn
    have hD : ∀ i, i < ops.size → Dn D i := by
      intro i hi
      rcases Classical.em (Dn D i) with h' | h'
      · exact h'
      · have : i ∈ (List.range ops.size).filter fun i => !D.getD i false := by
          simp only [List.mem_filter, List.mem_range]
          exact ⟨hi, by simpa [Dn] using h'⟩
        rw [List.length_eq_zero_iff.1 (Nat.le_zero.1 hn)] at this; cases this
    refine ⟨?_, hend I hr h hD⟩
    rw [List.eq_nil_iff_forall_not_mem]
    intro i hi
    obtain ⟨h1, h2, _⟩ := (hready D i I.dsz).1 hi
    exact h2 (hD i h1)
  | succ n ih =>
    intro last C r T H D ρ a w β I hr h hn
    refine ⟨fun he => hend I hr h (hall D I.dsz he), fun i hi => ?_⟩
    obtain ⟨h1, h2, h3⟩ := (hready D i I.dsz).1 hi
    have ho : ops[i]? = some ops[i] := Array.getElem?_eq_getElem h1
    have hiD : i < D.size := by rw [I.dsz]; exact h1
    have hcount : ((List.range ops.size).filter fun j => !(D.setIfInBounds i true).getD j false).length ≤ n := by
      have hsub : ((List.range ops.size).filter fun j => !(D.setIfInBounds i true).getD j false) = ((List.range ops.size).filter fun j => !D.getD j false).filter fun j => j != i := by
        rw [List.filter_filter]
        refine List.filter_congr fun j _ => ?_
        have := Dn_set (j := j) hiD
        unfold Dn at this
        cases hx : (D.setIfInBounds i true).getD j false <;> cases hy : D.getD j false <;> by_cases hz : j = i <;> simp_all
      rw [hsub]
      have hmem : i ∈ (List.range ops.size).filter fun j => !D.getD j false := by
        simp only [List.mem_filter, List.mem_range]
        exact ⟨h1, by simpa [Dn] using h2⟩
      have := (List.length_filter_lt_length_iff_exists (p := fun j => j != i)).2 ⟨i, hmem, show ¬ ((i != i) = true) by simp⟩
      omega
    by_cases hiC : i ∈ C
    · refine I.catch hs ho hiC h3 h2 fun ρ' a' w' I' => ih I' hr h hcount
    · cases r with
      | nil =>
        simp only [restOk, List.all_eq_true, List.mem_range, List.contains_eq_mem, decide_eq_true_eq] at hr
        exact absurd (hr i h1) hiC
      | cons x r =>
        obtain ⟨E, chks, s⟩ := x
        by_cases hiE : i = E
        · subst hiE
          have hr' := hr
          simp only [restOk, Bool.and_eq_true, decide_eq_true_eq] at hr'
          obtain ⟨⟨⟨_, hc1⟩, hc2⟩, hseg⟩ := hr'
          split at hseg
          rotate_left
          · cases hseg
          rename_i C' hsegOk
          simp only [aRest, aSeg, ho] at h
          refine I.both hs ho hiC h3 ?_ ?_ h ?_
          · intro j hj hkj
            rw [List.all_eq_true] at hc1
            have := hc1 j hj
            simp only [Bool.or_eq_true, bne_iff_ne, ne_eq, List.contains_eq_mem, decide_eq_true_eq] at this
            rcases this with (h | h) | h
            · exact absurd hkj h
            · exact .inl h
            · exact .inr h
          · intro j hj t ht k hk hkd
            rw [List.all_eq_true] at hc2
            have := hc2 j hj
            simp only [Bool.and_eq_true, List.all_eq_true, List.mem_range, Bool.or_eq_true, bne_iff_ne, ne_eq] at this
            rcases this.2 t ht k hk with h | h
            · exact absurd hkd h
            · exact h
          · intro T' H' ρ' a' w' I' hK'
            obtain ⟨T2, H2, β2, I2, hK2⟩ := I'.seg hs s hsegOk hK'
            exact ih I2 hseg hK2 hcount
        · have := rest_early hs I.Dcl h1 h3 r last C E chks s hr hiC hiE
          have hEC : E ∉ C := by
            simp only [restOk, Bool.and_eq_true, decide_eq_true_eq, Bool.not_eq_true', List.contains_eq_mem, decide_eq_false_iff_not] at hr
            exact hr.1.1.1.1.1.1.2
          exact absurd (I.DC E this) hEC

end

end Go.Abs

/- Code: what a piece of it comes to; a function's body. -/
namespace Go.Abs
open Go

theorem aPlan_wp {P : Program} (hm : P.follows .mixedOrders = true) {ops : Array Oper} {id : Nat} {p : Plan} (hp : planOk P ops p = true) {Q : Exit → Tm → Heap → Prop} {T : Tm} {H : Heap} (h : aPlan P ops p (Q .normal) T H)
    {ρ : Ren} {w : World} {a : Act} {n0 : Nat} {ro : Option Nat} (hR : HRel P ρ H w) (hP : Pins ρ w H.gh) (hT : VRels ρ T a.tmps.toList) (hd : Marks n0 ρ w a.defers) : (Code.region id ops true).wpIn (wideR ro) 0 P (APost n0 P ρ H w Q) a w := by
  refine wpIn_region_any hm ?_
  unfold planOk at hp
  simp only [Bool.and_eq_true] at hp
  obtain ⟨hs, hp⟩ := hp
  split at hp
  rotate_left
  · cases hp
  rename_i C hseg
  have hD0 : ∀ i, ¬ Dn (Array.replicate ops.size false) i := by
    intro i
    unfold Dn
    rw [Array.getD_eq_getD_getElem?, Array.getElem?_replicate]
    split <;> simp
  have I0 : Inv n0 P ops (masks ops) T ρ H w [] T H (Array.replicate ops.size false) ρ a { w with drawn := w.drawn + 1 } (fun _ => none) := by
    refine ⟨rfl, by have := hT.length; simpa using this.symm, hd.ext (Ext.drawn hR _), Ext.drawn hR _, rfl, hP.ext (Ext.drawn hR _), by simp, ?_, ?_, ?_, ?_, ?_, fun _ _ => rfl, ?_, ?_, ?_, ?_, ?_⟩
    · intro i hi; exact absurd hi (hD0 i)
    · intro i hi; cases hi
    · intro i hi; cases hi
    · intro i _ hi; cases hi
    · intro i _ hi; exact absurd hi (hD0 i)
    · rintro t v ⟨i, hi, _⟩; exact absurd hi (hD0 i)
    · intro t v _ hv
      obtain ⟨v', h1, h2⟩ := hT.get t v hv
      exact ⟨v', by rw [← Array.getElem?_toList]; exact h1, h2⟩
    · intro i hi; cases hi
    · intro i j b hb; cases hb
    · intro i b hb; cases hb
  obtain ⟨T', H', β', I', h'⟩ := I0.seg hs p.first hseg h
  refine Inv.any hs (Q := APost n0 P ρ H w Q) (fun ρ' T' H' a' w' h1 h0 h2 h3 h4 => ⟨T', ρ', H', h1, h0, h2, h3, h4⟩) _ I' hp h' ?_
  exact Nat.le_trans (List.length_filter_le _ _) (by simp)

/-- What code comes to on abstract states. -/
def aw (P : Program) : Code → (Exit → Tm → Heap → Prop) → Tm → Heap → Prop
  | .skip, Q, T, H => Q .normal T H
  | .label _, Q, T, H => Q .normal T H
  | .region _ ops true, Q, T, H => planOk P ops (mkPlan P ops) = true ∧ aPlan P ops (mkPlan P ops) (Q .normal) T H
  | .region _ ops false, Q, T, H => aOps P ops (Q .normal) ops.toList T H
  | .seq x y, Q, T, H => aw P x (fun e T' H' => match e with | .normal => aw P y Q T' H' | e => Q e T' H') T H
  | .cond c x y, Q, T, H =>
    match env T c with
    | some (.bool b) => if b = true then aw P x Q T H else aw P y Q T H
    | _ => False
  | .block id c, Q, T, H => aw P c (fun e T' H' => match e with | .exit id' => if id' = id then Q .normal T' H' else Q (.exit id') T' H' | e => Q e T' H') T H
  | .loop c, Q, T, H => ∃ (I : Nat → Tm → Heap → Prop) (n : Nat), I n T H ∧ ∀ n T H, I n T H → aw P c (fun e T' H' => match e with | .normal => ∃ k, k < n ∧ I k T' H' | e => Q e T' H') T H
  | .exit id, Q, T, H => Q (.exit id) T H
  | .ret, Q, T, H => Q .ret T H
  | .rangeFunc f ps asg body, Q, T, H =>
    match env T f with
    | some (.func (.func g) first cap) => first.toList = [] ∧ ∀ (l : Nat) (r : Loop), r.state = .ready → r.pending = none → r.params = ps → r.assign = asg → r.body = body →
        ACalls P g (.func (.yield l) ⟨[]⟩ ⟨[]⟩ :: cap.toList) (H.wg (⟨l, r, T⟩ :: H.gh)) fun _ H' => Q .normal T (H'.wg H.gh)
    | _ => False
  | _, _, _, _ => False

/-- No loop over a function is in it. -/
def plainC : Code → Bool
  | .seq x y | .cond _ x y => plainC x && plainC y
  | .block _ c | .loop c => plainC c
  | .rangeFunc .. => false
  | _ => true

theorem HRel.wg {P : Program} {ρ : Ren} {H : Heap} {w : World} (h : HRel P ρ H w) (g : List Pin) : HRel P ρ (H.wg g) w := ⟨h.dom, h.rows, h.maps, h.free, h.void, h.inj, h.frz, h.frinj, h.bnd⟩
/-- An object that is no row and no map is written, or made. -/
theorem HRel.putObj {P : Program} {ρ : Ren} {H : Heap} {w : World} (h : HRel P ρ H w) {l : Nat} {o : Obj} (ho : w.heap[l]? = some o) (h1 : ∀ cs el fr, o ≠ .cells cs el fr) (h2 : ∀ es cl, o ≠ .map es cl) (o' : Obj) : HRel P ρ H (w.putObj l o') := by
  refine ⟨h.dom, ?_, ?_, h.free, h.void, h.inj, ?_, h.frinj, fun b L hb => by rw [World.putObj_size]; exact h.bnd b L hb⟩
  · intro b L own el cells hb hg
    obtain ⟨cs, fr, k1, k2⟩ := h.rows b L own el cells hb hg
    exact ⟨cs, fr, (World.putObj_heap_other (fun e => by rw [e, ho] at k1; injection k1 with k1; exact h1 _ _ _ k1)).trans k1, k2⟩
  · intro b L es cl hb hg
    obtain ⟨es', k1, k2⟩ := h.maps b L es cl hb hg
    exact ⟨es', (World.putObj_heap_other (fun e => by rw [e, ho] at k1; injection k1 with k1; exact h2 _ _ k1)).trans k1, k2⟩
  · intro b L cs hb hcs
    obtain ⟨q1, el, fr, q2⟩ := h.frz b L cs hb hcs
    exact ⟨q1, el, fr, (World.putObj_heap_other (fun e => by rw [e, ho] at q2; injection q2 with q2; exact h1 _ _ _ q2)).trans q2⟩
theorem HRel.alloc {P : Program} {ρ : Ren} {H : Heap} {w : World} (h : HRel P ρ H w) (o : Obj) : HRel P ρ H (w.alloc o) := by
  refine ⟨h.dom, ?_, ?_, h.free, h.void, h.inj, ?_, h.frinj, fun b L hb => by have := h.bnd b L hb; simp; omega⟩
  · intro b L own el cells hb hg
    obtain ⟨cs, fr, k1, k2⟩ := h.rows b L own el cells hb hg
    exact ⟨cs, fr, (RowKit.Below.heap_alloc w _ _ (lt_of_heap k1)).trans k1, k2⟩
  · intro b L es cl hb hg
    obtain ⟨es', k1, k2⟩ := h.maps b L es cl hb hg
    exact ⟨es', (RowKit.Below.heap_alloc w _ _ (lt_of_heap k1)).trans k1, k2⟩
  · intro b L cs hb hcs
    obtain ⟨q1, el, fr, q2⟩ := h.frz b L cs hb hcs
    exact ⟨q1, el, fr, (RowKit.Below.heap_alloc w _ _ (lt_of_heap q2)).trans q2⟩

theorem aw_wp {P : Program} (hm : P.follows .mixedOrders = true) {n0 : Nat} {ro : Option Nat} : ∀ (c : Code), (ro = none ∨ plainC c = true) → ∀ {Q : Exit → Tm → Heap → Prop} {T : Tm} {H : Heap}, aw P c Q T H → ∀ {ρ : Ren} {w : World} {a : Act}, HRel P ρ H w → Pins ρ w H.gh → VRels ρ T a.tmps.toList → Marks n0 ρ w a.defers → n0 ≤ w.heap.size →
    c.wpIn (wideR ro) 0 P (APost n0 P ρ H w Q) a w := by
  intro c
  induction c with
  | skip =>
    intro hro Q T H h ρ w a hR hP hT hd hn
    simp only [aw] at h
    exact wpIn_skip ⟨T, ρ, H, Ext.refl hR, rfl, hT, hd, h⟩
  | label l =>
    intro hro Q T H h ρ w a hR hP hT hd hn
    simp only [aw] at h
    exact wpIn_label ⟨T, ρ, H, Ext.refl hR, rfl, hT, hd, h⟩
  | region id ops draw =>
    intro hro Q T H h ρ w a hR hP hT hd hn
    cases draw with
    | true =>
      simp only [aw] at h
      exact aPlan_wp hm h.1 h.2 hR hP hT hd
    | false =>
      simp only [aw] at h
      exact wpIn_region_list (aOps_wp (ops := ops) (Q := Q) hP ops.toList h (Ext.refl hR) rfl hT hd)
  | seq x y ihx ihy =>
    intro hro Q T H h ρ w a hR hP hT hd hn
    simp only [aw] at h
    have hro' : (ro = none ∨ plainC x = true) ∧ (ro = none ∨ plainC y = true) := by
      rcases hro with e | e
      · exact ⟨.inl e, .inl e⟩
      · simp only [plainC, Bool.and_eq_true] at e
        exact ⟨.inr e.1, .inr e.2⟩
    refine wpIn_seq (wpIn_mono (ihx hro'.1 h hR hP hT hd hn) ?_)
    intro e a' w' hq
    obtain ⟨T', ρ', H', h1, h0, h2, h3, h4⟩ := hq
    cases e with
    | normal => exact wpIn_mono (ihy hro'.2 h4 h1.rel (h0 ▸ hP.ext h1) h2 h3 (Nat.le_trans hn h1.size)) fun e a'' w'' hq => APost.trans h1 h0 hq
    | _ => exact ⟨T', ρ', H', h1, h0, h2, h3, h4⟩
  | cond c x y ihx ihy =>
    intro hro Q T H h ρ w a hR hP hT hd hn
    simp only [aw] at h
    have hro' : (ro = none ∨ plainC x = true) ∧ (ro = none ∨ plainC y = true) := by
      rcases hro with e | e
      · exact ⟨.inl e, .inl e⟩
      · simp only [plainC, Bool.and_eq_true] at e
        exact ⟨.inr e.1, .inr e.2⟩
    split at h
    · rename_i b hc
      have hb := (env_rel hT [c] c (by simp) _ hc).bool
      refine wpIn_cond hb ?_
      cases b with
      | true => simp only [if_true] at h ⊢; exact ihx hro'.1 h hR hP hT hd hn
      | false => simp only [Bool.false_eq_true, if_false] at h ⊢; exact ihy hro'.2 h hR hP hT hd hn
    · exact h.elim
  | block id c ih =>
    intro hro Q T H h ρ w a hR hP hT hd hn
    simp only [aw] at h
    refine wpIn_block (wpIn_mono (ih (hro.imp (fun e => e) fun e => by simpa [plainC] using e) h hR hP hT hd hn) ?_)
    rintro e a' w' ⟨T', ρ', H', h1, h0, h2, h3, h4⟩
    cases e with
    | exit id' =>
      simp only [Exit.inBlock]
      simp only at h4
      split
      · rename_i he; rw [if_pos he] at h4; exact ⟨T', ρ', H', h1, h0, h2, h3, h4⟩
      · rename_i he; rw [if_neg he] at h4; exact ⟨T', ρ', H', h1, h0, h2, h3, h4⟩
    | _ => exact ⟨T', ρ', H', h1, h0, h2, h3, h4⟩
  | loop c ih =>
    intro hro Q T H h ρ w a hR hP hT hd hn
    simp only [aw] at h
    obtain ⟨I, n, h0, hround⟩ := h
    refine wpIn_loop_ghost (fun n a' w' => ∃ T' ρ' H', Ext P ρ H w ρ' H' w' ∧ H'.gh = H.gh ∧ VRels ρ' T' a'.tmps.toList ∧ Marks n0 ρ' w' a'.defers ∧ I n T' H') n ⟨T, ρ, H, Ext.refl hR, rfl, hT, hd, h0⟩ ?_
    rintro n a' w' ⟨T', ρ', H', h1, hg, h2, h3, h4⟩
    refine wpIn_mono (ih (hro.imp (fun e => e) fun e => by simpa [plainC] using e) (hround n T' H' h4) h1.rel (hg ▸ hP.ext h1) h2 h3 (Nat.le_trans hn h1.size)) ?_
    rintro e a2 w2 ⟨T2, ρ2, H2, k1, k0, k2, k3, k4⟩
    cases e with
    | normal =>
      obtain ⟨k, hk, hI⟩ := k4
      exact ⟨k, hk, T2, ρ2, H2, h1.trans k1, k0.trans hg, k2, k3, hI⟩
    | _ => exact ⟨T2, ρ2, H2, h1.trans k1, k0.trans hg, k2, k3, k4⟩
  | exit id =>
    intro hro Q T H h ρ w a hR hP hT hd hn
    simp only [aw] at h
    exact wpIn_exit ⟨T, ρ, H, Ext.refl hR, rfl, hT, hd, h⟩
  | ret =>
    intro hro Q T H h ρ w a hR hP hT hd hn
    simp only [aw] at h
    exact wpIn_ret ⟨T, ρ, H, Ext.refl hR, rfl, hT, hd, h⟩
  | rangeFunc f ps asg body _ _ =>
    intro hro Q T H h ρ w a hR hP hT hd hn
    have hro : ro = none := by
      rcases hro with e | e
      · exact e
      · simp [plainC] at e
    subst hro
    simp only [aw] at h
    split at h
    rotate_left
    · exact h.elim
    rename_i g first cap hf
    have h1 := env_rel hT [f] f (by simp) _ hf
    obtain ⟨xs', ys', e1, e2, e3⟩ := h1.func
    refine wpIn_rangeFunc ?_
    intro fn _
    obtain ⟨r, hr⟩ : ∃ r : Loop, r = { state := .ready, pending := none, fn, tmps := a.tmps, params := ps, assign := asg, body, defers := w.heap.size } := ⟨_, rfl⟩
    obtain ⟨W1, hW1⟩ : ∃ W1, W1 = (w.alloc (.deferred (some []))).alloc (.loop r) := ⟨_, rfl⟩
    have hL1 : W1.heap[w.heap.size + 1]? = some (.loop r) := by
      have := World.alloc_heap_new (w.alloc (.deferred (some []))) (.loop r)
      rw [World.size_alloc] at this; rw [hW1]; exact this
    have hD1 : W1.heap[w.heap.size]? = some (.deferred (some [])) := by
      rw [hW1]; exact (RowKit.Below.heap_alloc _ _ _ (by simp)).trans (World.alloc_heap_new w _)
    have hold : ∀ i, i < w.heap.size → W1.heap[i]? = w.heap[i]? := fun i hi => by
      rw [hW1]; exact (RowKit.Below.heap_alloc _ _ _ (by simp; omega)).trans (RowKit.Below.heap_alloc w _ _ hi)
    have hsz : W1.heap.size = w.heap.size + 2 := by rw [hW1]; simp
    have hR1 : HRel P ρ H W1 := by rw [hW1]; exact (hR.alloc _).alloc _
    obtain ⟨hfst, h⟩ := h
    have hx' : xs' = #[] := by
      rw [hfst] at e2
      cases xs' with | mk l => cases l with
        | nil => rfl
        | cons => cases e2
    subst hx'
    have hnew : ∀ i, w.heap.size ≤ i → ∀ b L, ρ b = some L → L.own = true → L.blk ≠ i := fun i hi b L hb _ e => by have := hR.bnd b L hb; omega
    have hPl : ∀ p ∈ H.gh, p.l < w.heap.size := fun p hp => lt_of_heap (hP.2 p hp).1
    have hP1 : Pins ρ W1 (⟨w.heap.size + 1, r, T⟩ :: H.gh) := by
      refine ⟨List.nodup_cons.2 ⟨fun hm => ?_, hP.1⟩, fun p hp => ?_⟩
      · obtain ⟨p, hp, e⟩ := List.mem_map.1 hm
        have := hPl p hp
        have e : p.l = w.heap.size + 1 := e
        omega
      · rcases List.mem_cons.1 hp with rfl | hp
        · exact ⟨hL1, by rw [hr]; exact hT, hnew (w.heap.size + 1) (by omega)⟩
        · obtain ⟨q1, q2, q3⟩ := hP.2 p hp
          exact ⟨(hold _ (hPl p hp)).trans q1, q2, q3⟩
    obtain ⟨⟨gf, hgf, hname, hbody⟩, hc⟩ := h (w.heap.size + 1) r (by rw [hr]) (by rw [hr]) (by rw [hr]) (by rw [hr]) (by rw [hr])
    have hargs : VRels ρ (.func (.yield (w.heap.size + 1)) ⟨[]⟩ ⟨[]⟩ :: cap.toList) (#[Value.func (.yield (w.heap.size + 1)) #[] #[]] ++ ys').toList := by
      simp only [Array.toList_append, List.cons_append, List.nil_append]
      exact .cons (.fn .nil .nil) e3
    refine ⟨w.heap.size + 1, [{ target := .collected w.heap.size, args := #[] }], W1, { target := .fn (.func g) ys', args := #[.func (.yield (w.heap.size + 1)) #[] #[]] }, W1, g, #[Value.func (.yield (w.heap.size + 1)) #[] #[]] ++ ys', W1, ?_, ?_, fun _ _ => trivial, ?_, (fun h => by cases h), ?_⟩
    · rw [hW1, hr]; exact run_enterLoop_outer _ _ _ _ _
    · simp only [resolve, e1]
      simp [Deferred.ofValue]
      rfl
    · have n1 : ¬ gf.name = "runtime.NumGoroutine" := by simpa using hname
      have n2 : ¬ gf.body = none := by intro e; rw [e] at hbody; cases hbody
      simp [invoke, callFunc, hgf, n1, n2]
    · refine CallsIn.mono (callsIn_wide.2 (hc ρ W1 _ (hR1.wg _) hP1 hargs)) ?_
      rintro e w3 ⟨v, v', ρ', H', rfl, hE, hg, hv, hk⟩
      have hP3 := hP1.ext hE
      have hL3 : w3.heap[w.heap.size + 1]? = some (.loop r) := (hP3.2 _ (List.mem_cons_self ..)).1
      have hfr : ∀ i, i < w.heap.size → (∀ b L, ρ b = some L → L.own = true → L.blk ≠ i) → w3.heap[i]? = w.heap[i]? := fun i hi ho => (hE.frame i (by omega) ho).trans (hold i hi)
      have hs3 : r.state ≠ .busy := by rw [hr]; simp
      have hend := run_endLoop (P := P) hL3 hs3
      have hown : ∀ b L, ρ' b = some L → L.own = true → (∃ b0 L0, ρ b0 = some L0 ∧ L0.own = true ∧ L0.blk = L.blk) ∨ w.heap.size ≤ L.blk := fun b L k1 k2 => (hE.own b L k1 k2).imp (fun h => h) fun h => by omega
      refine ⟨_, _, hend, ?_⟩
      have hpd : r.pending = none := by rw [hr]
      rw [hpd]
      refine ⟨T, ρ', H'.wg H.gh, ⟨hE.le, hE.phant, hE.next, by rw [World.putObj_size]; exact Nat.le_trans (by omega) hE.size, hown, fun i hi ho => (World.putObj_heap_other (by omega)).trans (hfr i hi ho), hE.os.trans (by rw [hW1]; rfl), hE.output.trans (by rw [hW1]; rfl), hE.tape.trans (by rw [hW1]; rfl), (hE.rel.putObj hL3 (fun _ _ _ h => by cases h) (fun _ _ h => by cases h) _).wg _, fun b L k1 => (hE.blks b L k1).imp (fun h => h) fun h => by omega⟩, rfl, hT.mono hE.le, ?_, hk⟩
      obtain ⟨Ds, m1, m2, m3⟩ := hd
      have hDs : ∀ D ∈ Ds, D < w.heap.size := fun D hD => lt_of_heap (m3 D hD).2.1
      refine ⟨w.heap.size :: Ds, by rw [List.map_cons, ← m1]; rfl, List.nodup_cons.2 ⟨fun hm => by have := hDs _ hm; omega, m2⟩, fun D hD => ?_⟩
      have hno : ∀ D, D < w.heap.size + 2 → (∀ b L, ρ b = some L → L.own = true → L.blk ≠ D) → ∀ b L, ρ' b = some L → L.own = true → L.blk ≠ D := fun D hD hq b L k1 k2 e => by
        rcases hE.own b L k1 k2 with ⟨b0, L0, q1, q2, q3⟩ | q
        · exact hq b0 L0 q1 q2 (q3.trans e)
        · omega
      rcases List.mem_cons.1 hD with rfl | hD
      · exact ⟨hn, (World.putObj_heap_other (by omega)).trans ((hE.frame _ (by omega) (hnew _ (Nat.le_refl _))).trans hD1), hno _ (by omega) (hnew _ (Nat.le_refl _))⟩
      · obtain ⟨q1, q2, q3⟩ := m3 D hD
        have := hDs D hD
        exact ⟨q1, (World.putObj_heap_other (by omega)).trans ((hfr D this q3).trans q2), hno D (by omega) q3⟩
  | _ =>
    intro hro Q T H h
    simp only [aw] at h

/-! ### rounds -/
/-- The loop's variables are set. -/
def putTs : Tm → List Tmp → List Value → Tm
  | T, p :: ps, v :: vs => putTs (T.set p v) ps vs
  | T, _, _ => T
theorem putTs_rel {ρ : Ren} : ∀ {ps : List Tmp} {vs vs' : List Value}, VRels ρ vs vs' → ∀ {T : Tm} {cs : Array Value}, VRels ρ T cs.toList → VRels ρ (putTs T ps vs) (((ps.zip vs').foldl (fun t (p : Tmp × Value) => t.setIfInBounds p.1 p.2) cs).toList)
  | [], _, _, _, T, cs, h => by simpa [putTs] using h
  | _ :: _, _, _, .nil, T, cs, h => by simpa [putTs] using h
  | p :: ps, _, _, .cons hv hs, T, cs, h => by
    simp only [putTs, List.zip_cons_cons, List.foldl_cons]
    exact putTs_rel hs (by rw [Array.toList_setIfInBounds]; exact h.set p hv)
theorem Ext.notown {P : Program} {ρ ρ' : Ren} {H H' : Heap} {w w' : World} (hE : Ext P ρ H w ρ' H' w') {i : Nat} (hi : i < w.heap.size) (hn : ∀ b L, ρ b = some L → L.own = true → L.blk ≠ i) : ∀ b L, ρ' b = some L → L.own = true → L.blk ≠ i := fun b L k1 k2 e => by
  rcases hE.own b L k1 k2 with ⟨b0, L0, q1, q2, q3⟩ | q
  · exact hn b0 L0 q1 q2 (q3.trans e)
  · omega
theorem Pins.putObj {ρ : Ren} {w : World} {gs : List Pin} (h : Pins ρ w gs) {l : Nat} (hl : ∀ p ∈ gs, p.l ≠ l) (o : Obj) : Pins ρ (w.putObj l o) gs :=
  ⟨h.1, fun p hp => by
    obtain ⟨h1, h2, h3⟩ := h.2 p hp
    exact ⟨(World.putObj_heap_other (hl p hp)).trans h1, h2, h3⟩⟩
/-- A round, out of the loop's body. -/
theorem AYields.of_body {P : Program} (hm : P.follows .mixedOrders = true) {H : Heap} {p : Pin} {gs : List Pin} (hg : H.gh = p :: gs) (hst : p.r.state = .ready) (hpd : p.r.pending = none) {args : List Value} (hs : args.length = p.r.params.size) (hp1 : plainC p.r.assign = true) (hp2 : plainC p.r.body = true) {K : Value → Heap → Prop}
    (h : aw P p.r.assign (fun e T1 H1 => e = .normal ∧ aw P p.r.body (fun e T2 H2 => e = .normal ∧ K (.bool true) (H2.wg (p :: gs))) T1 H1) (putTs p.T p.r.params.toList args) (H.wg gs)) : AYields P p.l args H K := by
  intro ρ w cargs hR hP ha
  rw [hg] at hP
  obtain ⟨hL, hT, hno⟩ := hP.2 p (List.mem_cons_self ..)
  have hlt := lt_of_heap hL
  have hnd := List.nodup_cons.1 (show ((p :: gs).map (·.l)).Nodup from hP.1)
  have hne : ∀ q ∈ gs, q.l ≠ p.l := fun q hq e => hnd.1 (List.mem_map.2 ⟨q, hq, e⟩)
  have hPg : Pins ρ w gs := ⟨hnd.2, fun q hq => hP.2 q (List.mem_cons_of_mem _ hq)⟩
  have hsz : cargs.size = p.r.params.size := by have := ha.length; rw [← hs, this]; simp
  refine ⟨_, _, _, _, run_yield hL hsz, roundIn_of_wpIn trivial ?_⟩
  have hT0 : VRels ρ (putTs p.T p.r.params.toList args) (((p.r.params.zip cargs).foldl (fun t (q : Tmp × Value) => t.setIfInBounds q.1 q.2) p.r.tmps).toList) := by
    have := putTs_rel (ps := p.r.params.toList) ha hT
    rw [← Array.foldl_toList, Array.toList_zip]
    exact this
  refine wpIn_mono (aw_wp hm (n0 := 0) (ro := some p.l) p.r.assign (.inr hp1) h (hR.wg gs) hPg hT0 Marks.nil (Nat.zero_le _)) ?_
  rintro e a1 w1 ⟨T1, ρ1, H1, hE1, hg1, hT1, hM1, rfl, hb⟩
  have hL1 : w1.heap[p.l]? = some (.loop p.r) := (hE1.frame _ hlt hno).trans hL
  have hlt1 := lt_of_heap hL1
  have hno1 := hE1.notown hlt hno
  obtain ⟨w2, hw2⟩ : ∃ w2, w2 = w1.putObj p.l (.loop { p.r with state := .busy }) := ⟨_, rfl⟩
  refine ⟨w2, by rw [hw2]; exact run_beginRound hL1 hst, ?_⟩
  have hR2 : HRel P ρ1 H1 w2 := by rw [hw2]; exact hE1.rel.putObj hL1 (fun _ _ _ h => by cases h) (fun _ _ h => by cases h) _
  have hP2 : Pins ρ1 w2 H1.gh := by rw [hw2, hg1]; exact (hPg.ext hE1).putObj hne _
  have hL2 : w2.heap[p.l]? = some (.loop { p.r with state := .busy }) := by rw [hw2]; exact World.putObj_heap_same hlt1
  have hlt2 := lt_of_heap hL2
  have hsz2 : w2.heap.size = w1.heap.size := by rw [hw2, World.putObj_size]
  refine wpIn_mono (aw_wp hm (n0 := 0) (ro := some p.l) p.r.body (.inr hp2) hb hR2 hP2 hT1 (by
    obtain ⟨Ds, m1, m2, m3⟩ := hM1
    refine ⟨Ds, m1, m2, fun D hD => ?_⟩
    obtain ⟨q0, q1, q2⟩ := m3 D hD
    exact ⟨q0, by rw [hw2]; exact (World.putObj_heap_other (fun e => by rw [e, hL1] at q1; cases q1)).trans q1, q2⟩) (Nat.zero_le _)) ?_
  rintro e a3 w3 ⟨T3, ρ3, H3, hE3, hg3, hT3, hM3, rfl, hk⟩
  have hL3 : w3.heap[p.l]? = some (.loop { p.r with state := .busy }) := (hE3.frame _ hlt2 hno1).trans hL2
  have hlt3 := lt_of_heap hL3
  have hrec : ({ p.r with state := .ready, pending := none } : Loop) = p.r := by rw [← hst, ← hpd]
  have hend := run_endRound (P := P) none hL3
  simp only [Option.isNone_none, if_true] at hend
  refine ⟨_, _, hend, ?_⟩
  have hfin : (w3.putObj p.l (.loop { { p.r with state := LoopState.busy } with state := .ready, pending := none })).heap[p.l]? = w.heap[p.l]? := by
    rw [World.putObj_heap_same hlt3, hL]
    exact congrArg (fun r => some (Obj.loop r)) hrec
  refine ⟨.bool true, .bool true, ρ3, H3.wg (p :: gs), rfl, ⟨hE1.le.trans hE3.le, ?_, Nat.le_trans hE1.next hE3.next, ?_, ?_, ?_, ?_, ?_, ?_, ?_, ?_⟩, hg.symm, .ground rfl, hk⟩
  · intro b hb hn
    obtain ⟨q1, q2⟩ := hE1.phant b hb hn
    obtain ⟨q3, q4⟩ := hE3.phant b (Nat.lt_of_lt_of_le hb hE1.next) q1
    exact ⟨q3, q4.trans q2⟩
  · rw [World.putObj_size]
    exact Nat.le_trans hE1.size (Nat.le_trans (by omega) hE3.size)
  · intro b L k1 k2
    rcases hE3.own b L k1 k2 with ⟨b0, L0, q1, q2, q3⟩ | q
    · rcases hE1.own b0 L0 q1 q2 with ⟨b1, L1, r1, r2, r3⟩ | r
      · exact .inl ⟨b1, L1, r1, r2, r3.trans q3⟩
      · exact .inr (by omega)
    · have := hE1.size
      exact .inr (by omega)
  · intro i hi ho
    by_cases e : i = p.l
    · subst e; exact hfin
    · rw [World.putObj_heap_other e]
      have h1 : w1.heap[i]? = w.heap[i]? := hE1.frame i hi ho
      have h2 : w2.heap[i]? = w1.heap[i]? := by rw [hw2]; exact World.putObj_heap_other e
      exact (hE3.frame i (by have := hE1.size; omega) (hE1.notown hi ho)).trans (h2.trans h1)
  · exact hE3.os.trans ((by rw [hw2]; rfl : w2.os = w1.os).trans hE1.os)
  · exact hE3.output.trans ((by rw [hw2]; rfl : w2.output = w1.output).trans hE1.output)
  · exact hE3.tape.trans ((by rw [hw2]; rfl : w2.tape = w1.tape).trans hE1.tape)
  · exact (hE3.rel.putObj hL3 (fun _ _ _ h => by cases h) (fun _ _ h => by cases h) _).wg _
  · intro b L k1
    rcases hE3.blks b L k1 with ⟨b0, L0, q1, q3⟩ | q
    · rcases hE1.blks b0 L0 q1 with ⟨b1, L1, r1, r3⟩ | r
      · exact .inl ⟨b1, L1, r1, r3.trans q3⟩
      · exact .inr (by omega)
    · have := hE1.size
      exact .inr (by omega)

/-! ### a function -/
def aRes (P : Program) (T : Tm) (H : Heap) : ResultVar → Option Value
  | .tmp t => T[t]?
  | .cell a t => (T[a]?).bind fun x => aLoad P H t x

def aResults (P : Program) (fn : Func) (T : Tm) (H : Heap) : Option Value :=
  match fn.results.toList.mapM (aRes P T H) with
  | some [v] => some v
  | some vs => some (.tuple ⟨vs⟩)
  | none => none

def bodyQ (P : Program) (fn : Func) (K : Value → Heap → Prop) : Exit → Tm → Heap → Prop
  | .normal, T, H | .ret, T, H => ob (aResults P fn T H) fun v => K v H
  | _, _, _ => False

def resOf (tmps : Array Value) (r : ResultVar) : Sem Value :=
  match r with
  | .tmp t => pure (tmps.getD t undef)
  | .cell a t => do loadVar t (← asAddr (tmps.getD a undef))

theorem aRes_run {P : Program} {ρ : Ren} {T : Tm} {H : Heap} {w : World} {tmps : Array Value} (hR : HRel P ρ H w) (hT : VRels ρ T tmps.toList) : ∀ (rs : List ResultVar) {vs : List Value}, rs.mapM (aRes P T H) = some vs →
    ∃ vs', (rs.mapM (resOf tmps)).run P w = .ok vs' w ∧ VRels ρ vs vs'
  | [], vs, h => by
    simp at h; subst h
    exact ⟨[], rfl, .nil⟩
  | r :: rs, vs, h => by
    simp only [List.mapM_cons, Option.bind_eq_bind, Option.pure_def] at h
    cases hr : aRes P T H r with
    | none => simp [hr] at h
    | some v =>
      cases hrs : rs.mapM (aRes P T H) with
      | none => simp [hr, hrs] at h
      | some us =>
        simp [hr, hrs] at h
        subst h
        obtain ⟨us', h1, h2⟩ := aRes_run hR hT rs hrs
        have hget : ∀ (t : Nat) (v : Value), T[t]? = some v → ∃ v', tmps.getD t undef = v' ∧ VRel ρ v v' := by
          intro t v hv
          obtain ⟨v', k1, k2⟩ := hT.get t v hv
          exact ⟨v', by rw [Array.getD_eq_getD_getElem?, ← Array.getElem?_toList, k1]; rfl, k2⟩
        cases r with
        | tmp t =>
          obtain ⟨v', k1, k2⟩ := hget t v hr
          refine ⟨v' :: us', ?_, .cons k2 h2⟩
          simp only [List.mapM_cons, resOf, Sem.run_bind, Sem.run_pure, Result.andThen_ok, h1, k1]
        | cell b t =>
          simp only [aRes] at hr
          cases hb : T[b]? with
          | none => rw [hb] at hr; cases hr
          | some x =>
            rw [hb] at hr
            obtain ⟨x', k1, k2⟩ := hget b x hb
            obtain ⟨v', q1, q2⟩ := aLoad_run hR hr k2
            have hx : ∃ ad, x' = .pointer (some ad) := by
              unfold aLoad at hr
              simp only [Option.bind_some] at hr
              split at hr
              · obtain ⟨_, _, _, _, _, e⟩ := k2.psome; exact ⟨_, e⟩
              · split at hr
                · rename_i hf
                  subst hf
                  obtain ⟨_, _, _, _, _, _, _, _, e⟩ := k2.frozenPtr
                  exact ⟨_, e⟩
                · cases hr
              · cases hr
            obtain ⟨ad, rfl⟩ := hx
            refine ⟨v' :: us', ?_, .cons q2 h2⟩
            simp only [Instr.loadAt, Instr.sureAddr, Sem.run_bind, Sem.run_pure, Result.andThen_ok] at q1
            simp only [List.mapM_cons, resOf, Sem.run_bind, Sem.run_pure, Result.andThen_ok, h1, k1, asAddr, q1]

theorem aResults_run {P : Program} {ρ : Ren} {T : Tm} {H : Heap} {w : World} {tmps : Array Value} (hR : HRel P ρ H w) (hT : VRels ρ T tmps.toList) {fn : Func} {v : Value} (h : aResults P fn T H = some v) :
    ∃ v', (results fn tmps).run P w = .ok v' w ∧ VRel ρ v v' := by
  unfold aResults at h
  cases hm : fn.results.toList.mapM (aRes P T H) with
  | none => rw [hm] at h; cases h
  | some vs =>
    rw [hm] at h
    obtain ⟨vs', h1, h2⟩ := aRes_run hR hT fn.results.toList hm
    have hrun : (results fn tmps).run P w = .ok (if h : (⟨vs'⟩ : Array Value).size = 1 then (⟨vs'⟩ : Array Value)[0] else .tuple ⟨vs'⟩) w := by
      unfold results
      rw [Sem.run_bind, Array.mapM_eq_mapM_toList, Sem.run_map]
      have : ∀ x : Result (List Value), x = .ok vs' w → ((x.andThen fun a w' => .ok (List.toArray a) w').andThen fun vs w => (pure (if h : vs.size = 1 then vs[0] else .tuple vs) : Sem Value).run P w) = .ok (if h : (⟨vs'⟩ : Array Value).size = 1 then (⟨vs'⟩ : Array Value)[0] else .tuple ⟨vs'⟩) w := by
        rintro x rfl; rfl
      exact this _ h1
    refine ⟨_, hrun, ?_⟩
    cases h2 with
    | nil => simp only [Option.some.injEq] at h; subst h; exact .tuple .nil
    | cons q1 q2 =>
      cases q2 with
      | nil => simp only [Option.some.injEq] at h; subst h; simpa using q1
      | cons q3 q4 =>
        simp only [Option.some.injEq] at h; subst h
        rw [dif_neg (by simp)]
        exact .tuple (.cons q1 (.cons q3 q4))

/-- The marks are come to, and shut. -/
theorem marks_leave {P : Program} {fn : Func} {tmps : Array Value} {R : Ending → World → Prop} {n0 : Nat} : ∀ (Ds : List Nat) {w : World}, Ds.Nodup → (∀ D ∈ Ds, n0 ≤ D ∧ w.heap[D]? = some (.deferred (some []))) →
    (∀ w', w'.heap.size = w.heap.size → w'.os = w.os → w'.output = w.output → w'.tape = w.tape → (∀ i, i ∉ Ds → w'.heap[i]? = w.heap[i]?) → (∀ i o, i ∈ Ds → w'.heap[i]? = some o → ∃ q, o = .deferred q) → LeavesIn Fence.wide 0 P fn tmps R [] .returning w') →
    LeavesInM Fence.wide 0 P fn tmps R (Ds.map fun D => { target := .collected D, args := #[] }) .returning w
  | [], w, _, _, h => h w rfl rfl rfl rfl (fun _ _ => rfl) (fun i o hi => by cases hi)
  | D :: Ds, w, hn, hD, h => by
    obtain ⟨h0, h1⟩ := hD D (by simp)
    have hlt := lt_of_heap h1
    have hn' := List.nodup_cons.1 hn
    refine ⟨by simp, .inl ⟨D, _, rfl, run_takeDeferred h1, ?_⟩⟩
    refine marks_leave (n0 := n0) Ds hn'.2 (fun E hE => ?_) fun w' k1 k2 k3 k4 k5 k6 => h w' (by rw [k1, World.putObj_size]) k2 k3 k4 (fun i hi => ?_) (fun i o hi ho => ?_)
    · obtain ⟨q0, q1⟩ := hD E (by simp [hE])
      exact ⟨q0, (World.putObj_heap_other (fun e => hn'.1 (by rw [← e]; exact hE))).trans q1⟩
    · simp only [List.mem_cons, not_or] at hi
      exact (k5 i hi.2).trans (World.putObj_heap_other hi.1)
    · by_cases hi2 : i ∈ Ds
      · exact k6 i o hi2 ho
      · rw [k5 i hi2] at ho
        rcases List.mem_cons.1 hi with rfl | hi
        · rw [World.putObj_heap_same hlt] at ho
          injection ho with ho
          exact ⟨_, ho.symm⟩
        · exact absurd hi hi2

/-- A call is what its body comes to. -/
theorem ACalls.of_body {P : Program} (hm : P.follows .mixedOrders = true) {g : FuncId} {fn : Func} {c : Code} (hf : P.funcs[g]? = some fn) (hb : fn.body = some c) (hname : (fn.name == "runtime.NumGoroutine") = false)
    {args : List Value} {H : Heap} {K : Value → Heap → Prop} (h : aw P c (bodyQ P fn K) (args ++ List.replicate (fn.ntmps - args.length) undef) H) : ACalls P g args H K := by
  refine ⟨⟨fn, hf, hname, by rw [hb]; rfl⟩, fun ρ w cargs hR hP ha => ?_⟩
  refine (callsIn_wide (n := 0)).1 (callsIn_of_wp_marks hf hb trivial ?_ rfl)
  have hlen := ha.length
  refine wpIn_mono (aw_wp hm (ro := none) (n0 := w.heap.size) c (.inl rfl) h (a := { tmps := cargs ++ Array.replicate (fn.ntmps - cargs.size) undef, defers := [] }) hR hP ?_ Marks.nil (Nat.le_refl _)) ?_
  · simp only [Array.toList_append, Array.toList_replicate]
    refine ha.append ?_
    rw [show cargs.size = args.length by rw [hlen]; simp]
    exact VRels.replicate (.tuple .nil) _
  · rintro e a' w' ⟨T', ρ', H', h1, h0, h2, h3, h4⟩
    have key : ob (aResults P fn T' H') (fun v => K v H') → LeavesInM Fence.wide 0 P fn a'.tmps (CPost P ρ H w K) a'.defers .returning w' := by
      intro h4
      rw [ob_iff] at h4
      obtain ⟨v, hv, hk⟩ := h4
      obtain ⟨Ds, e1, e2, e3⟩ := h3
      rw [e1]
      refine marks_leave (n0 := w.heap.size) Ds e2 (fun D hD => ⟨(e3 D hD).1, (e3 D hD).2.1⟩) fun w2 k1 k2 k3 k4 k5 k6 => ?_
      have hne : ∀ i, i ∈ Ds → w'.heap[i]? = some (.deferred (some [])) := fun i hi => (e3 i hi).2.1
      have hR2 : HRel P ρ' H' w2 := by
        have hr := h1.rel
        refine ⟨hr.dom, ?_, ?_, hr.free, hr.void, hr.inj, ?_, hr.frinj, fun b L hb => by rw [k1]; exact hr.bnd b L hb⟩
        · intro b L own el cells hb hg
          obtain ⟨cs, fr, q1, q2⟩ := hr.rows b L own el cells hb hg
          exact ⟨cs, fr, (k5 _ (fun e => by rw [hne _ e] at q1; cases q1)).trans q1, q2⟩
        · intro b L es cl hb hg
          obtain ⟨es', q1, q2⟩ := hr.maps b L es cl hb hg
          exact ⟨es', (k5 _ (fun e => by rw [hne _ e] at q1; cases q1)).trans q1, q2⟩
        · intro b L cs hb hcs
          obtain ⟨q1, el, fr, q2⟩ := hr.frz b L cs hb hcs
          exact ⟨q1, el, fr, (k5 _ (fun e => by rw [hne _ e] at q2; cases q2)).trans q2⟩
      obtain ⟨v', q1, q2⟩ := aResults_run hR2 h2 hv
      have hE : Ext P ρ H w ρ' H' w2 := ⟨h1.le, h1.phant, h1.next, by rw [k1]; exact h1.size, h1.own, fun i hi ho => (k5 i (fun hm => by have := (e3 i hm).1; omega)).trans (h1.frame i hi ho), k2.trans h1.os, k3.trans h1.output, k4.trans h1.tape, hR2, h1.blks⟩
      exact ⟨v', q1, v, v', ρ', H', rfl, hE, h0, q2, hk⟩
    cases e with
    | normal => exact key h4
    | ret => exact key h4
    | _ => exact h4.elim

end Go.Abs

/- An evaluator: closed calls are reckoned. -/
namespace Go.Abs
open Go

def feq : Value → Value → Bool
  | .bool a, .bool b => a == b
  | .int k a, .int l b => k == l && a == b
  | .string a, .string b => a.data.toList == b.data.toList
  | .pointer (some ⟨a, o, none⟩), .pointer (some ⟨b, p, none⟩) => a == b && o == p
  | .pointer none, .pointer none => true
  | .slice (some ⟨a, o, none⟩) n c, .slice (some ⟨b, p, none⟩) m d => a == b && o == p && n == m && c == d
  | .slice none n c, .slice none m d => n == m && c == d
  | .nilFunc, .nilFunc => true
  | .nilIface, .nilIface => true
  | .map none, .map none => true
  | .map (some a), .map (some b) => a == b
  | _, _ => false

theorem feq_eq {a b : Value} (h : feq a b = true) : a = b := by
  unfold feq at h
  split at h <;> simp_all
  rename_i x y
  obtain ⟨⟨l⟩⟩ := x
  obtain ⟨⟨l'⟩⟩ := y
  simp at h
  rw [h]

def feqs : List Value → List Value → Bool
  | [], [] => true
  | a :: as, b :: bs => feq a b && feqs as bs
  | _, _ => false

theorem feqs_eq : ∀ {as bs : List Value}, feqs as bs = true → as = bs
  | [], [], _ => rfl
  | [], _ :: _, h => by cases h
  | _ :: _, [], h => by cases h
  | a :: as, b :: bs, h => by
    simp only [feqs, Bool.and_eq_true] at h
    rw [feq_eq h.1, feqs_eq h.2]

def veq : Value → Value → Bool
  | .agg a, .agg b => feqs a.toList b.toList
  | a, b => feq a b

theorem veq_eq {a b : Value} (h : veq a b = true) : a = b := by
  unfold veq at h
  split at h
  · rename_i x y
    obtain ⟨l⟩ := x; obtain ⟨l'⟩ := y
    rw [show l = l' from feqs_eq h]
  · exact feq_eq h

abbrev CallFn := FuncId → List Value → Heap → Option (Value × Heap)

def xstep (P : Program) (call : CallFn) (e : Env) (H : Heap) (o : Oper) : Option (Value × Heap) :=
  match kindOf P o.op with
  | .pure => match aPure P e o with
    | some v => some (v, H)
    | none => none
  | .read => match aRead P e H o with
    | some v => some (v, H)
    | none => none
  | .new => match aNew P e o.op with
    | some (el, cells, f) => some (f H.next, H.push (.row true el cells))
    | none => none
  | .eff =>
    match o.op with
    | .call { callee := .value f, args, .. } =>
      match e f, evs e args.toList with
      | some (.func (.func g) first cap), some vs => call g (first.toList ++ vs ++ cap.toList) H
      | _, _ => none
    | _ => aEff P e H o

def xops (P : Program) (ops : Array Oper) (call : CallFn) : List Oper → Tm → Heap → Option (Tm × Heap)
  | [], T, H => some (T, H)
  | o :: os, T, H =>
    match aWanted ops o T with
    | some true => match xstep P call (env T) H o with
      | some (v, H') => xops P ops call os (aPut T o.dst v) H'
      | none => none
    | some false => xops P ops call os (aPut T o.dst undef) H
    | none => none

def xseg (P : Program) (ops : Array Oper) (call : CallFn) : List Nat → Tm → Heap → Option (Tm × Heap)
  | [], T, H => some (T, H)
  | i :: s, T, H =>
    match ops[i]? with
    | none => none
    | some o =>
      match aWanted ops o T with
      | some true => match xstep P call (env T) H o with
        | some (v, H') => xseg P ops call s (aPut T o.dst v) H'
        | none => none
      | some false => xseg P ops call s (aPut T o.dst undef) H
      | none => none

def xchk (P : Program) (ops : Array Oper) (T : Tm) (H : Heap) (i : Nat) : Bool :=
  match ops[i]? with
  | none => false
  | some o =>
    match aWanted ops o T with
    | some true => match aRead P (env T) H o, o.dst with
      | some v, some d => match T[d]? with
        | some u => veq v u
        | none => false
      | _, _ => false
    | some false => true
    | none => false

def xrest (P : Program) (ops : Array Oper) (call : CallFn) : List (Nat × List Nat × List Nat) → Tm → Heap → Option (Tm × Heap)
  | [], T, H => some (T, H)
  | (E, chks, s) :: r, T, H =>
    match xseg P ops call [E] T H with
    | some (T1, H1) => if chks.all (xchk P ops T1 H1) then match xseg P ops call s T1 H1 with
        | some (T2, H2) => xrest P ops call r T2 H2
        | none => none
      else none
    | none => none

def xplan (P : Program) (ops : Array Oper) (call : CallFn) (p : Plan) (T : Tm) (H : Heap) : Option (Tm × Heap) :=
  match xseg P ops call p.first T H with
  | some (T1, H1) => xrest P ops call p.rest T1 H1
  | none => none

def xbody (P : Program) (fn : Func) : Option (Exit × Tm × Heap) → Option (Value × Heap)
  | some (.normal, T, H) | some (.ret, T, H) => match aResults P fn T H with
    | some v => some (v, H)
    | none => none
  | _ => none

def xcode (P : Program) : Nat → Code → Tm → Heap → Option (Exit × Tm × Heap)
  | 0, _, _, _ => none
  | n + 1, c, T, H =>
    let call : CallFn := fun g args H =>
      match P.funcs[g]? with
      | some fn => match fn.body with
        | some b => if fn.name == "runtime.NumGoroutine" then none else xbody P fn (xcode P n b (args ++ List.replicate (fn.ntmps - args.length) undef) H)
        | none => none
      | none => none
    match c with
    | .skip | .label _ => some (.normal, T, H)
    | .region _ ops true => if planOk P ops (mkPlan P ops) then match xplan P ops call (mkPlan P ops) T H with
        | some (T', H') => some (.normal, T', H')
        | none => none
      else none
    | .region _ ops false => match xops P ops call ops.toList T H with
      | some (T', H') => some (.normal, T', H')
      | none => none
    | .seq x y => match xcode P n x T H with
      | some (.normal, T', H') => xcode P n y T' H'
      | r => r
    | .cond q x y => match env T q with
      | some (.bool true) => xcode P n x T H
      | some (.bool false) => xcode P n y T H
      | _ => none
    | .block id b => match xcode P n b T H with
      | some (.exit id', T', H') => if id' = id then some (.normal, T', H') else some (.exit id', T', H')
      | r => r
    | .loop b => match xcode P n b T H with
      | some (.normal, T', H') => xcode P n (.loop b) T' H'
      | r => r
    | .exit id => some (.exit id, T, H)
    | .ret => some (.ret, T, H)
    | _ => none

def xcall (P : Program) (n : Nat) : CallFn := fun g args H =>
  match P.funcs[g]? with
  | some fn => match fn.body with
    | some b => if fn.name == "runtime.NumGoroutine" then none else xbody P fn (xcode P n b (args ++ List.replicate (fn.ntmps - args.length) undef) H)
    | none => none
  | none => none

/-- A reckoned call serves as a call. -/
def Serves (P : Program) (call : CallFn) : Prop := ∀ g args H v H', call g args H = some (v, H') → ∀ K : Value → Heap → Prop, K v H' → ACalls P g args H K

theorem xstep_a {P : Program} {call : CallFn} (hc : Serves P call) {e : Env} {H H' : Heap} {o : Oper} {v : Value} (h : xstep P call e H o = some (v, H')) {K : Value → Heap → Prop} (hk : K v H') : aStep P e H o K := by
  unfold xstep at h
  unfold aStep
  cases hkd : kindOf P o.op with
  | pure =>
    simp only [hkd] at h ⊢
    cases hu : aPure P e o with
    | none => rw [hu] at h; cases h
    | some u => rw [hu] at h; simp only [Option.some.injEq, Prod.mk.injEq] at h; obtain ⟨rfl, rfl⟩ := h; exact hk
  | read =>
    simp only [hkd] at h ⊢
    cases hu : aRead P e H o with
    | none => rw [hu] at h; cases h
    | some u => rw [hu] at h; simp only [Option.some.injEq, Prod.mk.injEq] at h; obtain ⟨rfl, rfl⟩ := h; exact hk
  | new =>
    simp only [hkd] at h ⊢
    cases hu : aNew P e o.op with
    | none => rw [hu] at h; cases h
    | some u => obtain ⟨el, cells, f⟩ := u; rw [hu] at h; simp only [Option.some.injEq, Prod.mk.injEq] at h; obtain ⟨rfl, rfl⟩ := h; exact hk
  | eff =>
    simp only [hkd] at h ⊢
    split
    · rename_i f args ats ho
      simp only [ho] at h
      split at h
      · rename_i g first cap vs hf hv
        simp only [hf, hv]
        exact hc _ _ _ _ _ h K hk
      · cases h
    · rename_i hne
      have : aEff P e H o = some (v, H') := by
        split at h
        · rename_i f args ats ho; exact absurd ho (hne _ _ _)
        · exact h
      rw [this]; exact hk

theorem xops_a {P : Program} {ops : Array Oper} {call : CallFn} (hc : Serves P call) {K : Tm → Heap → Prop} : ∀ (os : List Oper) {T T' : Tm} {H H' : Heap}, xops P ops call os T H = some (T', H') → K T' H' → aOps P ops K os T H
  | [], T, T', H, H', h, hk => by
    simp only [xops, Option.some.injEq, Prod.mk.injEq] at h; obtain ⟨rfl, rfl⟩ := h; exact hk
  | o :: os, T, T', H, H', h, hk => by
    simp only [xops] at h
    simp only [aOps]
    cases hw : aWanted ops o T with
    | none => simp only [hw] at h; cases h
    | some b =>
      cases b with
      | false => simp only [hw] at h ⊢; exact xops_a hc os h hk
      | true =>
        simp only [hw] at h ⊢
        cases hs : xstep P call (env T) H o with
        | none => simp only [hs] at h; cases h
        | some r => obtain ⟨v, H1⟩ := r; simp only [hs] at h; exact xstep_a hc hs (xops_a hc os h hk)

theorem xseg_a {P : Program} {ops : Array Oper} {call : CallFn} (hc : Serves P call) {K : Tm → Heap → Prop} : ∀ (s : List Nat) {T T' : Tm} {H H' : Heap}, xseg P ops call s T H = some (T', H') → K T' H' → aSeg P ops K s T H
  | [], T, T', H, H', h, hk => by
    simp only [xseg, Option.some.injEq, Prod.mk.injEq] at h; obtain ⟨rfl, rfl⟩ := h; exact hk
  | i :: s, T, T', H, H', h, hk => by
    simp only [xseg] at h
    simp only [aSeg]
    cases ho : ops[i]? with
    | none => simp only [ho] at h; cases h
    | some o =>
      simp only [ho] at h ⊢
      cases hw : aWanted ops o T with
      | none => simp only [hw] at h; cases h
      | some b =>
        cases b with
        | false => simp only [hw] at h ⊢; exact xseg_a hc s h hk
        | true =>
          simp only [hw] at h ⊢
          cases hs : xstep P call (env T) H o with
          | none => simp only [hs] at h; cases h
          | some r => obtain ⟨v, H1⟩ := r; simp only [hs] at h; exact xstep_a hc hs (xseg_a hc s h hk)

theorem xchk_a {P : Program} {ops : Array Oper} {T : Tm} {H : Heap} {i : Nat} (h : xchk P ops T H i = true) : aChk P ops T H i := by
  unfold xchk at h
  unfold aChk
  cases ho : ops[i]? with
  | none => simp only [ho] at h; cases h
  | some o =>
    simp only [ho] at h ⊢
    cases hw : aWanted ops o T with
    | none => simp only [hw] at h; cases h
    | some b =>
      cases b with
      | false => simp only
      | true =>
        simp only [hw] at h ⊢
        cases hr : aRead P (env T) H o with
        | none => simp only [hr] at h; cases h
        | some v =>
          cases hd : o.dst with
          | none => simp only [hr, hd] at h; cases h
          | some d =>
            cases hu : T[d]? with
            | none => simp only [hr, hd, hu] at h; cases h
            | some u =>
              simp only [hr, hd, hu] at h
              refine ⟨v, rfl, fun d' hd' _ => ?_⟩
              injection hd' with hd'; subst hd'
              rw [hu, veq_eq h]

theorem xrest_a {P : Program} {ops : Array Oper} {call : CallFn} (hc : Serves P call) {K : Tm → Heap → Prop} : ∀ (r : List (Nat × List Nat × List Nat)) {T T' : Tm} {H H' : Heap}, xrest P ops call r T H = some (T', H') → K T' H' → aRest P ops K r T H
  | [], T, T', H, H', h, hk => by
    simp only [xrest, Option.some.injEq, Prod.mk.injEq] at h; obtain ⟨rfl, rfl⟩ := h; exact hk
  | (E, chks, s) :: r, T, T', H, H', h, hk => by
    simp only [xrest] at h
    simp only [aRest]
    split at h
    · rename_i T1 H1 h1
      split at h
      · rename_i hch
        split at h
        · rename_i T2 H2 h2
          rw [List.all_eq_true] at hch
          exact xseg_a hc [E] h1 ⟨fun i hi => xchk_a (hch i hi), xseg_a hc s h2 (xrest_a hc r h hk)⟩
        · cases h
      · cases h
    · cases h

theorem xbody_some {P : Program} {fn : Func} {r : Option (Exit × Tm × Heap)} {v : Value} {H' : Heap} (h : xbody P fn r = some (v, H')) {K : Value → Heap → Prop} (hk : K v H') : ∃ e T, r = some (e, T, H') ∧ bodyQ P fn K e T H' := by
  unfold xbody at h
  split at h
  · rename_i T H
    split at h
    · rename_i u hu
      simp only [Option.some.injEq, Prod.mk.injEq] at h; obtain ⟨rfl, rfl⟩ := h
      exact ⟨_, _, rfl, by simp only [bodyQ, hu, ob_some]; exact hk⟩
    · cases h
  · rename_i T H
    split at h
    · rename_i u hu
      simp only [Option.some.injEq, Prod.mk.injEq] at h; obtain ⟨rfl, rfl⟩ := h
      exact ⟨_, _, rfl, by simp only [bodyQ, hu, ob_some]; exact hk⟩
    · cases h
  · cases h

theorem xcode_a {P : Program} (hm : P.follows .mixedOrders = true) : ∀ (n : Nat) (c : Code) {T T' : Tm} {H H' : Heap} {e : Exit}, xcode P n c T H = some (e, T', H') → ∀ {Q : Exit → Tm → Heap → Prop}, Q e T' H' → aw P c Q T H := by
  intro n
  induction n using Nat.strongRecOn with
  | _ n ih =>
    intro c T T' H H' e h Q hq
    cases n with
    | zero => simp [xcode] at h
    | succ n =>
      have hserve : Serves P (xcall P n) := by
        intro g args H v H' hcall K hk
        unfold xcall at hcall
        split at hcall
        · rename_i fn hf
          split at hcall
          · rename_i b hb
            split at hcall
            · cases hcall
            · rename_i hname
              obtain ⟨e, T, hx, hbq⟩ := xbody_some hcall hk
              exact ACalls.of_body hm hf hb (by simpa using hname) (ih n (Nat.lt_succ_self n) b hx hbq)
          · cases hcall
        · cases hcall
      have hcl : (fun g args H => match P.funcs[g]? with
          | some fn => match fn.body with
            | some b => if fn.name == "runtime.NumGoroutine" then none else xbody P fn (xcode P n b (args ++ List.replicate (fn.ntmps - args.length) undef) H)
            | none => none
          | none => none : CallFn) = xcall P n := rfl
      cases c with
      | skip => simp only [xcode, Option.some.injEq, Prod.mk.injEq] at h; obtain ⟨rfl, rfl, rfl⟩ := h; exact hq
      | label l => simp only [xcode, Option.some.injEq, Prod.mk.injEq] at h; obtain ⟨rfl, rfl, rfl⟩ := h; exact hq
      | exit id => simp only [xcode, Option.some.injEq, Prod.mk.injEq] at h; obtain ⟨rfl, rfl, rfl⟩ := h; exact hq
      | ret => simp only [xcode, Option.some.injEq, Prod.mk.injEq] at h; obtain ⟨rfl, rfl, rfl⟩ := h; exact hq
      | region id ops draw =>
        cases draw with
        | true =>
          simp only [xcode, hcl] at h
          simp only [aw]
          split at h
          rotate_left
          · cases h
          rename_i hp
          refine ⟨hp, ?_⟩
          cases hx : xplan P ops (xcall P n) (mkPlan P ops) T H with
          | none => rw [hx] at h; cases h
          | some r =>
            obtain ⟨T1, H1⟩ := r
            rw [hx] at h
            simp only [Option.some.injEq, Prod.mk.injEq] at h; obtain ⟨rfl, rfl, rfl⟩ := h
            unfold xplan at hx
            split at hx
            · rename_i T2 H2 h2
              exact xseg_a hserve _ h2 (xrest_a hserve _ hx hq)
            · cases hx
        | false =>
          simp only [xcode, hcl] at h
          simp only [aw]
          cases hx : xops P ops (xcall P n) ops.toList T H with
          | none => rw [hx] at h; cases h
          | some r =>
            obtain ⟨T1, H1⟩ := r
            rw [hx] at h
            simp only [Option.some.injEq, Prod.mk.injEq] at h; obtain ⟨rfl, rfl, rfl⟩ := h
            exact xops_a hserve _ hx hq
      | seq x y =>
        simp only [xcode] at h
        simp only [aw]
        split at h
        · rename_i T1 H1 h1
          exact ih n (Nat.lt_succ_self n) x h1 (ih n (Nat.lt_succ_self n) y h hq)
        · rename_i hne
          refine ih n (Nat.lt_succ_self n) x h ?_
          cases e <;> first | exact hq | (exact absurd h (hne _ _))
      | cond q x y =>
        simp only [xcode] at h
        simp only [aw]
        split at h
        · rename_i hc; simp only [hc, if_true]; exact ih n (Nat.lt_succ_self n) x h hq
        · rename_i hc; simp only [hc, Bool.false_eq_true, if_false]; exact ih n (Nat.lt_succ_self n) y h hq
        · cases h
      | block id b =>
        simp only [xcode] at h
        simp only [aw]
        split at h
        · rename_i id' T1 H1 h1
          refine ih n (Nat.lt_succ_self n) b h1 ?_
          simp only
          split at h
          · rename_i he
            simp only [Option.some.injEq, Prod.mk.injEq] at h; obtain ⟨rfl, rfl, rfl⟩ := h
            rw [if_pos he]; exact hq
          · rename_i he
            simp only [Option.some.injEq, Prod.mk.injEq] at h; obtain ⟨rfl, rfl, rfl⟩ := h
            rw [if_neg he]; exact hq
        · rename_i hne
          refine ih n (Nat.lt_succ_self n) b h ?_
          cases e <;> first | exact hq | (exact absurd h (hne _ _ _))
      | loop b =>
        simp only [aw]
        refine ⟨fun k T1 H1 => k ≤ n + 1 ∧ xcode P k (.loop b) T1 H1 = some (e, T', H'), n + 1, ⟨Nat.le_refl _, h⟩, ?_⟩
        rintro k T1 H1 ⟨hk, hx⟩
        cases k with
        | zero => simp [xcode] at hx
        | succ k =>
          simp only [xcode] at hx
          split at hx
          · rename_i T2 H2 h2
            exact ih k (by omega) b h2 ⟨k, Nat.lt_succ_self k, by omega, hx⟩
          · rename_i hne
            refine ih k (by omega) b hx ?_
            cases e <;> first | exact hq | (exact absurd hx (hne _ _))
      | _ => simp [xcode] at h

theorem xcall_a {P : Program} (hm : P.follows .mixedOrders = true) (n : Nat) : Serves P (xcall P n) := by
  intro g args H v H' hcall K hk
  unfold xcall at hcall
  split at hcall
  · rename_i fn hf
    split at hcall
    · rename_i b hb
      split at hcall
      · cases hcall
      · rename_i hname
        obtain ⟨e, T, hx, hbq⟩ := xbody_some hcall hk
        exact ACalls.of_body hm hf hb (by simpa using hname) (xcode_a hm n b hx hbq)
    · cases hcall
  · cases hcall

end Go.Abs

/- Closed calls in any heap; arguments as abstract values. -/
namespace Go.Abs
open Go

theorem HRel.nothing (P : Program) (w : World) : HRel P (fun _ => none) Heap.empty w where
  dom := fun _ _ h => by cases h
  rows := fun _ _ _ _ _ h => by cases h
  maps := fun _ _ _ _ h => by cases h
  free := fun b _ => Tr.get_nil b
  void := ⟨rfl, Tr.get_nil 0, Nat.one_pos⟩
  inj := fun _ _ _ _ _ _ h => by cases h
  frz := fun _ _ _ h => by cases h
  frinj := fun _ _ _ _ _ h => by cases h
  bnd := fun _ _ h => by cases h

/-- What a call on plain values comes to in an empty heap it comes to in any, and it leaves that as it is. -/
theorem ACalls.closed {P : Program} {g : FuncId} {args : List Value} {r : Value} (h : ACalls P g args Heap.empty fun v _ => v = r) (hr : gr r = true) (ha : args.all gr = true) (H : Heap) :
    ACalls P g args H fun v H' => v = r ∧ H' = H := by
  refine ⟨h.1, fun ρ w cargs hR hP hv => ?_⟩
  have hc : cargs.toList = args := hv.gr_eq ha
  have hv0 : VRels (fun _ => none) args cargs.toList := by
    rw [hc]
    clear hc hv h
    induction args with
    | nil => exact .nil
    | cons v vs ih =>
      simp at ha
      exact .cons (.of_gr ha.1) (ih (by simpa using ha.2))
  refine (h.2 _ w cargs (HRel.nothing P w) Pins.nil hv0).mono ?_
  rintro e w' ⟨v, v', ρ', H', rfl, hE, _, hvr, rfl⟩
  have hv' : v' = v := hvr.gr_eq hr
  have hfr : ∀ i, i < w.heap.size → w'.heap[i]? = w.heap[i]? := fun i hi => hE.frame i hi (fun b L hb => by cases hb)
  refine ⟨v, v', ρ, H, rfl, ⟨Ren.le.rfl, fun _ _ h => ⟨h, rfl⟩, Nat.le_refl _, hE.size, fun b L h1 h2 => .inl ⟨b, L, h1, h2, rfl⟩, fun i hi _ => hfr i hi, hE.os, hE.output, hE.tape, ⟨hR.dom, ?_, ?_, hR.free, hR.void, hR.inj, fun b L fs hb hf => by
    obtain ⟨q1, el, fr, q2⟩ := hR.frz b L fs hb hf
    exact ⟨q1, el, fr, by rw [hfr _ (lt_of_heap q2)]; exact q2⟩, hR.frinj, fun b L hb => Nat.lt_of_lt_of_le (hR.bnd b L hb) hE.size⟩, fun b L h1 => .inl ⟨b, L, h1, rfl⟩⟩, rfl, by rw [hv']; exact .of_gr hr, rfl, rfl⟩
  · intro b L own el cells hb hg
    obtain ⟨cs, fr, h1, h2⟩ := hR.rows b L own el cells hb hg
    exact ⟨cs, fr, by rw [hfr _ (lt_of_heap h1)]; exact h1, h2⟩
  · intro b L es cl hb hg
    obtain ⟨es', h1, h2⟩ := hR.maps b L es cl hb hg
    exact ⟨es', by rw [hfr _ (lt_of_heap h1)]; exact h1, h2⟩

/-- A closed call that the evaluator reckons. -/
def reckons (P : Program) (n : Nat) (g : FuncId) (args : List Value) (r : Value → Bool) : Bool :=
  match xcall P n g args Heap.empty with
  | some (v, _) => r v
  | none => false

def isTrue : Value → Bool
  | .bool true => true
  | _ => false

theorem ACalls.reckoned {P : Program} (hm : P.follows .mixedOrders = true) {n : Nat} {g : FuncId} {args : List Value} (ha : args.all gr = true) (h : reckons P n g args isTrue = true) (H : Heap) :
    ACalls P g args H fun v H' => v = .bool true ∧ H' = H := by
  refine ACalls.closed ?_ rfl ha H
  unfold reckons at h
  split at h
  · rename_i v H' hx
    refine xcall_a hm n g args Heap.empty v H' hx _ ?_
    unfold isTrue at h
    split at h
    · rfl
    · cases h
  · cases h

/-! ### arguments -/
def NoOwn (ρ : Ren) : Prop := ∀ b L, ρ b = some L → L.own = false

/-- The abstract side grows by memory that came in; the world stands. -/
structure Grows (P : Program) (W : World) (ρ : Ren) (H : Heap) (ρ' : Ren) (H' : Heap) : Prop where
  le : Ren.le ρ ρ'
  get : ∀ b o, H.get b = some o → H'.get b = some o
  rel : HRel P ρ' H' W
  no : NoOwn ρ'
  gh : H'.gh = H.gh

theorem Grows.trans {P : Program} {W : World} {ρ ρ1 ρ2 : Ren} {H H1 H2 : Heap} (h : Grows P W ρ H ρ1 H1) (k : Grows P W ρ1 H1 ρ2 H2) : Grows P W ρ H ρ2 H2 :=
  ⟨h.le.trans k.le, fun b o hb => k.get b o (h.get b o hb), k.rel, k.no, k.gh.trans h.gh⟩

theorem Grows.row {P : Program} {W : World} {ρ : Ren} {H : Heap} (h : HRel P ρ H W) (hn : NoOwn ρ) {a : Nat} {o : Nat} {el : TypeId} {cs : Array Value} {fr : Nat × Nat} (hw : W.heap[a]? = some (.cells cs el fr)) {cells : List Value}
    (hc : ∀ (i : Nat) (v : Value), cells[i]? = some v → ∃ v', cs[o + i]? = some v' ∧ VRel ρ v v') :
    Grows P W ρ H (ρ.add H.next ⟨a, o, false, 0, 0, none⟩) (H.push (.row false el cells)) := by
  have hle := h.le_add ⟨a, o, false, 0, 0, none⟩
  refine ⟨hle, push_keeps h.free _, ⟨?_, ?_, ?_, ?_, ?_, ?_, ?_, ?_, fun c L' hc => by
    simp only [Ren.add] at hc
    split at hc
    · injection hc with hc; subst hc; exact lt_of_heap hw
    · exact h.bnd c L' hc⟩, ?_, rfl⟩
  · intro b L hb
    simp only [Ren.add] at hb
    split at hb
    · rename_i e; subst e; simp
    · have := h.dom b L hb; simp; omega
  · intro b L own el' ce hb hg
    rw [Heap.get_push] at hg
    simp only [Ren.add] at hb
    split at hb
    · rename_i e; rw [if_pos e] at hg
      injection hb with hb; injection hg with hg; injection hg with g1 g2 g3
      subst g1; subst g2; subst g3; subst hb
      refine ⟨cs, fr, hw, ?_, rfl, fun h => by cases h⟩
      intro i v hv
      obtain ⟨v', h1, h2⟩ := hc i v hv
      exact ⟨v', h1, h2.mono hle⟩
    · rename_i e; rw [if_neg e] at hg
      obtain ⟨cs', fr', h1, h2, h3⟩ := h.rows b L own el' ce hb hg
      refine ⟨cs', fr', h1, ?_, h3⟩
      intro i v hv
      obtain ⟨v', k1, k2⟩ := h2 i v hv
      exact ⟨v', k1, k2.mono hle⟩
  · intro b L es clock hb hg
    rw [Heap.get_push] at hg
    simp only [Ren.add] at hb
    split at hb
    · rename_i e; rw [if_pos e] at hg; cases hg
    · rename_i e; rw [if_neg e] at hg
      obtain ⟨es', h1, h2, h3, h4, h5⟩ := h.maps b L es clock hb hg
      refine ⟨es', h1, h2, h3, h4, ?_⟩
      intro i e he
      obtain ⟨e', k1, k2, k3, k4, k5⟩ := h5 i e he
      exact ⟨e', k1, k2, k3, k4, k5.mono hle⟩
  · intro b hb
    simp only [Heap.next_push] at hb
    rw [Heap.get_push, if_neg (by omega)]
    exact h.free b (by omega)
  · obtain ⟨v1, v2, v3⟩ := h.void
    refine ⟨by simp only [Ren.add]; rw [if_neg (by omega)]; exact v1, ?_, by simp⟩
    rw [Heap.get_push, if_neg (by omega)]; exact v2
  · intro b1 b2 L1 L2 o2 hne h1 h2 g1 g1' g2
    exfalso
    obtain ⟨o1, ho1⟩ := Option.isSome_iff_exists.1 g1'
    rw [Heap.get_push] at ho1
    simp only [Ren.add] at h1
    split at h1
    · rename_i e; rw [if_pos e] at ho1
      injection ho1 with ho1
      refine g1 el cells ?_
      rw [Heap.get_push, if_pos e]
    · rename_i e; rw [if_neg e] at ho1
      cases o1 with
      | map es cl => obtain ⟨_, _, k, _⟩ := h.maps b1 L1 es cl h1 ho1; rw [hn b1 L1 h1] at k; cases k
      | row own el' ce =>
        cases own with
        | false => exact g1 el' ce (by rw [Heap.get_push, if_neg e]; exact ho1)
        | true =>
          obtain ⟨_, _, _, _, k, _⟩ := h.rows b1 L1 true el' ce h1 ho1
          rw [hn b1 L1 h1] at k; cases k
  · intro b L fs hb hf
    simp only [Ren.add] at hb
    split at hb
    · injection hb with hb; subst hb; cases hf
    · exact h.frz b L fs hb hf
  · intro b1 b2 L1 L2 fs h1 h2 hf g1 g1'
    exfalso
    obtain ⟨o1, ho1⟩ := Option.isSome_iff_exists.1 g1'
    rw [Heap.get_push] at ho1
    simp only [Ren.add] at h1
    split at h1
    · rename_i e; rw [if_pos e] at ho1
      injection ho1 with ho1
      refine g1 el cells ?_
      rw [Heap.get_push, if_pos e]
    · rename_i e; rw [if_neg e] at ho1
      cases o1 with
      | map es cl => obtain ⟨_, _, k, _⟩ := h.maps b1 L1 es cl h1 ho1; rw [hn b1 L1 h1] at k; cases k
      | row own el' ce =>
        cases own with
        | false => exact g1 el' ce (by rw [Heap.get_push, if_neg e]; exact ho1)
        | true =>
          obtain ⟨_, _, _, _, k, _⟩ := h.rows b1 L1 true el' ce h1 ho1
          rw [hn b1 L1 h1] at k; cases k
  · intro b L hb
    simp only [Ren.add] at hb
    split at hb
    · injection hb with hb; subst hb; rfl
    · exact hn b L hb

/-- A value of a type, by its cells, in memory that came in. -/
def Good (P : Program) (H : Heap) : Nat → TypeId → List Value → Prop
  | 0, _, _ => False
  | n + 1, t, as =>
    match P.underlying t with
    | some .bool => ∃ b, as = [.bool b]
    | some (.int k) => ∃ m, as = [.int k m] ∧ (Lit.int k m).wf = true
    | some .string => ∃ s, as = [.string s] ∧ s.size ≤ maxLen
    | some (.slice e) => as = [.slice none 0 0] ∨ as = [.slice (some ⟨0, 0, none⟩) 0 unk] ∨
        ∃ b len el cells, as = [.slice (some ⟨b, 0, none⟩) len unk] ∧ H.get b = some (.row false el cells) ∧ 0 < len ∧ len ≤ maxLen ∧ cells.length = len * szOf P e ∧ ∀ i, i < len → Good P H n e ((cells.drop (i * szOf P e)).take (szOf P e))
    | some (.struct fs) => as.length = szOf P t ∧ ∀ f ∈ fs.toList, Good P H n f.type ((as.drop f.offset).take (szOf P f.type))
    | _ => False

theorem Good.mono {P : Program} {H H' : Heap} (hg : ∀ b o, H.get b = some o → H'.get b = some o) : ∀ (n : Nat) (t : TypeId) (as : List Value), Good P H n t as → Good P H' n t as
  | 0, _, _, h => h
  | n + 1, t, as, h => by
    unfold Good at h ⊢
    split at h <;> try exact h
    · rename_i e hu
      rcases h with h | h | ⟨b, len, el, cells, h1, h2, h3, h4, h5, h6⟩
      · exact .inl h
      · exact .inr (.inl h)
      · exact .inr (.inr ⟨b, len, el, cells, h1, hg _ _ h2, h3, h4, h5, fun i hi => Good.mono hg n _ _ (h6 i hi)⟩)
    · exact ⟨h.1, fun f hf => Good.mono hg n _ _ (h.2 f hf)⟩

def contig (P : Program) : List Field → Nat → Option Nat
  | [], off => some off
  | f :: fs, off => if f.offset = off ∧ sized P f.type = true then contig P fs (off + szOf P f.type) else none

/-- The types that arguments may have here. -/
def plainT (P : Program) : Nat → TypeId → Bool
  | 0, _ => false
  | n + 1, t =>
    match P.underlying t with
    | some .bool | some (.int _) | some .string => true
    | some (.slice e) => sized P e && szOf P e != 0 && plainT P n e
    | some (.struct fs) => sized P t && (contig P fs.toList 0 == some (szOf P t)) && fs.toList.all fun f => plainT P n f.type
    | _ => false

end Go.Abs

/- What an argument that can be read as data is, on the abstract side. -/
namespace Go.Abs
open Go

theorem mapM_get {α β : Type} {f : α → Option β} : ∀ {l : List α} {r : List β}, l.mapM f = some r → r.length = l.length ∧ ∀ (i : Nat) (x : α), l[i]? = some x → ∃ y, f x = some y ∧ r[i]? = some y
  | [], r, h => by simp at h; subst h; exact ⟨rfl, fun i x hx => by simp at hx⟩
  | a :: l, r, h => by
    simp only [List.mapM_cons, Option.bind_eq_bind, Option.pure_def] at h
    cases ha : f a with
    | none => simp [ha] at h
    | some b =>
      cases hl : l.mapM f with
      | none => simp [ha, hl] at h
      | some r' =>
        simp [ha, hl] at h
        subst h
        obtain ⟨h1, h2⟩ := mapM_get hl
        refine ⟨by simp [h1], fun i x hx => ?_⟩
        cases i with
        | zero => simp at hx; subst hx; exact ⟨b, ha, by simp⟩
        | succ i => simp at hx; obtain ⟨y, k1, k2⟩ := h2 i x hx; exact ⟨y, k1, by simpa using k2⟩

section
variable {P : Program} {W : World} {H0 : Type} {enc : TypeId × Value → H0}

abbrev trd (enc : TypeId × Value → H0) (P : Program) (W : World) (fuel : Nat) (t : TypeId) (cs : List Value) : Option (DataW H0 × List MemPlace) := DataW.trod enc P W 0 (fun _ => true) true fuel t cs

/-- What 'read' comes to, at types of depth n. -/
def ReadsTo (enc : TypeId × Value → H0) (P : Program) (W : World) (n : Nat) : Prop :=
  ∀ (fuel : Nat) (t : TypeId) (cs : List Value) (r : DataW H0 × List MemPlace), plainT P n t = true → trd enc P W fuel t cs = some r → ∀ (ρ : Ren) (H : Heap), HRel P ρ H W → NoOwn ρ →
    ∃ ρ' H' as, Grows P W ρ H ρ' H' ∧ VRels ρ' as cs ∧ Good P H' n t as

theorem Grows.refl {ρ : Ren} {H : Heap} (h : HRel P ρ H W) (hn : NoOwn ρ) : Grows P W ρ H ρ H := ⟨Ren.le.rfl, fun _ _ h => h, h, hn, rfl⟩

theorem read_fields {n : Nat} (ih : ReadsTo enc P W n) {fuel : Nat} {cs : List Value} : ∀ (fs : List Field) (off e : Nat), contig P fs off = some e → e ≤ cs.length → (∀ f ∈ fs, plainT P n f.type = true) →
    (∀ f ∈ fs, ∃ r, trd enc P W fuel f.type ((cs.drop f.offset).take (P.cellsOf f.type)) = some r) → ∀ (ρ : Ren) (H : Heap), HRel P ρ H W → NoOwn ρ →
    ∃ ρ' H' as, Grows P W ρ H ρ' H' ∧ off ≤ e ∧ VRels ρ' as ((cs.drop off).take (e - off)) ∧ ∀ f ∈ fs, off ≤ f.offset ∧ Good P H' n f.type ((as.drop (f.offset - off)).take (szOf P f.type))
  | [], off, e, hc, he, hp, ht, ρ, H, hR, hn => by
    simp only [contig, Option.some.injEq] at hc
    subst hc
    exact ⟨ρ, H, [], Grows.refl hR hn, Nat.le_refl _, by simp; exact .nil, fun f hf => by cases hf⟩
  | f :: fs, off, e, hc, he, hp, ht, ρ, H, hR, hn => by
    simp only [contig] at hc
    split at hc
    rotate_left
    · cases hc
    rename_i hf
    obtain ⟨hfo, hfs⟩ := hf
    obtain ⟨r, hr⟩ := ht f (by simp)
    obtain ⟨ρ1, H1, as1, g1, v1, q1⟩ := ih fuel f.type _ r (hp f (by simp)) hr ρ H hR hn
    obtain ⟨ρ2, H2, as2, g2, hle, v2, q2⟩ := read_fields ih fs (off + szOf P f.type) e hc he (fun f hf => hp f (by simp [hf])) (fun f hf => ht f (by simp [hf])) ρ1 H1 g1.rel g1.no
    have hl1 : as1.length = szOf P f.type := by
      rw [v1.length]
      simp only [List.length_take, List.length_drop, hfo]
      show min (szOf P f.type) _ = _
      omega
    refine ⟨ρ2, H2, as1 ++ as2, g1.trans g2, by omega, ?_, ?_⟩
    · have := (v1.mono g2.le).append v2
      rw [hfo] at this
      have e1 : List.take (P.cellsOf f.type) (List.drop off cs) ++ List.take (e - (off + szOf P f.type)) (List.drop (off + szOf P f.type) cs) = List.take (e - off) (List.drop off cs) := by
        show List.take (szOf P f.type) (List.drop off cs) ++ _ = _
        rw [show e - off = szOf P f.type + (e - (off + szOf P f.type)) by omega, List.take_add, List.drop_drop]
      rwa [e1] at this
    · intro f' hf'
      rcases List.mem_cons.1 hf' with rfl | hf'
      · refine ⟨by omega, ?_⟩
        rw [hfo, Nat.sub_self, List.drop_zero, List.take_append_of_le_length (by omega), List.take_of_length_le (by omega)]
        exact q1.mono g2.get
      · obtain ⟨k1, k2⟩ := q2 f' hf'
        refine ⟨by omega, ?_⟩
        rw [List.drop_append, List.drop_of_length_le (by omega), List.nil_append, hl1, show f'.offset - off - szOf P f.type = f'.offset - (off + szOf P f.type) by omega]
        exact k2

theorem read_elems {n : Nat} (ih : ReadsTo enc P W n) {fuel : Nat} {e : TypeId} (hpl : plainT P n e = true) {off : Nat} {cs : Array Value} {len : Nat}
    (hr : ∀ i, i < len → ∃ ci r, trd enc P W fuel e ci = some r ∧ ci.length = szOf P e ∧ ∀ j, j < szOf P e → ci[j]? = cs[off + i * szOf P e + j]?) : ∀ (k : Nat), k ≤ len → ∀ (ρ : Ren) (H : Heap), HRel P ρ H W → NoOwn ρ →
    ∃ (ρ' : Ren) (H' : Heap) (as : List Value), Grows P W ρ H ρ' H' ∧ as.length = k * szOf P e ∧ (∀ (j : Nat) (v : Value), as[j]? = some v → ∃ v', cs[off + j]? = some v' ∧ VRel ρ' v v') ∧ ∀ i, i < k → Good P H' n e ((as.drop (i * szOf P e)).take (szOf P e))
  | 0, _, ρ, H, hR, hn => ⟨ρ, H, [], Grows.refl hR hn, by simp, fun j v hv => by simp at hv, fun i hi => by omega⟩
  | k + 1, hk, ρ, H, hR, hn => by
    obtain ⟨ρ1, H1, as1, g1, l1, v1, q1⟩ := read_elems ih hpl hr k (by omega) ρ H hR hn
    obtain ⟨ci, r, h1, h2, h3⟩ := hr k (by omega)
    obtain ⟨ρ2, H2, as2, g2, v2, q2⟩ := ih fuel e ci r hpl h1 ρ1 H1 g1.rel g1.no
    have l2 : as2.length = szOf P e := by rw [v2.length, h2]
    refine ⟨ρ2, H2, as1 ++ as2, g1.trans g2, by rw [List.length_append, l1, l2, Nat.add_mul, Nat.one_mul], ?_, ?_⟩
    · intro j v hv
      rw [List.getElem?_append] at hv
      split at hv
      · obtain ⟨v', k1, k2⟩ := v1 j v hv
        exact ⟨v', k1, k2.mono g2.le⟩
      · rename_i hj
        obtain ⟨v', k1, k2⟩ := v2.get _ v hv
        refine ⟨v', ?_, k2⟩
        have hlt : j - as1.length < szOf P e := by
          rcases Nat.lt_or_ge (j - as1.length) as2.length with h | h
          · omega
          · rw [List.getElem?_eq_none h] at hv; cases hv
        rw [h3 _ hlt] at k1
        rw [show off + j = off + k * szOf P e + (j - as1.length) by omega]
        exact k1
    · intro i hi
      rcases Nat.lt_or_ge i k with h | h
      · have hm : (i + 1) * szOf P e ≤ k * szOf P e := Nat.mul_le_mul_right _ h
        rw [Nat.add_mul, Nat.one_mul] at hm
        rw [List.drop_append_of_le_length (by omega), List.take_append_of_le_length (by simp; omega)]
        exact (q1 i h).mono g2.get
      · have : i = k := by omega
        subst this
        rw [← l1, List.drop_append, List.drop_of_length_le (Nat.le_refl _), List.nil_append, Nat.sub_self, List.drop_zero, ← l2, List.take_length]
        exact q2

theorem cells_of {a : Addr} {m : Nat} {l : List Value} (h : W.cells? 0 a m = some l) : l.length = m ∧ ∀ j, j < m → l[j]? = W.cell? (a.add j) := by
  unfold World.cells? at h
  rw [if_pos (Nat.zero_le _)] at h
  obtain ⟨h1, h2⟩ := mapM_get h
  refine ⟨by simpa using h1, fun j hj => ?_⟩
  obtain ⟨y, k1, k2⟩ := h2 j j (by simp [hj])
  rw [k1, k2]

theorem reads_to : ∀ n, ReadsTo enc P W n
  | 0 => fun fuel t cs r hp => by simp [plainT] at hp
  | n + 1 => by
    intro fuel t cs r hp ht ρ H hR hn
    have ih := reads_to n
    cases fuel with
    | zero => simp [trd, DataW.trod] at ht
    | succ fuel =>
      unfold plainT at hp
      cases hu : P.underlying t with
      | none => simp [hu] at hp
      | some d =>
        simp only [hu] at hp
        cases d with
        | bool =>
          have : ∃ b, cs = [.bool b] := by
            simp only [trd, DataW.trod, hu] at ht
            split at ht <;> simp_all
          obtain ⟨b, rfl⟩ := this
          exact ⟨ρ, H, [.bool b], Grows.refl hR hn, .cons (.ground rfl) .nil, by simp only [Good, hu]; exact ⟨b, rfl⟩⟩
        | int k =>
          have : ∃ m, cs = [.int k m] ∧ (Lit.int k m).wf = true := by
            simp only [trd, DataW.trod, hu] at ht
            split at ht <;> simp_all
          obtain ⟨m, rfl, hm⟩ := this
          exact ⟨ρ, H, [.int k m], Grows.refl hR hn, .cons (.ground rfl) .nil, by simp only [Good, hu]; exact ⟨m, rfl, hm⟩⟩
        | string =>
          have : ∃ s, cs = [.string s] ∧ s.size ≤ maxLen := by
            simp only [trd, DataW.trod, hu] at ht
            split at ht <;> simp_all
          obtain ⟨s, rfl, hs⟩ := this
          exact ⟨ρ, H, [.string s], Grows.refl hR hn, .cons (.ground rfl) .nil, by simp only [Good, hu]; exact ⟨s, rfl, hs⟩⟩
        | slice e =>
          simp only [Bool.and_eq_true, bne_iff_ne, ne_eq] at hp
          obtain ⟨⟨hsz, hnz⟩, hpe⟩ := hp
          have hcs : cs = [.slice none 0 0] ∨ ∃ a len cap, cs = [.slice (some a) len cap] ∧ len ≤ cap ∧ cap ≤ maxLen ∧
              ∀ i, i < len → ∃ ci r, W.cells? 0 (a.add (i * P.cellsOf e)) (P.cellsOf e) = some ci ∧ trd enc P W fuel e ci = some r := by
            simp only [trd, DataW.trod, hu] at ht
            split at ht <;> try (simp_all; done)
            rename_i e' a len cap he
            simp only [Option.some.injEq, TypeDesc.slice.injEq] at he
            subst he
            right
            refine ⟨a, len, cap, rfl, ?_⟩
            split at ht
            rotate_left
            · cases ht
            rename_i hc
            refine ⟨hc.2.1, hc.2.2, fun i hi => ?_⟩
            cases hm : (List.range len).mapM (fun i => (W.cells? 0 (a.add (i * P.cellsOf e)) (P.cellsOf e)).bind (DataW.trod enc P W 0 (fun _ => true) true fuel e)) with
            | none => rw [hm] at ht; cases ht
            | some el =>
              obtain ⟨y, h1, _⟩ := (mapM_get hm).2 i i (by simp [hi])
              cases hc2 : W.cells? 0 (a.add (i * P.cellsOf e)) (P.cellsOf e) with
              | none => rw [hc2] at h1; cases h1
              | some ci => rw [hc2] at h1; exact ⟨ci, y, rfl, h1⟩
          rcases hcs with rfl | ⟨a, len, cap, rfl, h1, h2, h3⟩
          · exact ⟨ρ, H, [.slice none 0 0], Grows.refl hR hn, .cons (.ground rfl) .nil, by unfold Good; rw [hu]; exact .inl rfl⟩
          · rcases Nat.eq_zero_or_pos len with h0 | h0
            · subst h0
              exact ⟨ρ, H, [.slice (some ⟨0, 0, none⟩) 0 unk], Grows.refl hR hn, .cons .void .nil, by unfold Good; rw [hu]; exact .inr (.inl rfl)⟩
            · have hszp : 0 < szOf P e := Nat.pos_of_ne_zero hnz
              obtain ⟨blk, off, sp⟩ := a
              -- the row
              obtain ⟨c0, r0, q1, q2⟩ := h3 0 h0
              obtain ⟨q3, q4⟩ := cells_of q1
              have q5 := q4 0 hszp
              have hadd0 : ((⟨blk, off, sp⟩ : Addr).add (0 * P.cellsOf e)).add 0 = ⟨blk, off, sp⟩ := by simp [Addr.add]
              rw [hadd0, List.getElem?_eq_getElem (by rw [q3]; exact hszp)] at q5
              have hrow : ∃ cs' el fr, W.heap[blk]? = some (.cells cs' el fr) ∧ sp = none := by
                unfold World.cell? at q5
                simp only at q5
                split at q5
                · rename_i cs' el fr hb
                  refine ⟨cs', el, fr, hb, ?_⟩
                  cases sp with
                  | none => rfl
                  | some _ => simp at q5
                · cases q5
              obtain ⟨cs', el, fr, hb, rfl⟩ := hrow
              have hr : ∀ i, i < len → ∃ ci r, trd enc P W fuel e ci = some r ∧ ci.length = szOf P e ∧ ∀ j, j < szOf P e → ci[j]? = cs'[off + i * szOf P e + j]? := by
                intro i hi
                obtain ⟨ci, r, p1, p2⟩ := h3 i hi
                obtain ⟨p3, p4⟩ := cells_of p1
                refine ⟨ci, r, p2, p3, fun j hj => ?_⟩
                rw [p4 j hj, add_eq, add_eq]
                simp only [World.cell?, hb, Option.isSome_none, Bool.false_eq_true, if_false]
                rfl
              obtain ⟨ρ1, H1, as, g1, l1, v1, good⟩ := read_elems ih hpe hr len (Nat.le_refl _) ρ H hR hn
              have g2 := Grows.row g1.rel g1.no (a := blk) (o := off) (el := el) hb v1
              refine ⟨_, _, [.slice (some ⟨H1.next, 0, none⟩) len unk], g1.trans g2, .cons ?_ .nil, ?_⟩
              · have := VRel.slu (ρ := ρ1.add H1.next ⟨blk, off, false, 0, 0, none⟩) (b := H1.next) (off := 0) (n := len) (c := cap) (Ren.add_self _ _ _) h1 (fun h => by cases h)
                simpa using this
              · simp only [Good, hu]
                refine .inr (.inr ⟨H1.next, len, el, as, rfl, by rw [Heap.get_push, if_pos rfl], h0, by omega, l1, fun i hi => (good i hi).mono g2.get⟩)
        | struct fs =>
          simp only [Bool.and_eq_true, beq_iff_eq, List.all_eq_true] at hp
          obtain ⟨⟨hsz, hct⟩, hpf⟩ := hp
          have hcs : cs.length = szOf P t ∧ ∀ f ∈ fs.toList, ∃ r, trd enc P W fuel f.type ((cs.drop f.offset).take (P.cellsOf f.type)) = some r := by
            simp only [trd, DataW.trod, hu] at ht
            split at ht
            rotate_left
            · cases ht
            rename_i hl
            refine ⟨hl, fun f hf => ?_⟩
            cases hm : fs.toList.mapM (fun f => DataW.trod enc P W 0 (fun _ => true) true fuel f.type ((cs.drop f.offset).take (P.cellsOf f.type))) with
            | none => rw [hm] at ht; cases ht
            | some xs =>
              obtain ⟨i, hi, e⟩ := List.getElem_of_mem hf
              obtain ⟨y, h1, _⟩ := (mapM_get hm).2 i f (by rw [List.getElem?_eq_getElem hi, e])
              exact ⟨y, h1⟩
          obtain ⟨ρ1, H1, as, g1, _, v1, q1⟩ := read_fields ih fs.toList 0 _ hct (by rw [hcs.1]; exact Nat.le_refl _) hpf hcs.2 ρ H hR hn
          rw [List.drop_zero, Nat.sub_zero, ← hcs.1, List.take_length] at v1
          refine ⟨ρ1, H1, as, g1, v1, ?_⟩
          simp only [Good, hu]
          exact ⟨by rw [v1.length]; exact hcs.1, fun f hf => by simpa using (q1 f hf).2⟩
        | _ => simp at hp
end

end Go.Abs

/- From a law on abstract values to the law's row. -/
namespace Go.Abs
open Go Go.ChangeShapes Go.WideShapes Go.RowKit

def GoodArg (P : Program) (H : Heap) (n : Nat) (t : TypeId) (v : Value) : Prop :=
  match P.underlying t with
  | some (.struct _) => ∃ cs, v = .agg ⟨cs⟩ ∧ Good P H n t cs
  | _ => Good P H n t [v]

def GoodArgs (P : Program) (H : Heap) (n : Nat) : List TypeId → List Value → Prop
  | [], [] => True
  | t :: ts, v :: vs => GoodArg P H n t v ∧ GoodArgs P H n ts vs
  | _, _ => False

theorem GoodArg.mono {P : Program} {H H' : Heap} (hg : ∀ b o, H.get b = some o → H'.get b = some o) {n : Nat} {t : TypeId} {v : Value} (h : GoodArg P H n t v) : GoodArg P H' n t v := by
  unfold GoodArg at h ⊢
  split at h
  · obtain ⟨cs, h1, h2⟩ := h; exact ⟨cs, h1, h2.mono hg⟩
  · exact Good.mono hg _ _ _ h

section
variable {P : Program} {W : World} {H0 : Type} {enc : TypeId × Value → H0}

theorem arg_to {n : Nat} {t : TypeId} {v : Value} {d : DataW H0} {p : List MemPlace} (hp : plainT P n t = true) (h : DataW.Trod enc P W 0 (fun _ => true) true t v d p) {base : Nat} (hok : Value.okWide P W .any base t v)
    {ρ : Ren} {H : Heap} (hR : HRel P ρ H W) (hn : NoOwn ρ) : ∃ ρ' H' a, Grows P W ρ H ρ' H' ∧ VRel ρ' a v ∧ GoodArg P H' n t a := by
  obtain ⟨fuel, hf⟩ := h
  obtain ⟨ρ', H', as, g, hv, hg⟩ := reads_to (enc := enc) (P := P) (W := W) n fuel t v.cells.toList (d, p) hp hf ρ H hR hn
  cases n with
  | zero => simp [plainT] at hp
  | succ n =>
    unfold plainT at hp
    unfold Value.okWide at hok
    unfold GoodArg
    cases hu : P.underlying t with
    | none => simp [hu] at hp
    | some td =>
      simp only [hu] at hp hok ⊢
      cases td with
      | struct fs =>
        simp only at hok ⊢
        obtain ⟨cs, rfl, _, _⟩ := hok
        obtain ⟨l⟩ := cs
        exact ⟨ρ', H', .agg ⟨as⟩, g, .agg hv, as, rfl, hg⟩
      | bool =>
        simp only at hok ⊢
        have hcell : v.cells.toList = [v] := by
          unfold Cell.okWide Cell.ok at hok
          simp only [hu] at hok
          cases v <;> simp_all [Value.cells]
        rw [hcell] at hv
        cases hv with
        | cons h1 h2 => cases h2; exact ⟨ρ', H', _, g, h1, hg⟩
      | int k =>
        simp only at hok ⊢
        have hcell : v.cells.toList = [v] := by
          unfold Cell.okWide Cell.ok at hok
          simp only [hu] at hok
          cases v <;> simp_all [Value.cells]
        rw [hcell] at hv
        cases hv with
        | cons h1 h2 => cases h2; exact ⟨ρ', H', _, g, h1, hg⟩
      | string =>
        simp only at hok ⊢
        have hcell : v.cells.toList = [v] := by
          unfold Cell.okWide Cell.ok at hok
          simp only [hu] at hok
          cases v <;> simp_all [Value.cells]
        rw [hcell] at hv
        cases hv with
        | cons h1 h2 => cases h2; exact ⟨ρ', H', _, g, h1, hg⟩
      | slice e =>
        simp only at hok ⊢
        have hcell : v.cells.toList = [v] := by
          unfold Cell.okWide Cell.ok at hok
          simp only [hu] at hok
          cases v <;> simp_all [Value.cells]
        rw [hcell] at hv
        cases hv with
        | cons h1 h2 => cases h2; exact ⟨ρ', H', _, g, h1, hg⟩
      | _ => simp at hp

theorem args_to {n : Nat} {base : Nat} : ∀ (ts : List TypeId) (vs : List Value) (ds : List (DataW H0)) (p : List MemPlace), DataW.TrodAll enc P W 0 (fun _ => true) true ts vs ds p →
    (∀ (j : Nat) (t : TypeId) (v : Value), ts[j]? = some t → vs[j]? = some v → Value.okWide P W .any base t v) → (∀ t ∈ ts, plainT P n t = true) → ∀ (ρ : Ren) (H : Heap), HRel P ρ H W → NoOwn ρ →
    ∃ ρ' H' as, Grows P W ρ H ρ' H' ∧ VRels ρ' as vs ∧ GoodArgs P H' n ts as
  | [], vs, ds, p, h, _, _, ρ, H, hR, hn => by
    cases vs with
    | nil => exact ⟨ρ, H, [], Grows.refl hR hn, .nil, trivial⟩
    | cons v vs => cases ds <;> exact h.elim
  | t :: ts, vs, ds, p, h, hok, hp, ρ, H, hR, hn => by
    obtain ⟨v, vs', d, ds', p1, q, rfl, rfl, rfl, h1, h2⟩ := trodAll_cons h
    obtain ⟨ρ1, H1, a, g1, v1, q1⟩ := arg_to (hp t (by simp)) h1 (hok 0 t v (by simp) (by simp)) hR hn
    obtain ⟨ρ2, H2, as, g2, v2, q2⟩ := args_to ts vs' ds' q h2 (fun j t v ht hv => hok (j + 1) t v (by simpa using ht) (by simpa using hv)) (fun t ht => hp t (by simp [ht])) ρ1 H1 g1.rel g1.no
    exact ⟨ρ2, H2, a :: as, g1.trans g2, .cons (v1.mono g2.le) v2, q1.mono g2.get, q2⟩

theorem trodAll_len {spare : Nat → Bool} {b : Nat} {held : Bool} : ∀ {ts : List TypeId} {vs : List Value} {ds : List (DataW H0)} {p : List MemPlace}, DataW.TrodAll enc P W b spare held ts vs ds p → vs.length = ts.length ∧ ds.length = ts.length
  | [], [], [], _, _ => ⟨rfl, rfl⟩
  | [], _ :: _, [], _, h => h.elim
  | [], _ :: _, _ :: _, _, h => h.elim
  | [], [], _ :: _, _, h => h.elim
  | t :: ts, vs, ds, p, h => by
    obtain ⟨v, vs', d, ds', p1, q, rfl, rfl, rfl, h1, h2⟩ := trodAll_cons h
    obtain ⟨k1, k2⟩ := trodAll_len h2
    simp [k1, k2]

theorem trodAll_stays (hl : laidOutB P = true) {W' : World} (hb : Below W.heap.size W W') : ∀ {ts : List TypeId} {vs : List Value} {ds : List (DataW H0)} {p : List MemPlace}, (∀ t ∈ ts, P.readableRec t = true ∧ t < P.types.size) →
    DataW.TrodAll enc P W 0 (fun _ => true) true ts vs ds p → DataW.TrodAll enc P W' 0 (fun b => decide (b < W.heap.size)) true ts vs ds p
  | [], vs, ds, p, _, h => by
    cases vs with
    | nil => cases ds with
      | nil => exact h
      | cons => exact h.elim
    | cons => cases ds <;> exact h.elim
  | t :: ts, vs, ds, p, hr, h => by
    obtain ⟨v, vs', d, ds', p1, q, rfl, rfl, rfl, h1, h2⟩ := trodAll_cons h
    have hlt : ∀ x ∈ p1, x.block < W.heap.size := by obtain ⟨m, hm⟩ := h1; exact DataW.trod_lt m _ _ _ hm
    exact trodAll_cons_mk (Below.trod hl (hr t (by simp)).1 (hr t (by simp)).2 h1 hb hlt) (trodAll_stays hl hb (fun t ht => hr t (by simp [ht])) h2)
end

/-- The law's row, out of the law on abstract values. -/
theorem law_lifted {C : Checked} {os : Os} (own : ownKnob C.prog.godebug = none) (started : os.Started) {f : FuncId} {fn : Func} (noInit : C.prog.inits.idxOf? f = none) (hfn : C.prog.funcs[f]? = some fn)
    {H0 : Type} {enc : TypeId × Value → H0} {s : ChangeSpec} {conds : List PathCond}
    (witness : ∃ (w : World) (tape : Tape) (i : Input), w.os = os ∧ (w.forCall tape i).Shaped C.prog ∧ i.vars = [] ∧ Input.okWide C.prog (w.forCall tape i) .any w.heap.size f i ∧
      s.pre6 enc C.prog fn conds false (w.forCall tape i).memory i.args ∧ ({} : Assume).holds C.prog (lone (Frame.enter C.prog f i.args .normal) [] (w.forCall tape i)))
    (hvars : s.vars = []) (hspec : ∀ ds : List (DataW H0), ds.length = fn.params.toList.length → (s.fn H0 ds).results = [.lit (.bool true)] ∧ (s.fn H0 ds).args = ds ∧ (s.fn H0 ds).vars = [])
    {tb : TypeId} (hres : fn.resultTypes.toList = [tb]) (hb : C.prog.underlying tb = some .bool) {n : Nat} (hp : ∀ t ∈ fn.params.toList, plainT C.prog n t = true ∧ C.prog.readableRec t = true ∧ t < C.prog.types.size)
    (hl : laidOutB C.prog = true) (law : ∀ H as, (∀ b, H.next ≤ b → H.get b = none) → GoodArgs C.prog H n fn.params.toList as → ACalls C.prog f as H fun v _ => v = .bool true) :
    ReturnsInHanded {} C os f .any (s.pre6 enc C.prog fn conds false) (s.post enc C.prog fn false true false false) := by
  refine returnsInHanded_of_change_sized own started noInit hfn witness ?_
  intro W base args ds gs before hval hW _ _ _
  have hW' := hW
  obtain ⟨p, q, hA, hV, rfl, hfz, hnd⟩ := hW
  rw [hvars] at hV
  obtain ⟨rfl, rfl⟩ := trodVars_none hV
  obtain ⟨ρ, H, as, g, hv, hg⟩ := args_to (n := n) (base := base) fn.params.toList args.toList ds p hA (fun j t v ht hv => hval j t v (by rw [← Array.getElem?_toList]; exact ht) (by rw [← Array.getElem?_toList]; exact hv)) (fun t ht => (hp t ht).1)
    _ _ (HRel.nothing C.prog W) (fun b L h => by cases h)
  refine ((law H as g.rel.free hg).2 ρ W args g.rel (by rw [g.gh]; exact Pins.nil) hv).mono ?_
  rintro e W' ⟨v, v', ρ', H', rfl, hE, _, hvr, rfl⟩
  have hv' : v' = .bool true := hvr.bool
  subst hv'
  have bel : Below W.heap.size W W' := ⟨hE.os, hE.tape, hE.output, hE.size, fun k hk => hE.frame k hk (fun b L hb ho => by rw [g.no b L hb] at ho; cases ho)⟩
  obtain ⟨_, hdl⟩ := trodAll_len hA
  obtain ⟨s1, s2, s3⟩ := hspec ds hdl
  have hr1 : (Value.bool true).resultList fn.resultTypes.size = [.bool true] := by
    have : fn.resultTypes.size = 1 := by rw [← Array.length_toList, hres]; rfl
    rw [this]; rfl
  refine ⟨.bool true, rfl, ds, [], p ++ [], [], p, [], hW', ?_, ?_, ?_, bel.frame _, fun h => by cases h⟩
  · rw [List.append_nil, s1, hres, hr1]; exact trodAll_mk1 (shut_bool hb _)
  · rw [List.append_nil, s2]; exact trodAll_stays hl bel (fun t ht => (hp t ht).2) hA
  · rw [List.append_nil, s3, hvars]; rfl

end Go.Abs
