/- Calls of functions of values: what a value is once all is frozen; the run of a call beside rows that it knows nothing of. -/
import Derived.Test.YtgblhcnkfcjalaaB4
set_option linter.unusedVariables false
set_option linter.unusedSimpArgs false
namespace Go.Abs
open Go
variable {P : Program} {H H' H1 : Heap} {vs vs' us : List Value} {v v' : Value} {g : FuncId} {args args' : List Value} {K : Value → Heap → Prop}

mutual
/-- The value, told without rows. -/
inductive FzRel (P : Program) (H : Heap) : Value → Value → Prop
  | rfl {v : Value} : FzRel P H v v
  | sl {es n : Nat} {v : Value} {vs ps : List Value} (he : 0 < es) (h : Sl P H es v n vs) (hs : FzRels P H ps vs) : FzRel P H (fzv n ps) v
  | agg {ps vs : List Value} (h : FzRels P H ps vs) : FzRel P H (.agg ⟨ps⟩) (.agg ⟨vs⟩)
  | tuple {ps vs : List Value} (h : FzRels P H ps vs) : FzRel P H (.tuple ⟨ps⟩) (.tuple ⟨vs⟩)
inductive FzRels (P : Program) (H : Heap) : List Value → List Value → Prop
  | nil : FzRels P H [] []
  | cons {p v : Value} {ps vs : List Value} (h : FzRel P H p v) (hs : FzRels P H ps vs) : FzRels P H (p :: ps) (v :: vs)
end
theorem FzRels.refl : ∀ {vs : List Value}, FzRels P H vs vs
  | [] => .nil
  | _ :: _ => .cons .rfl FzRels.refl
theorem FzRels.length : ∀ {ps vs : List Value}, FzRels P H ps vs → ps.length = vs.length
  | _, _, .nil => rfl
  | _, _, .cons _ hs => by simp [FzRels.length hs]

/-- The view of a row, frozen. -/
def vwOf (ρ : Ren) (H : Heap) (w : World) (c : Nat) : Option Loc :=
  match ρ c, H.get c with
  | some L, some (.row _ _ _) => match w.heap[L.blk]? with
    | some (.cells cs _ _) => some ⟨L.blk, 0, false, 0, 0, some cs.toList⟩
    | _ => none
  | _, _ => none
/-- The renaming with all rows frozen beside. -/
def fa (ρ : Ren) (H : Heap) (w : World) : Ren := fun b => if b < H.next then ρ b else if b < 2 * H.next then vwOf ρ H w (b - H.next) else none

theorem fa_le {ρ : Ren} {w : World} (h : HRel P ρ H w) : Ren.le ρ (fa ρ H w) := fun b L hb => by
  unfold fa; rw [if_pos (h.dom b L hb)]; exact hb
theorem vwOf_some {ρ : Ren} {w : World} {c : Nat} {L' : Loc} (h : vwOf ρ H w c = some L') : ∃ L cs el fr, ρ c = some L ∧ (H.get c).isSome = true ∧ w.heap[L.blk]? = some (.cells cs el fr) ∧ L' = ⟨L.blk, 0, false, 0, 0, some cs.toList⟩ := by
  unfold vwOf at h
  split at h
  · rename_i L _ _ _ h1 h2
    split at h
    · rename_i cs el fr h3
      injection h with h
      exact ⟨L, cs, el, fr, h1, by rw [h2]; rfl, h3, h.symm⟩
    · cases h
  · cases h
theorem fa_new {ρ : Ren} {w : World} {b : Nat} {L' : Loc} (hb : H.next ≤ b) (h : fa ρ H w b = some L') : ∃ c L cs el fr, c < H.next ∧ ρ c = some L ∧ (H.get c).isSome = true ∧ w.heap[L.blk]? = some (.cells cs el fr) ∧ L' = ⟨L.blk, 0, false, 0, 0, some cs.toList⟩ := by
  unfold fa at h
  rw [if_neg (by omega)] at h
  split at h
  · obtain ⟨L, cs, el, fr, h1⟩ := vwOf_some h
    exact ⟨b - H.next, L, cs, el, fr, by omega, h1⟩
  · cases h

mutual
theorem FzRel.rel {ρ : Ren} {w : World} (hR : HRel P ρ H w) : ∀ {p v v' : Value}, FzRel P H p v → VRel ρ v v' → VRel (fa ρ H w) p v'
  | _, _, _, .rfl, h => h.mono (fa_le hR)
  | _, _, v', .sl (es := es) (n := n) he hsl hs, h => by
    cases hsl with
    | nil => cases hs; rw [h.snone]; exact .fznil
    | void =>
      cases hs
      obtain ⟨a', c', rfl⟩ := h.sform
      exact .fzvoid
    | @row b off n c own el cs hg hb he' hc hl =>
      have hlen := hs.length
      rcases h.ssome with ⟨b1, off1, L, c', e1, e2, rfl, hor⟩ | ⟨_, rfl, _, a', c', rfl⟩
      rotate_left
      · simp only [Nat.zero_mul, List.take_zero] at hs
        cases hs; exact .fzvoid
      injection e1 with e1 e3
      subst e1; subst e3
      have hn : n ≤ c' := by
        rcases hor with ⟨q1, rfl⟩ | ⟨_, q, _⟩
        · rcases hc with q | q
          · exact absurd q q1
          · exact q.1
        · exact q
      obtain ⟨cs', fr, r1, r2, _⟩ := hR.rows b L own el cs e2 hg
      have hk : fa ρ H w (H.next + b) = some ⟨L.blk, 0, false, 0, 0, some cs'.toList⟩ := by
        unfold fa
        rw [if_neg (by omega), if_pos (by omega), Nat.add_sub_cancel_left]
        simp only [vwOf, e2, hg, r1]
      obtain ⟨q1, q2⟩ := VRels.of_cells (ρ := ρ) (cells := (cs.drop off).take (n * es)) (cs := cs'.toList) (o := L.base + off) (fun i v hv => by
        rw [List.getElem?_take] at hv
        split at hv
        · rw [List.getElem?_drop] at hv
          obtain ⟨v', s1, s2⟩ := r2 _ v hv
          exact ⟨v', by rw [Nat.add_assoc, Array.getElem?_toList]; exact s1, s2⟩
        · cases hv)
      have q3 := FzRels.rel hR hs q2
      rw [← hlen] at q3 q1
      rcases q1 with q1 | q1
      · have h0 : n = 0 := by
          have e : ((cs.drop off).take (n * es)).length = n * es := by rw [List.length_take, List.length_drop]; omega
          rw [q1] at e
          rcases Nat.mul_eq_zero.1 e.symm with e | e
          · exact e
          · omega
        subst h0
        simp only [Nat.zero_mul, List.take_zero] at hs
        cases hs; exact .fzvoid
      · have := VRel.fz (ρ := fa ρ H w) (off := L.base + off) (n := n) (c := c') (by exact hk) rfl hn (by simp only [Nat.zero_add]; exact q1) (by simp only [Nat.zero_add]; exact q3)
        simp only [Nat.zero_add] at this
        exact this
  | _, _, _, .agg hs, h => by
    obtain ⟨xs, rfl, h1⟩ := h.aggr
    exact .agg (FzRels.rel hR hs h1)
  | _, _, _, .tuple hs, h => by
    obtain ⟨xs, rfl, h1⟩ := h.tup
    exact .tuple (FzRels.rel hR hs h1)
theorem FzRels.rel {ρ : Ren} {w : World} (hR : HRel P ρ H w) : ∀ {ps vs vs' : List Value}, FzRels P H ps vs → VRels ρ vs vs' → VRels (fa ρ H w) ps vs'
  | _, _, _, .nil, .nil => .nil
  | _, _, _, .cons h hs, .cons k ks => .cons (FzRel.rel hR h k) (FzRels.rel hR hs ks)
end

/-! ### values without rows -/
/-- The frozen part of a renaming. -/
def Ren.fr (ρ : Ren) : Ren := fun b => match ρ b with
  | some L => if L.frz.isSome then some L else none
  | none => none
theorem Ren.fr_le (ρ : Ren) : Ren.le ρ.fr ρ := fun b L h => by
  unfold Ren.fr at h
  split at h
  · rename_i L' h1
    split at h
    · injection h with h; subst h; exact h1
    · cases h
  · cases h
theorem Ren.fr_some {ρ : Ren} {b : Nat} {L : Loc} (h : ρ.fr b = some L) : ρ b = some L ∧ L.frz.isSome = true := by
  have h1 := Ren.fr_le ρ b L h
  refine ⟨h1, ?_⟩
  unfold Ren.fr at h
  rw [h1] at h
  simp only at h
  split at h
  · assumption
  · cases h
theorem Ren.fr_of {ρ : Ren} {b : Nat} {L : Loc} (h : ρ b = some L) {cs : List Value} (hf : L.frz = some cs) : ρ.fr b = some L := by
  unfold Ren.fr; rw [h]; simp [hf]

mutual
/-- No address of the run's own rows is in it. -/
inductive Pu : Value → Prop
  | ground {v : Value} (h : ground v = true) : Pu v
  | fz {n : Nat} {cells : List Value} (h : Pus cells) : Pu (.iface fzT (.agg ⟨.int .i64 n :: cells⟩))
  | agg {cs : List Value} (h : Pus cs) : Pu (.agg ⟨cs⟩)
  | tuple {cs : List Value} (h : Pus cs) : Pu (.tuple ⟨cs⟩)
  | fn {f : Fn} {xs ys : List Value} (h1 : Pus xs) (h2 : Pus ys) : Pu (.func f ⟨xs⟩ ⟨ys⟩)
inductive Pus : List Value → Prop
  | nil : Pus []
  | cons {v : Value} {vs : List Value} (h : Pu v) (hs : Pus vs) : Pus (v :: vs)
end
mutual
theorem Pu.rel {ρ : Ren} : ∀ {v v' : Value}, Pu v → VRel ρ v v' → VRel ρ.fr v v'
  | _, _, .ground h, k => by rw [k.ground_eq h]; exact .ground h
  | _, _, .fz (n := n) (cells := cells) h, k => by
    rcases k.frozen with ⟨b, off, L, cs, c, h1, hf, hn, hb, hc, rfl⟩ | ⟨rfl, rfl, rfl⟩ | ⟨rfl, rfl, a, c, rfl⟩
    · exact .fz (Ren.fr_of h1 hf) hf hn hb (Pus.rel h hc)
    · exact .fznil
    · exact .fzvoid
  | _, _, .agg h, k => by
    obtain ⟨xs, rfl, h1⟩ := k.aggr
    exact .agg (Pus.rel h h1)
  | _, _, .tuple h, k => by
    obtain ⟨xs, rfl, h1⟩ := k.tup
    exact .tuple (Pus.rel h h1)
  | _, _, .fn h1 h2, k => by
    obtain ⟨xs, ys, rfl, k1, k2⟩ := k.func
    obtain ⟨xs⟩ := xs
    obtain ⟨ys⟩ := ys
    exact .fn (Pus.rel h1 k1) (Pus.rel h2 k2)
theorem Pus.rel {ρ : Ren} : ∀ {vs vs' : List Value}, Pus vs → VRels ρ vs vs' → VRels ρ.fr vs vs'
  | _, _, .nil, .nil => .nil
  | _, _, .cons h hs, .cons k ks => .cons (Pu.rel h k) (Pus.rel hs ks)
end
theorem Pus.of_all : ∀ {vs : List Value}, (∀ v ∈ vs, Pu v) → Pus vs
  | [], _ => .nil
  | v :: vs, h => .cons (h v (by simp)) (Pus.of_all fun u hu => h u (by simp [hu]))
theorem Pus.mem : ∀ {vs : List Value}, Pus vs → ∀ v ∈ vs, Pu v
  | _, .nil, v, h => by cases h
  | _, .cons h hs, v, hm => by
    cases hm with
    | head => exact h
    | tail _ hm => exact hs.mem v hm
theorem Pus.append {vs us : List Value} (h : Pus vs) (k : Pus us) : Pus (vs ++ us) := Pus.of_all fun v hv => by
  rcases List.mem_append.1 hv with hv | hv
  · exact h.mem v hv
  · exact k.mem v hv

/-! ### pure calls -/
/-- A function of values: called with values that no row is needed for it returns one. -/
def PK (P : Program) (g : FuncId) (ps : List Value) (k : Value → Prop) : Prop :=
  Pus ps ∧ ∀ n, 0 < n → ACalls P g ps (E0 n) fun v H' => ∃ r, FzRel P H' r v ∧ Pu r ∧ k r
def PC (P : Program) (g : FuncId) (ps : List Value) (r : Value) : Prop := PK P g ps fun x => x = r

theorem E0_rel {ρ : Ren} {w : World} {n : Nat} (h0 : 0 < n) (hd : ∀ b L, ρ b = some L → b < n) (hv : ρ 0 = none)
    (hf : ∀ b L cs, ρ b = some L → L.frz = some cs → L.own = false ∧ ∃ el fr, w.heap[L.blk]? = some (.cells ⟨cs⟩ el fr)) : HRel P ρ (E0 n) w where
  dom := hd
  rows := fun b L own el cells _ h => by rw [get_E0] at h; cases h
  maps := fun b L es clock _ h => by rw [get_E0] at h; cases h
  free := fun b _ => get_E0 n b
  void := ⟨hv, get_E0 n 0, h0⟩
  inj := fun b1 b2 L1 L2 o2 _ _ _ _ h _ => by rw [get_E0] at h; cases h
  frz := hf
  frinj := fun b1 b2 L1 L2 cs _ _ _ _ h => by rw [get_E0] at h; cases h

/-- The run of a pure call beside rows that it knows nothing of. -/
theorem PK.core {p : List Value} {k : Value → Prop} (h : PK P g p k) {ρ0 : Ren} {w : World} {n : Nat} (hR : HRel P ρ0 (E0 n) w) (h0 : ∀ b L, ρ0 b = some L → L.frz.isSome = true) {cargs : Array Value} (ha : VRels ρ0 p cargs.toList) :
    Calls P g cargs w fun e w' => ∃ r v' ρ2 m, e = .returned v' ∧ k r ∧ VRel ρ2 r v' ∧ n ≤ m ∧ (∀ b, b < n → ρ2 b = ρ0 b) ∧ (∀ b L, ρ2 b = some L → b < m ∧ L.frz.isSome = true ∧ L.own = false) ∧
      (∀ i, i < w.heap.size → w'.heap[i]? = w.heap[i]?) ∧ w.heap.size ≤ w'.heap.size ∧ w'.os = w.os ∧ w'.output = w.output ∧ w'.tape = w.tape ∧
      (∀ b L cs, ρ2 b = some L → L.frz = some cs → ∃ el fr, w'.heap[L.blk]? = some (.cells ⟨cs⟩ el fr)) ∧
      (∀ b L, ρ2 b = some L → (∃ b0 L0, ρ0 b0 = some L0 ∧ L0.blk = L.blk) ∨ w.heap.size ≤ L.blk) := by
  have hown : ∀ b L, ρ0 b = some L → L.own = false := fun b L hb => by
    have := h0 b L hb
    obtain ⟨cs, hcs⟩ := Option.isSome_iff_exists.1 this
    exact (hR.frz b L cs hb hcs).1
  refine ((h.2 n hR.void.2.2).2 ρ0 w cargs hR ha).mono ?_
  rintro e w' ⟨v, v', ρ1, H1, rfl, hE, hv, r, hf, hpu, hkr⟩
  have hn1 := hE.next
  rw [next_E0] at hn1
  have hv2 := hpu.rel (hf.rel hE.rel hv)
  refine ⟨r, v', fun b => if b < n then ρ0 b else (fa ρ1 H1 w').fr b, 2 * H1.next, rfl, hkr, hv2.mono ?_, by omega, fun b hb => if_pos hb, ?_, ?_, hE.size, hE.os, hE.output, hE.tape, ?_, ?_⟩
  · intro b L hb
    simp only
    split
    · rename_i hbn
      obtain ⟨h1, h2⟩ := Ren.fr_some hb
      unfold fa at h1
      rw [if_pos (by omega)] at h1
      cases h3 : ρ0 b with
      | none => rw [(hE.phant b hbn h3).1] at h1; cases h1
      | some L0 => rw [hE.le _ _ h3] at h1; exact h1
    · exact hb
  · intro b L hb
    simp only at hb
    split at hb
    · exact ⟨by omega, h0 b L hb, hown b L hb⟩
    · obtain ⟨h1, h2⟩ := Ren.fr_some hb
      refine ⟨?_, h2, ?_⟩
      · unfold fa at h1
        split at h1
        · omega
        · split at h1
          · assumption
          · cases h1
      · rcases Nat.lt_or_ge b H1.next with hlt | hge
        · unfold fa at h1
          rw [if_pos hlt] at h1
          obtain ⟨cs, hcs⟩ := Option.isSome_iff_exists.1 h2
          exact (hE.rel.frz b L cs h1 hcs).1
        · obtain ⟨c, L1, cs, el, fr, _, _, _, _, rfl⟩ := fa_new hge h1
          rfl
  · intro i hi
    exact hE.frame i hi (fun b L hb ho => by rw [hown b L hb] at ho; cases ho)
  · intro b L cs hb hcs
    simp only at hb
    split at hb
    · obtain ⟨_, el, fr, h1⟩ := hR.frz b L cs hb hcs
      exact ⟨el, fr, by rw [hE.frame _ (lt_of_heap h1) (fun b L hb ho => by rw [hown b L hb] at ho; cases ho)]; exact h1⟩
    · obtain ⟨h1, h2⟩ := Ren.fr_some hb
      rcases Nat.lt_or_ge b H1.next with hlt | hge
      · unfold fa at h1
        rw [if_pos hlt] at h1
        exact (hE.rel.frz b L cs h1 hcs).2
      · obtain ⟨c, L1, cs', el, fr, _, _, _, h3, rfl⟩ := fa_new hge h1
        injection hcs with hcs
        subst hcs
        exact ⟨el, fr, h3⟩
  · intro b L hb
    simp only at hb
    split at hb
    · exact .inl ⟨b, L, hb, rfl⟩
    · obtain ⟨h1, h2⟩ := Ren.fr_some hb
      rcases Nat.lt_or_ge b H1.next with hlt | hge
      · unfold fa at h1
        rw [if_pos hlt] at h1
        exact hE.blks b L h1
      · obtain ⟨c, L1, cs', el, fr, _, h4, _, h3, rfl⟩ := fa_new hge h1
        exact hE.blks c L1 h4

theorem PK.good {p : List Value} {k : Value → Prop} (h : PK P g p k) : goodFn P g := (h.2 1 Nat.one_pos).1

/-- A pure call beside rows: it answers, and leaves them. -/
theorem PK.use {p : List Value} {k : Value → Prop} (h : PK P g p k) (H : Heap) : ACalls P g p H fun v H' => k v ∧ ∃ n, H.next ≤ n ∧ H' = H.bump n := by
  refine ⟨h.good, fun ρ w cargs hR ha => ?_⟩
  have hf : ∀ b L cs, ρ.fr b = some L → L.frz = some cs → L.own = false ∧ ∃ el fr, w.heap[L.blk]? = some (.cells ⟨cs⟩ el fr) := fun b L cs hb hcs => hR.frz b L cs (Ren.fr_le ρ b L hb) hcs
  have hR0 : HRel P ρ.fr (E0 H.next) w := E0_rel hR.void.2.2 (fun b L hb => hR.dom b L (Ren.fr_le ρ b L hb)) (by
    cases hb : ρ.fr 0 with
    | none => rfl
    | some L => have := Ren.fr_le ρ 0 L hb; rw [hR.void.1] at this; cases this) hf
  refine (h.core hR0 (fun b L hb => (Ren.fr_some hb).2) (h.1.rel ha)).mono ?_
  rintro e w' ⟨r, v', ρ2, m, rfl, hkr, hv, hm, h1, h2, h3, h4, h5, h6, h7, h8, h9⟩
  have hle : Ren.le ρ (fun b => if b < H.next then ρ b else ρ2 b) := fun b L hb => by show (if _ then _ else _) = _; rw [if_pos (hR.dom b L hb)]; exact hb
  have hlt : ∀ b o, H.get b = some o → b < H.next := fun b o hb => by
    rcases Nat.lt_or_ge b H.next with h | h
    · exact h
    · rw [hR.free b h] at hb; cases hb
  refine ⟨r, v', fun b => if b < H.next then ρ b else ρ2 b, H.bump m, rfl, ⟨hle, ?_, hm, h4, ?_, ?_, h5, h6, h7, ⟨?_, ?_, ?_, ?_, ?_, ?_, ?_, ?_⟩, ?_⟩, hv.mono ?_, hkr, m, hm, rfl⟩
  · intro b hb hn
    exact ⟨by show (if _ then _ else _) = _; rw [if_pos hb]; exact hn, rfl⟩
  · intro b L hb ho
    try simp only at hb
    split at hb
    · exact .inl ⟨b, L, hb, ho, rfl⟩
    · rw [(h2 b L hb).2.2] at ho; cases ho
  · intro i hi _; exact h3 i hi
  · intro b L hb
    try simp only at hb
    split at hb
    · have := hR.dom b L hb; rw [next_bump]; omega
    · exact (h2 b L hb).1
  · intro b L own el cells hb hg
    rw [get_bump] at hg
    try simp only at hb
    rw [if_pos (hlt b _ hg)] at hb
    obtain ⟨cs, fr, k1, k2, k3⟩ := hR.rows b L own el cells hb hg
    refine ⟨cs, fr, by rw [h3 _ (lt_of_heap k1)]; exact k1, fun i v hv => ?_, k3⟩
    obtain ⟨v', q1, q2⟩ := k2 i v hv
    exact ⟨v', q1, q2.mono hle⟩
  · intro b L es clock hb hg
    rw [get_bump] at hg
    try simp only at hb
    rw [if_pos (hlt b _ hg)] at hb
    obtain ⟨es', k1, k2, k3, k4, k5⟩ := hR.maps b L es clock hb hg
    refine ⟨es', by rw [h3 _ (lt_of_heap k1)]; exact k1, k2, k3, k4, fun i x hx => ?_⟩
    obtain ⟨x', s1, s2, s3, s4, s5⟩ := k5 i x hx
    exact ⟨x', s1, s2, s3, s4, s5.mono hle⟩
  · intro b hb
    rw [next_bump] at hb
    rw [get_bump]; exact hR.free b (by omega)
  · obtain ⟨q1, q2, q3⟩ := hR.void
    exact ⟨by show (if _ then _ else _) = _; rw [if_pos q3]; exact q1, q2, by rw [next_bump]; omega⟩
  · intro b1 b2 L1 L2 o2 hne e1 e2 g1 g1' g2
    rw [get_bump] at g1' g2
    obtain ⟨o1, ho1⟩ := Option.isSome_iff_exists.1 g1'
    try simp only at e1 e2
    rw [if_pos (hlt b1 _ ho1)] at e1
    rw [if_pos (hlt b2 _ g2)] at e2
    exact hR.inj b1 b2 L1 L2 o2 hne e1 e2 g1 g1' g2
  · intro b L cs hb hcs
    try simp only at hb
    split at hb
    · obtain ⟨q1, el, fr, q2⟩ := hR.frz b L cs hb hcs
      exact ⟨q1, el, fr, by rw [h3 _ (lt_of_heap q2)]; exact q2⟩
    · exact ⟨(h2 b L hb).2.2, h8 b L cs hb hcs⟩
  · intro b1 b2 L1 L2 cs e1 e2 hcs g1 g1'
    rw [get_bump] at g1'
    obtain ⟨o1, ho1⟩ := Option.isSome_iff_exists.1 g1'
    try simp only at e1 e2
    rw [if_pos (hlt b1 _ ho1)] at e1
    split at e2
    · exact hR.frinj b1 b2 L1 L2 cs e1 e2 hcs g1 g1'
    · rcases h9 b2 L2 e2 with ⟨b0, L0, q1, q2⟩ | q
      · obtain ⟨q3, q4⟩ := Ren.fr_some q1
        obtain ⟨cs0, hcs0⟩ := Option.isSome_iff_exists.1 q4
        rw [← q2]
        exact hR.frinj b1 b0 L1 L0 cs0 e1 q3 hcs0 g1 g1'
      · have := hR.lt' e1 g1'
        omega
  · intro b L hb
    try simp only at hb
    split at hb
    · exact .inl ⟨b, L, hb, rfl⟩
    · rcases h9 b L hb with ⟨b0, L0, q1, q2⟩ | q
      · exact .inl ⟨b0, L0, Ren.fr_le ρ b0 L0 q1, q2⟩
      · exact .inr q
  · intro b L hb
    show (if _ then _ else _) = _
    split
    · rename_i hbn
      rw [h1 b hbn] at hb
      exact Ren.fr_le ρ b L hb
    · exact hb

/-- A pure call whose answer holds no address may look at the rows: they stay. -/
theorem PK.look {p as : List Value} {k : Value → Prop} (h : PK P g p k) (hr : ∀ r, k r → ground r = true) {H : Heap} (ha : FzRels P H p as) : ACalls P g as H fun v H' => k v ∧ H' = H := by
  refine ⟨h.good, fun ρ w cargs hR hv => ?_⟩
  have hsome : ∀ b L, (fa ρ H w).fr b = some L → b < 2 * H.next := fun b L hb => by
    have := Ren.fr_le _ b L hb
    unfold fa at this
    split at this
    · omega
    · split at this
      · assumption
      · cases this
  have hf : ∀ b L cs, (fa ρ H w).fr b = some L → L.frz = some cs → L.own = false ∧ ∃ el fr, w.heap[L.blk]? = some (.cells ⟨cs⟩ el fr) := fun b L cs hb hcs => by
    have h1 := Ren.fr_le _ b L hb
    rcases Nat.lt_or_ge b H.next with hlt | hge
    · unfold fa at h1
      rw [if_pos hlt] at h1
      exact hR.frz b L cs h1 hcs
    · obtain ⟨c, L1, cs', el, fr, _, _, _, h3, rfl⟩ := fa_new hge h1
      injection hcs with hcs
      subst hcs
      exact ⟨rfl, el, fr, h3⟩
  have hpos := hR.void.2.2
  have hR0 : HRel P (fa ρ H w).fr (E0 (2 * H.next)) w := E0_rel (by omega) hsome (by
    cases hb : (fa ρ H w).fr 0 with
    | none => rfl
    | some L =>
      have := Ren.fr_le _ 0 L hb
      unfold fa at this
      rw [if_pos hpos, hR.void.1] at this; cases this) hf
  refine (h.core hR0 (fun b L hb => (Ren.fr_some hb).2) (h.1.rel (ha.rel hR hv))).mono ?_
  rintro e w' ⟨r, v', ρ2, m, rfl, hkr, hv, hm, h1, h2, h3, h4, h5, h6, h7, h8, h9⟩
  have hr := hr r hkr
  have hv' : v' = r := hv.ground_eq hr
  refine ⟨r, v', ρ, H, rfl, ⟨Ren.le.rfl, fun _ _ h => ⟨h, rfl⟩, Nat.le_refl _, h4, fun b L k1 k2 => .inl ⟨b, L, k1, k2, rfl⟩, fun i hi _ => h3 i hi, h5, h6, h7, ⟨hR.dom, ?_, ?_, hR.free, hR.void, hR.inj, ?_, hR.frinj⟩, fun b L k => .inl ⟨b, L, k, rfl⟩⟩, by rw [hv']; exact .ground hr, hkr, rfl⟩
  · intro b L own el cells hb hg
    obtain ⟨cs, fr, k1, k2⟩ := hR.rows b L own el cells hb hg
    exact ⟨cs, fr, by rw [h3 _ (lt_of_heap k1)]; exact k1, k2⟩
  · intro b L es cl hb hg
    obtain ⟨es', k1, k2⟩ := hR.maps b L es cl hb hg
    exact ⟨es', by rw [h3 _ (lt_of_heap k1)]; exact k1, k2⟩
  · intro b L cs hb hcs
    obtain ⟨q1, el, fr, q2⟩ := hR.frz b L cs hb hcs
    exact ⟨q1, el, fr, by rw [h3 _ (lt_of_heap q2)]; exact q2⟩
end Go.Abs
