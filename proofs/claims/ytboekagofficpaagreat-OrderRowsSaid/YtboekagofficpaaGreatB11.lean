/- A call that looks at rows, and whose answer lies in rows of its own. -/
import Derived.Test.YtboekagofficpaaGreatO0
set_option linter.unusedVariables false
set_option linter.unusedSimpArgs false
namespace Go.Abs
open Go
set_option maxHeartbeats 4000000
variable {P : Program} {H H' H0 : Heap} {g : FuncId}
mutual
/-- The value, told without rows: of the run's own rows, of values without addresses. -/
inductive FzN (P : Program) (H : Heap) : Value → Value → Prop
  | ground {v : Value} (h : ground v = true) : FzN P H v v
  | nil : FzN P H (fzv 0 []) (.slice none 0 0)
  | own {es n : Nat} {el : TypeId} {H0 : Heap} {v : Value} {vs : List Value} (he : 0 < es) (hs : szOf P el = es) (h : Ow P H0 H es el v n vs) (hv : ∀ x ∈ vs, Go.Abs.ground x = true) : FzN P H (fzv n vs) v
  | tuple {ps vs : List Value} (h : FzNs P H ps vs) : FzN P H (.tuple ⟨ps⟩) (.tuple ⟨vs⟩)
inductive FzNs (P : Program) (H : Heap) : List Value → List Value → Prop
  | nil : FzNs P H [] []
  | cons {p v : Value} {ps vs : List Value} (h : FzN P H p v) (hs : FzNs P H ps vs) : FzNs P H (p :: ps) (v :: vs)
end
mutual
theorem FzN.fz : ∀ {p v : Value}, FzN P H p v → FzRel P H p v
  | _, _, .ground _ => .rfl
  | _, _, .nil => .sl (es := 1) Nat.one_pos .nil .nil
  | _, _, .own he hs h _ => .sl he (Ow.toSl h hs) .refl
  | _, _, .tuple h => .tuple (FzNs.fz h)
theorem FzNs.fz : ∀ {ps vs : List Value}, FzNs P H ps vs → FzRels P H ps vs
  | _, _, .nil => .nil
  | _, _, .cons h hs => .cons (FzN.fz h) (FzNs.fz hs)
end
mutual
theorem FzN.pu : ∀ {p v : Value}, FzN P H p v → Pu p
  | _, _, .ground h => .ground h
  | _, _, .nil => .fz .nil
  | _, _, .own _ _ _ hv => .fz (.of_all fun x hx => .ground (hv x hx))
  | _, _, .tuple h => .tuple (FzNs.pu h)
theorem FzNs.pu : ∀ {ps vs : List Value}, FzNs P H ps vs → Pus ps
  | _, _, .nil => .nil
  | _, _, .cons h hs => .cons (FzN.pu h) (FzNs.pu hs)
end
/-- The names of what the run laid, frozen. -/
def nwR (ρ : Ren) (w : World) (c : Nat) : Option Loc :=
  match ρ c with
  | some L => if L.own = true then match w.heap[L.blk]? with
    | some (.cells cs _ _) => some ⟨L.blk, 0, false, 0, 0, some cs.toList⟩
    | _ => none else none
  | none => none
theorem nwR_some {ρ : Ren} {w : World} {c : Nat} {L' : Loc} (h : nwR ρ w c = some L') : ∃ L cs el fr, ρ c = some L ∧ L.own = true ∧ w.heap[L.blk]? = some (.cells cs el fr) ∧ L' = ⟨L.blk, 0, false, 0, 0, some cs.toList⟩ := by
  unfold nwR at h
  split at h
  · rename_i L h1
    split at h
    · rename_i h2
      split at h
      · rename_i cs el fr h3
        injection h with h
        exact ⟨L, cs, el, fr, h1, h2, h3, h.symm⟩
      · cases h
    · cases h
  · cases h
theorem Vds.of_ground : ∀ {vs : List Value}, (∀ x ∈ vs, ground x = true) → Vds vs
  | [], _ => .nil
  | v :: vs, h => .cons (.ground (h v (List.Mem.head _))) (Vds.of_ground fun x hx => h x (List.Mem.tail _ hx))
mutual
theorem FzN.rel {ρ ρ' : Ren} {w : World} {N : Nat} (hR : HRel P ρ H w) (hn : ∀ c, c < H.next → ρ' (N + c) = nwR ρ w c) : ∀ {p v v' : Value}, FzN P H p v → VRel ρ v v' → VRel ρ' p v'
  | _, _, _, .ground h, k => by rw [k.ground_eq h]; exact .ground h
  | _, _, _, .nil, k => by rw [k.snone]; exact .fznil
  | _, _, _, .tuple h, k => by
    obtain ⟨xs, rfl, h1⟩ := k.tup
    exact .tuple (FzNs.rel hR hn h h1)
  | _, _, v', .own (es := es) (n := n) he hs h hv, k => by
    cases h with
    | nil => rw [k.snone]; exact .fznil
    | @row b off n c cells hg hb0 hb hc hl =>
      rcases k.ssome with ⟨b1, off1, L, c', e1, e2, rfl, hor⟩ | ⟨e1, rfl, _⟩
      rotate_left
      · injection e1 with e1
        subst e1
        rw [hR.void.2.1] at hg; cases hg
      injection e1 with e1 e3
      subst e1; subst e3
      obtain ⟨cs, fr, q1, q2, q3, q4⟩ := hR.rows _ _ _ _ _ e2 hg
      have hnm : ρ' (N + b) = some ⟨L.blk, 0, false, 0, 0, some cs.toList⟩ := by
        rw [hn b hb]
        unfold nwR
        rw [e2]
        dsimp only
        rw [if_pos q3, q1]
      have hn' : n ≤ c' := by
        rcases hor with ⟨p1, rfl⟩ | ⟨_, p, _⟩
        · rcases hc with hc | hc
          · exact absurd hc p1
          · exact hc.1
        · exact p
      have hlen : ((cells.drop off).take (n * es)).length = n * es := by rw [List.length_take, List.length_drop]; omega
      obtain ⟨p1, p2⟩ := VRels.of_cells (ρ := ρ) (cells := (cells.drop off).take (n * es)) (cs := cs.toList) (o := L.base + off) (fun i v hv => by
        rw [List.getElem?_take] at hv
        split at hv
        · rw [List.getElem?_drop] at hv
          obtain ⟨v', s1, s2⟩ := q2 _ v hv
          exact ⟨v', by rw [Nat.add_assoc]; simpa using s1, s2⟩
        · cases hv)
      have p3 := Vds.rel (ρ' := ρ') (Vds.of_ground hv) p2
      rcases Nat.eq_zero_or_pos n with rfl | h0
      · rw [Nat.zero_mul, List.take_zero]; exact .fzvoid
      · have hk0 : 0 < n * es := Nat.mul_pos h0 he
        have hq : L.base + off + n * es ≤ cs.toList.length := by
          rcases p1 with p1 | p1
          · rw [p1] at hlen; simp at hlen; omega
          · rw [hlen] at p1; exact p1
        have := VRel.fz (ρ := ρ') (b := N + b) (off := L.base + off) (n := n) (c := c') (cells := (cells.drop off).take (n * es)) hnm rfl hn' (by dsimp only; rw [hlen]; omega) (by dsimp only; rw [Nat.zero_add]; exact p3)
        dsimp only at this
        rw [Nat.zero_add] at this
        exact this
theorem FzNs.rel {ρ ρ' : Ren} {w : World} {N : Nat} (hR : HRel P ρ H w) (hn : ∀ c, c < H.next → ρ' (N + c) = nwR ρ w c) : ∀ {ps vs vs' : List Value}, FzNs P H ps vs → VRels ρ vs vs' → VRels ρ' ps vs'
  | _, _, _, .nil, k => by cases k; exact .nil
  | _, _, _, .cons h hs, k => by cases k with | cons k ks => exact .cons (FzN.rel hR hn h k) (FzNs.rel hR hn hs ks)
end
def PN (P : Program) (g : FuncId) (ps : List Value) (r : Value) : Prop := Pus ps ∧ ∀ n, 0 < n → ACalls P g ps (E0 n) fun v H' => FzN P H' r v
theorem PN.pc {ps : List Value} {r : Value} (h : PN P g ps r) (hr : Pu r) : PC P g ps r := PC.of h.1 hr fun n hn => (h.2 n hn).mono fun _ _ k => k.fz
/-- It may look at rows: they stay, and the answer is told beside. -/
theorem PN.look {ps us : List Value} {r : Value} (h : PN P g ps r) {H : Heap} (ha : FzRels P H ps us) : ACalls P g us H fun v H' => v = r ∧ ∃ m, H.next ≤ m ∧ H' = H.bump m := by
  refine ⟨(h.2 1 Nat.one_pos).1, fun ρ w cargs hR hP hv => ?_⟩
  have hsome : ∀ b L, (fa ρ H w).fr b = some L → b < 2 * H.next := fun b L hb => by
    have := Ren.fr_le _ b L hb
    unfold fa at this
    split at this
    · omega
    · split at this
      · assumption
      · cases this
  have hf : ∀ b L cs, (fa ρ H w).fr b = some L → L.frz = some cs → L.own = false ∧ ∃ el fr, w.heap[L.blk]? = some (.cells ⟨cs⟩ el fr) := fun b L cs hb hcs => by
    have h1 := Ren.fr_le _ b L hb
    rcases Nat.lt_or_ge b H.next with hlt | hge
    · unfold fa at h1
      rw [if_pos hlt] at h1
      exact hR.frz b L cs h1 hcs
    · obtain ⟨c, L1, cs', el, fr, _, _, _, h3, rfl⟩ := fa_new hge h1
      injection hcs with hcs
      subst hcs
      exact ⟨rfl, el, fr, h3⟩
  have hpos := hR.void.2.2
  have hR0 : HRel P (fa ρ H w).fr (E0 (2 * H.next)) w := E0_rel (by omega) hsome (by
    cases hb : (fa ρ H w).fr 0 with
    | none => rfl
    | some L =>
      have := Ren.fr_le _ 0 L hb
      unfold fa at this
      rw [if_pos hpos, hR.void.1] at this; cases this) hf (fun b L hb => by
    obtain ⟨hb1, hfz⟩ := Ren.fr_some hb
    obtain ⟨cs, hcs⟩ := Option.isSome_iff_exists.1 hfz
    obtain ⟨_, el, fr, q⟩ := hf b L cs hb hcs
    exact lt_of_heap q)
  have hown : ∀ b L, (fa ρ H w).fr b = some L → L.own = false := fun b L hb => by
    obtain ⟨cs, hcs⟩ := Option.isSome_iff_exists.1 (Ren.fr_some hb).2
    exact (hf b L cs hb hcs).1
  refine ((h.2 (2 * H.next) (by omega)).2 _ w cargs hR0 Pins.nil (h.1.rel (ha.rel hR hv))).mono ?_
  rintro e w' ⟨v, v', ρ1, H1, rfl, hE, _, hv1, hfz⟩
  have h3 : ∀ i, i < w.heap.size → w'.heap[i]? = w.heap[i]? := fun i hi => hE.frame i hi (fun b L hb ho => by rw [hown b L hb] at ho; cases ho)
  have hnew : ∀ c L', nwR ρ1 w' c = some L' → c < H1.next ∧ L'.own = false ∧ w.heap.size ≤ L'.blk ∧ ∃ cs el fr, L'.frz = some cs ∧ w'.heap[L'.blk]? = some (.cells ⟨cs⟩ el fr) := fun c L' hc => by
    obtain ⟨L, cs, el, fr, k1, k2, k3, rfl⟩ := nwR_some hc
    refine ⟨hE.rel.dom c L k1, rfl, ?_, cs.toList, el, fr, rfl, k3⟩
    rcases hE.own c L k1 k2 with ⟨b0, L0, q1, q2, _⟩ | q
    · rw [hown b0 L0 q1] at q2; cases q2
    · exact q
  have hlt : ∀ b o, H.get b = some o → b < H.next := fun b o hb => by
    rcases Nat.lt_or_ge b H.next with h | h
    · exact h
    · rw [hR.free b h] at hb; cases hb
  have hle : Ren.le ρ (fun b => if b < H.next then ρ b else nwR ρ1 w' (b - H.next)) := fun b L hb => by show (if _ then _ else _) = _; rw [if_pos (hR.dom b L hb)]; exact hb
  refine ⟨r, v', fun b => if b < H.next then ρ b else nwR ρ1 w' (b - H.next), H.bump (H.next + H1.next), rfl, ⟨hle, ?_, by rw [next_bump]; omega, hE.size, ?_, ?_, hE.os, hE.output, hE.tape, ⟨?_, ?_, ?_, ?_, ?_, ?_, ?_, ?_, fun b L hb => by
    try simp only at hb
    split at hb
    · exact Nat.lt_of_lt_of_le (hR.bnd b L hb) hE.size
    · obtain ⟨_, _, _, cs, el, fr, _, q⟩ := hnew _ L hb
      exact lt_of_heap q⟩, ?_⟩, rfl, FzN.rel (N := H.next) hE.rel (fun c hc => by show (if _ then _ else _) = _; rw [if_neg (by omega), Nat.add_sub_cancel_left]) hfz hv1, rfl, _, by omega, rfl⟩
  · intro b hb hn
    exact ⟨by show (if _ then _ else _) = _; rw [if_pos hb]; exact hn, rfl⟩
  · intro b L hb ho
    try simp only at hb
    split at hb
    · exact .inl ⟨b, L, hb, ho, rfl⟩
    · rw [(hnew _ L hb).2.1] at ho; cases ho
  · intro i hi _; exact h3 i hi
  · intro b L hb
    try simp only at hb
    split at hb
    · have := hR.dom b L hb; rw [next_bump]; omega
    · have := (hnew _ L hb).1; rw [next_bump]; omega
  · intro b L own el cells hb hg
    rw [get_bump] at hg
    try simp only at hb
    rw [if_pos (hlt b _ hg)] at hb
    obtain ⟨cs, fr, k1, k2, k3⟩ := hR.rows b L own el cells hb hg
    refine ⟨cs, fr, by rw [h3 _ (lt_of_heap k1)]; exact k1, fun i v hv => ?_, k3⟩
    obtain ⟨v', q1, q2⟩ := k2 i v hv
    exact ⟨v', q1, q2.mono hle⟩
  · intro b L es clock hb hg
    rw [get_bump] at hg
    try simp only at hb
    rw [if_pos (hlt b _ hg)] at hb
    obtain ⟨es', k1, k2, k3, k4, k5⟩ := hR.maps b L es clock hb hg
    refine ⟨es', by rw [h3 _ (lt_of_heap k1)]; exact k1, k2, k3, k4, fun i x hx => ?_⟩
    obtain ⟨x', s1, s2, s3, s4, s5⟩ := k5 i x hx
    exact ⟨x', s1, s2, s3, s4, s5.mono hle⟩
  · intro b hb
    rw [next_bump] at hb
    rw [get_bump]; exact hR.free b (by omega)
  · obtain ⟨q1, q2, q3⟩ := hR.void
    exact ⟨by show (if _ then _ else _) = _; rw [if_pos q3]; exact q1, q2, by rw [next_bump]; omega⟩
  · intro b1 b2 L1 L2 o2 hne e1 e2 g1 g1' g2
    rw [get_bump] at g1' g2
    obtain ⟨o1, ho1⟩ := Option.isSome_iff_exists.1 g1'
    try simp only at e1 e2
    rw [if_pos (hlt b1 _ ho1)] at e1
    rw [if_pos (hlt b2 _ g2)] at e2
    exact hR.inj b1 b2 L1 L2 o2 hne e1 e2 g1 g1' g2
  · intro b L cs hb hcs
    try simp only at hb
    split at hb
    · obtain ⟨q1, el, fr, q2⟩ := hR.frz b L cs hb hcs
      exact ⟨q1, el, fr, by rw [h3 _ (lt_of_heap q2)]; exact q2⟩
    · obtain ⟨_, q1, _, cs', el, fr, q2, q3⟩ := hnew _ L hb
      rw [q2] at hcs
      injection hcs with hcs
      subst hcs
      exact ⟨q1, el, fr, q3⟩
  · intro b1 b2 L1 L2 cs e1 e2 hcs g1 g1'
    rw [get_bump] at g1'
    obtain ⟨o1, ho1⟩ := Option.isSome_iff_exists.1 g1'
    try simp only at e1 e2
    rw [if_pos (hlt b1 _ ho1)] at e1
    split at e2
    · exact hR.frinj b1 b2 L1 L2 cs e1 e2 hcs g1 g1'
    · have := (hnew _ L2 e2).2.2.1
      have := hR.lt' e1 g1'
      omega
  · intro b L hb
    try simp only at hb
    split at hb
    · exact .inl ⟨b, L, hb, rfl⟩
    · exact .inr (hnew _ L hb).2.2.1
end Go.Abs
