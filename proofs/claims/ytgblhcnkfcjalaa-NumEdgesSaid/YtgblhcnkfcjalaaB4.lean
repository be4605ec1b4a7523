/- Pure calls: frozen values, what a call of them leaves, what may be forgotten. -/
import Derived.Test.YtgblhcnkfcjalaaB3
set_option linter.unusedVariables false
set_option linter.unusedSimpArgs false
namespace Go.Abs
open Go

/-! ### the heap without rows -/
def Heap.bump (H : Heap) (n : Nat) : Heap := ⟨n, H.tr⟩
theorem get_bump (H : Heap) (n b : Nat) : (H.bump n).get b = H.get b := _root_.id rfl
theorem next_bump (H : Heap) (n : Nat) : (H.bump n).next = n := _root_.id rfl
def E0 (n : Nat) : Heap := ⟨n, .nil⟩
theorem get_E0 (n b : Nat) : (E0 n).get b = none := Tr.get_nil b
theorem next_E0 (n : Nat) : (E0 n).next = n := _root_.id rfl

/-! ### ghost steps -/
/-- The same values, of the same machine, told in another way. -/
def Gh (P : Program) (vs : List Value) (H : Heap) (vs' : List Value) (H' : Heap) : Prop :=
  ∀ (ρ : Ren) (w : World) (cs : List Value), HRel P ρ H w → VRels ρ vs cs → ∃ ρ', Ext P ρ H w ρ' H' w ∧ VRels ρ' vs' cs

variable {P : Program} {H H' H1 : Heap} {vs vs' us : List Value} {v v' : Value} {g : FuncId} {args args' : List Value} {K : Value → Heap → Prop}

theorem Gh.refl : Gh P vs H vs H := fun ρ w cs hR hv => ⟨ρ, Ext.refl hR, hv⟩
theorem Gh.trans (h : Gh P vs H vs' H') (k : Gh P vs' H' us H1) : Gh P vs H us H1 := fun ρ w cs hR hv => by
  obtain ⟨ρ1, h1, h2⟩ := h ρ w cs hR hv
  obtain ⟨ρ2, k1, k2⟩ := k ρ1 w cs h1.rel h2
  exact ⟨ρ2, h1.trans k1, k2⟩
theorem Gh.head (h : Gh P [v] H [v'] H') : Gh P (v :: vs) H (v' :: vs) H' := fun ρ w cs hR hv => by
  cases hv with
  | cons h1 h2 =>
    obtain ⟨ρ1, k1, k2⟩ := h ρ w _ hR (.cons h1 .nil)
    cases k2 with
    | cons k2 _ => exact ⟨ρ1, k1, .cons k2 (h2.mono k1.le)⟩
theorem Gh.tail (h : Gh P vs H vs' H') : Gh P (v :: vs) H (v :: vs') H' := fun ρ w cs hR hv => by
  cases hv with
  | cons h1 h2 =>
    obtain ⟨ρ1, k1, k2⟩ := h ρ w _ hR h2
    exact ⟨ρ1, k1, .cons (h1.mono k1.le) k2⟩
theorem Gh.agg (h : Gh P vs H vs' H') : Gh P [.agg ⟨vs⟩] H [.agg ⟨vs'⟩] H' := fun ρ w cs hR hv => by
  cases hv with
  | cons h1 h2 =>
    cases h2
    obtain ⟨xs, rfl, h3⟩ := h1.aggr
    obtain ⟨ρ1, k1, k2⟩ := h ρ w _ hR h3
    exact ⟨ρ1, k1, .cons (.agg k2) .nil⟩

theorem ACalls.gh (hg : Gh P args H args' H') (h : ACalls P g args' H' K) : ACalls P g args H K :=
  ⟨h.1, fun ρ w cargs hR ha => by
    obtain ⟨ρ1, hE, hv⟩ := hg ρ w cargs.toList hR ha
    refine (h.2 ρ1 w cargs hE.rel hv).mono ?_
    rintro e w' ⟨v, v', ρ2, H2, rfl, hE2, hv2, hk⟩
    exact ⟨v, v', ρ2, H2, rfl, hE.trans hE2, hv2, hk⟩⟩
theorem ACalls.ghRes (h : ACalls P g args H fun v H' => ∃ v' H'', Gh P [v] H' [v'] H'' ∧ K v' H'') : ACalls P g args H K :=
  ⟨h.1, fun ρ w cargs hR ha => by
    refine (h.2 ρ w cargs hR ha).mono ?_
    rintro e w' ⟨v, v', ρ2, H2, rfl, hE2, hv2, u, H3, hg, hk⟩
    obtain ⟨ρ3, hE3, hv3⟩ := hg ρ2 w' [v'] hE2.rel (.cons hv2 .nil)
    cases hv3 with
    | cons hv3 _ => exact ⟨u, v', ρ3, H3, rfl, hE2.trans hE3, hv3, hk⟩⟩

/-- A row is frozen: it is the run's own no more. -/
theorem Ext.freeze {ρ : Ren} {w : World} (h : HRel P ρ H w) {b : Nat} {L : Loc} {own : Bool} {el : TypeId} {cells : List Value} (hb : ρ b = some L) (hg : H.get b = some (.row own el cells))
    (hn : H'.next = H.next + 1) (hsub : ∀ c, c ≠ b → H'.get c = H.get c) (hown : (own = false ∧ H'.get b = H.get b) ∨ H'.get b = none) :
    ∃ cs : List Value, Ext P ρ H w (ρ.add H.next ⟨L.blk, 0, false, 0, 0, some cs⟩) H' w ∧ (∀ (i : Nat) (v : Value), cells[i]? = some v → ∃ v', cs[L.base + i]? = some v' ∧ VRel ρ v v') := by
  obtain ⟨cs, fr, h1, h2, h3, h4⟩ := h.rows b L own el cells hb hg
  have hle := h.le_add ⟨L.blk, 0, false, 0, 0, some cs.toList⟩
  have hbn := h.dom b L hb
  have hsome : ∀ c o, H'.get c = some o → H.get c = some o := by
    intro c o hc
    by_cases e : c = b
    · subst e
      rcases hown with ⟨_, e⟩ | e
      · rw [← e]; exact hc
      · rw [e] at hc; cases hc
    · rw [← hsub c e]; exact hc
  refine ⟨cs.toList, ⟨hle, ?_, by omega, Nat.le_refl _, ?_, fun _ _ _ => rfl, rfl, rfl, rfl, ⟨?_, ?_, ?_, ?_, ?_, ?_, ?_, ?_⟩, ?_⟩, fun i v hv => by
    obtain ⟨v', k1, k2⟩ := h2 i v hv
    exact ⟨v', by rw [← k1]; simp, k2⟩⟩
  · intro c hc hcn
    refine ⟨by simp only [Ren.add]; rw [if_neg (by omega)]; exact hcn, hsub c ?_⟩
    intro e; subst e; rw [hb] at hcn; cases hcn
  · intro c L' hc ho
    simp only [Ren.add] at hc
    split at hc
    · injection hc with hc; subst hc; cases ho
    · exact .inl ⟨c, L', hc, ho, rfl⟩
  · intro c L' hc
    simp only [Ren.add] at hc
    split at hc
    · omega
    · have := h.dom c L' hc; omega
  · intro c L' own' el' ce hc hgc
    have hgc := hsome _ _ hgc
    simp only [Ren.add] at hc
    split at hc
    · rename_i e; subst e; rw [h.free _ (Nat.le_refl _)] at hgc; cases hgc
    · obtain ⟨cs', fr', q1, q2, q3⟩ := h.rows c L' own' el' ce hc hgc
      refine ⟨cs', fr', q1, fun i v hv => ?_, q3⟩
      obtain ⟨v', k1, k2⟩ := q2 i v hv
      exact ⟨v', k1, k2.mono hle⟩
  · intro c L' es cl hc hgc
    have hgc := hsome _ _ hgc
    simp only [Ren.add] at hc
    split at hc
    · rename_i e; subst e; rw [h.free _ (Nat.le_refl _)] at hgc; cases hgc
    · obtain ⟨es', q1, q2, q3, q4, q5⟩ := h.maps c L' es cl hc hgc
      refine ⟨es', q1, q2, q3, q4, fun i x hx => ?_⟩
      obtain ⟨x', s1, s2, s3, s4, s5⟩ := q5 i x hx
      exact ⟨x', s1, s2, s3, s4, s5.mono hle⟩
  · intro c hc
    rw [hsub c (by omega)]
    exact h.free c (by omega)
  · obtain ⟨v1, v2, v3⟩ := h.void
    refine ⟨by simp only [Ren.add]; rw [if_neg (by omega)]; exact v1, ?_, by omega⟩
    rw [hsub 0 (fun e => by subst e; rw [hb] at v1; cases v1)]; exact v2
  · intro b1 b2 L1 L2 o2 hne e1 e2 g1 g1' g2
    obtain ⟨o1, ho1⟩ := Option.isSome_iff_exists.1 g1'
    have k1 := hsome _ _ ho1
    have k2 := hsome _ _ g2
    simp only [Ren.add] at e1 e2
    split at e1
    · rename_i e; subst e; rw [h.free _ (Nat.le_refl _)] at k1; cases k1
    split at e2
    · rename_i e; subst e; rw [h.free _ (Nat.le_refl _)] at k2; cases k2
    exact h.inj b1 b2 L1 L2 o2 hne e1 e2 (fun e c hh => g1 e c (by rw [ho1]; rw [k1] at hh; exact hh)) (by rw [k1]; rfl) k2
  · intro c L' fs hc hf
    simp only [Ren.add] at hc
    split at hc
    · injection hc with hc; subst hc
      injection hf with hf; subst hf
      exact ⟨rfl, el, fr, h1⟩
    · exact h.frz c L' fs hc hf
  · intro b1 b2 L1 L2 fs e1 e2 hf g1 g1'
    obtain ⟨o1, ho1⟩ := Option.isSome_iff_exists.1 g1'
    have k1 := hsome _ _ ho1
    have g2 : ∀ e c, H.get b1 ≠ some (.row false e c) := fun e c hh => g1 e c (by rw [ho1]; rw [k1] at hh; exact hh)
    simp only [Ren.add] at e1 e2
    split at e1
    · rename_i e; subst e; rw [h.free _ (Nat.le_refl _)] at k1; cases k1
    split at e2
    · injection e2 with e2; subst e2
      have hne : b1 ≠ b := by
        intro e; subst e
        rcases hown with ⟨e, _⟩ | e
        · subst e; exact g2 _ _ hg
        · rw [e] at ho1; cases ho1
      exact h.inj b1 b L1 L _ hne e1 hb g2 (by rw [k1]; rfl) hg
    · exact h.frinj b1 b2 L1 L2 fs e1 e2 hf g2 (by rw [k1]; rfl)
  · intro c L' hc
    simp only [Ren.add] at hc
    split at hc
    · injection hc with hc; subst hc; exact .inl ⟨b, L, hb, rfl⟩
    · exact .inl ⟨c, L', hc, rfl⟩

theorem VRels.of_cells {ρ : Ren} {cells cs : List Value} {o : Nat} (h : ∀ (i : Nat) (v : Value), cells[i]? = some v → ∃ v', cs[o + i]? = some v' ∧ VRel ρ v v') :
    (cells = [] ∨ o + cells.length ≤ cs.length) ∧ VRels ρ cells ((cs.drop o).take cells.length) := by
  have h0 : cells = [] ∨ o + cells.length ≤ cs.length := by
    rcases Nat.eq_zero_or_pos cells.length with h0 | h0
    · exact .inl (List.length_eq_zero_iff.1 h0)
    · right
      obtain ⟨v', k1, _⟩ := h (cells.length - 1) _ (List.getElem?_eq_getElem (by omega))
      rcases Nat.lt_or_ge (o + (cells.length - 1)) cs.length with hlt | hge
      · omega
      · rw [List.getElem?_eq_none hge] at k1; cases k1
  refine ⟨h0, VRels.of_get ?_ ?_⟩
  · rw [List.length_take, List.length_drop]
    rcases h0 with h0 | h0
    · subst h0; simp
    · omega
  · intro i v hv
    obtain ⟨v', k1, k2⟩ := h i v hv
    refine ⟨v', ?_, k2⟩
    have hi : i < cells.length := by
      rcases Nat.lt_or_ge i cells.length with h' | h'
      · exact h'
      · rw [List.getElem?_eq_none h'] at hv; cases hv
    rw [List.getElem?_take, if_pos hi, List.getElem?_drop]
    exact k1

/-- A slice of a row that is frozen, as a value. -/
theorem VRel.fz_of {ρ : Ren} {b b' off n c k : Nat} {L L' : Loc} {cells cs : List Value} (hv : VRel ρ (.slice (some ⟨b, off, none⟩) n c) v') (hb : ρ b = some L) (hc : c = unk ∨ n ≤ c)
    (hl : off + k ≤ cells.length) (hcs : ∀ (i : Nat) (v : Value), cells[i]? = some v → ∃ v', cs[L.base + i]? = some v' ∧ VRel ρ v v')
    {ρ' : Ren} (hle : Ren.le ρ ρ') (hb' : ρ' b' = some L') (h1 : L'.blk = L.blk) (h2 : L'.base = 0) (h3 : L'.frz = some cs) (hk : (n = 0 ∧ k = 0) ∨ (0 < n ∧ 0 < k)) : VRel ρ' (fzv n ((cells.drop off).take k)) v' := by
  have hlen : ((cells.drop off).take k).length = k := by rw [List.length_take, List.length_drop]; omega
  rcases hv.ssome with ⟨b1, off1, L1, c', e1, e2, rfl, hor⟩ | ⟨e1, e2, _, a', c', rfl⟩
  rotate_left
  · subst e2
    rcases hk with ⟨_, rfl⟩ | ⟨h0, _⟩
    · rw [List.take_zero]; exact .fzvoid
    · exact absurd h0 (Nat.lt_irrefl 0)
  injection e1 with e1 e3
  subst e1; subst e3
  rw [hb] at e2; injection e2 with e2; subst e2
  have hn : n ≤ c' := by
    rcases hor with ⟨q1, rfl⟩ | ⟨_, q, _⟩
    · exact hc.resolve_left q1
    · exact q
  obtain ⟨q1, q2⟩ := VRels.of_cells (ρ := ρ) (cells := (cells.drop off).take k) (cs := cs) (o := L.base + off) (fun i v hv => by
    rw [List.getElem?_take] at hv
    split at hv
    · rw [List.getElem?_drop] at hv
      obtain ⟨v', s1, s2⟩ := hcs _ v hv
      exact ⟨v', by rw [Nat.add_assoc]; exact s1, s2⟩
    · cases hv)
  rcases hk with ⟨rfl, rfl⟩ | ⟨_, hk0⟩
  · rw [List.take_zero]; exact .fzvoid
  · have hq : L.base + off + k ≤ cs.length := by
      rcases q1 with q1 | q1
      · rw [q1] at hlen; simp at hlen; omega
      · rw [hlen] at q1; exact q1
    have := VRel.fz (ρ := ρ') (b := b') (off := L.base + off) (n := n) (c := c') (cells := (cells.drop off).take k) hb' h3 hn (by rw [h2, hlen]; omega) (by rw [h2, Nat.zero_add]; exact q2.mono hle)
    rw [h1, h2, Nat.zero_add] at this
    exact this
end Go.Abs
