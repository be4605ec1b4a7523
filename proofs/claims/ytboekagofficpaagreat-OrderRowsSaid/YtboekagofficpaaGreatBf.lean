/- Joined: B4, B5, B6. -/
import Derived.Test.YtboekagofficpaaGreatB3
/- Pure calls: frozen values, what a call of them leaves, what may be forgotten. -/
set_option linter.unusedVariables false
set_option linter.unusedSimpArgs false
namespace Go.Abs
open Go

/-! ### the heap without rows -/
def Heap.bump (H : Heap) (n : Nat) : Heap := ⟨n, H.tr, H.gh⟩
theorem get_bump (H : Heap) (n b : Nat) : (H.bump n).get b = H.get b := _root_.id rfl
theorem next_bump (H : Heap) (n : Nat) : (H.bump n).next = n := _root_.id rfl
def E0 (n : Nat) : Heap := ⟨n, .nil, []⟩
theorem get_E0 (n b : Nat) : (E0 n).get b = none := Tr.get_nil b
theorem next_E0 (n : Nat) : (E0 n).next = n := _root_.id rfl

/-! ### ghost steps -/
/-- The same values, of the same machine, told in another way. -/
def Gh (P : Program) (vs : List Value) (H : Heap) (vs' : List Value) (H' : Heap) : Prop :=
  H'.gh = H.gh ∧ ∀ (ρ : Ren) (w : World) (cs : List Value), HRel P ρ H w → VRels ρ vs cs → ∃ ρ', Ext P ρ H w ρ' H' w ∧ VRels ρ' vs' cs

variable {P : Program} {H H' H1 : Heap} {vs vs' us : List Value} {v v' : Value} {g : FuncId} {args args' : List Value} {K : Value → Heap → Prop}

theorem Gh.refl : Gh P vs H vs H := ⟨rfl, fun ρ w cs hR hv => ⟨ρ, Ext.refl hR, hv⟩⟩
theorem Gh.trans (h : Gh P vs H vs' H') (k : Gh P vs' H' us H1) : Gh P vs H us H1 := ⟨k.1.trans h.1, fun ρ w cs hR hv => by
  obtain ⟨ρ1, h1, h2⟩ := h.2 ρ w cs hR hv
  obtain ⟨ρ2, k1, k2⟩ := k.2 ρ1 w cs h1.rel h2
  exact ⟨ρ2, h1.trans k1, k2⟩⟩
theorem Gh.head (h : Gh P [v] H [v'] H') : Gh P (v :: vs) H (v' :: vs) H' := ⟨h.1, fun ρ w cs hR hv => by
  cases hv with
  | cons h1 h2 =>
    obtain ⟨ρ1, k1, k2⟩ := h.2 ρ w _ hR (.cons h1 .nil)
    cases k2 with
    | cons k2 _ => exact ⟨ρ1, k1, .cons k2 (h2.mono k1.le)⟩⟩
theorem Gh.tail (h : Gh P vs H vs' H') : Gh P (v :: vs) H (v :: vs') H' := ⟨h.1, fun ρ w cs hR hv => by
  cases hv with
  | cons h1 h2 =>
    obtain ⟨ρ1, k1, k2⟩ := h.2 ρ w _ hR h2
    exact ⟨ρ1, k1, .cons (h1.mono k1.le) k2⟩⟩
theorem Gh.agg (h : Gh P vs H vs' H') : Gh P [.agg ⟨vs⟩] H [.agg ⟨vs'⟩] H' := ⟨h.1, fun ρ w cs hR hv => by
  cases hv with
  | cons h1 h2 =>
    cases h2
    obtain ⟨xs, rfl, h3⟩ := h1.aggr
    obtain ⟨ρ1, k1, k2⟩ := h.2 ρ w _ hR h3
    exact ⟨ρ1, k1, .cons (.agg k2) .nil⟩⟩

theorem ACalls.gh (hg : Gh P args H args' H') (h : ACalls P g args' H' K) : ACalls P g args H K :=
  ⟨h.1, fun ρ w cargs hR hP ha => by
    obtain ⟨ρ1, hE, hv⟩ := hg.2 ρ w cargs.toList hR ha
    refine (h.2 ρ1 w cargs hE.rel (by rw [hg.1]; exact hP.ext hE) hv).mono ?_
    rintro e w' ⟨v, v', ρ2, H2, rfl, hE2, hg2, hv2, hk⟩
    exact ⟨v, v', ρ2, H2, rfl, hE.trans hE2, hg2.trans hg.1, hv2, hk⟩⟩
theorem AYields.gh {l : Nat} (hg : Gh P args H args' H') (h : AYields P l args' H' K) : AYields P l args H K :=
  fun ρ w cargs hR hP ha => by
    obtain ⟨ρ1, hE, hv⟩ := hg.2 ρ w cargs.toList hR ha
    obtain ⟨fn, tmps, asg, body, q1, q2⟩ := h ρ1 w cargs hE.rel (by rw [hg.1]; exact hP.ext hE) hv
    refine ⟨fn, tmps, asg, body, q1, q2.mono ?_⟩
    rintro e w' ⟨v, v', ρ2, H2, rfl, hE2, hg2, hv2, hk⟩
    exact ⟨v, v', ρ2, H2, rfl, hE.trans hE2, hg2.trans hg.1, hv2, hk⟩
theorem ACalls.ghRes (h : ACalls P g args H fun v H' => ∃ v' H'', Gh P [v] H' [v'] H'' ∧ K v' H'') : ACalls P g args H K :=
  ⟨h.1, fun ρ w cargs hR hP ha => by
    refine (h.2 ρ w cargs hR hP ha).mono ?_
    rintro e w' ⟨v, v', ρ2, H2, rfl, hE2, hg2, hv2, u, H3, hg, hk⟩
    obtain ⟨ρ3, hE3, hv3⟩ := hg.2 ρ2 w' [v'] hE2.rel (.cons hv2 .nil)
    cases hv3 with
    | cons hv3 _ => exact ⟨u, v', ρ3, H3, rfl, hE2.trans hE3, hg.1.trans hg2, hv3, hk⟩⟩
theorem gen_call (h : ∀ G, G = H → ACalls P g args G K) : ACalls P g args H K := h H rfl

/-- A row is frozen: it is the run's own no more. -/
theorem Ext.freeze {ρ : Ren} {w : World} (h : HRel P ρ H w) {b : Nat} {L : Loc} {own : Bool} {el : TypeId} {cells : List Value} (hb : ρ b = some L) (hg : H.get b = some (.row own el cells))
    (hn : H'.next = H.next + 1) (hsub : ∀ c, c ≠ b → H'.get c = H.get c) (hown : (own = false ∧ H'.get b = H.get b) ∨ H'.get b = none) :
    ∃ cs : List Value, Ext P ρ H w (ρ.add H.next ⟨L.blk, 0, false, 0, 0, some cs⟩) H' w ∧ (∀ (i : Nat) (v : Value), cells[i]? = some v → ∃ v', cs[L.base + i]? = some v' ∧ VRel ρ v v') := by
  obtain ⟨cs, fr, h1, h2, h3, h4⟩ := h.rows b L own el cells hb hg
  have hle := h.le_add ⟨L.blk, 0, false, 0, 0, some cs.toList⟩
  have hbn := h.dom b L hb
  have hsome : ∀ c o, H'.get c = some o → H.get c = some o := by
    intro c o hc
    by_cases e : c = b
    · subst e
      rcases hown with ⟨_, e⟩ | e
      · rw [← e]; exact hc
      · rw [e] at hc; cases hc
    · rw [← hsub c e]; exact hc
  refine ⟨cs.toList, ⟨hle, ?_, by omega, Nat.le_refl _, ?_, fun _ _ _ => rfl, rfl, rfl, rfl, ⟨?_, ?_, ?_, ?_, ?_, ?_, ?_, ?_, fun c L' hc => by
    simp only [Ren.add] at hc
    split at hc
    · injection hc with hc; subst hc; exact h.bnd b L hb
    · exact h.bnd c L' hc⟩, ?_⟩, fun i v hv => by
    obtain ⟨v', k1, k2⟩ := h2 i v hv
    exact ⟨v', by rw [← k1]; simp, k2⟩⟩
  · intro c hc hcn
    refine ⟨by simp only [Ren.add]; rw [if_neg (by omega)]; exact hcn, hsub c ?_⟩
    intro e; subst e; rw [hb] at hcn; cases hcn
  · intro c L' hc ho
    simp only [Ren.add] at hc
    split at hc
    · injection hc with hc; subst hc; cases ho
    · exact .inl ⟨c, L', hc, ho, rfl⟩
  · intro c L' hc
    simp only [Ren.add] at hc
    split at hc
    · omega
    · have := h.dom c L' hc; omega
  · intro c L' own' el' ce hc hgc
    have hgc := hsome _ _ hgc
    simp only [Ren.add] at hc
    split at hc
    · rename_i e; subst e; rw [h.free _ (Nat.le_refl _)] at hgc; cases hgc
    · obtain ⟨cs', fr', q1, q2, q3⟩ := h.rows c L' own' el' ce hc hgc
      refine ⟨cs', fr', q1, fun i v hv => ?_, q3⟩
      obtain ⟨v', k1, k2⟩ := q2 i v hv
      exact ⟨v', k1, k2.mono hle⟩
  · intro c L' es cl hc hgc
    have hgc := hsome _ _ hgc
    simp only [Ren.add] at hc
    split at hc
    · rename_i e; subst e; rw [h.free _ (Nat.le_refl _)] at hgc; cases hgc
    · obtain ⟨es', q1, q2, q3, q4, q5⟩ := h.maps c L' es cl hc hgc
      refine ⟨es', q1, q2, q3, q4, fun i x hx => ?_⟩
      obtain ⟨x', s1, s2, s3, s4, s5⟩ := q5 i x hx
      exact ⟨x', s1, s2, s3, s4, s5.mono hle⟩
  · intro c hc
    rw [hsub c (by omega)]
    exact h.free c (by omega)
  · obtain ⟨v1, v2, v3⟩ := h.void
    refine ⟨by simp only [Ren.add]; rw [if_neg (by omega)]; exact v1, ?_, by omega⟩
    rw [hsub 0 (fun e => by subst e; rw [hb] at v1; cases v1)]; exact v2
  · intro b1 b2 L1 L2 o2 hne e1 e2 g1 g1' g2
    obtain ⟨o1, ho1⟩ := Option.isSome_iff_exists.1 g1'
    have k1 := hsome _ _ ho1
    have k2 := hsome _ _ g2
    simp only [Ren.add] at e1 e2
    split at e1
    · rename_i e; subst e; rw [h.free _ (Nat.le_refl _)] at k1; cases k1
    split at e2
    · rename_i e; subst e; rw [h.free _ (Nat.le_refl _)] at k2; cases k2
    exact h.inj b1 b2 L1 L2 o2 hne e1 e2 (fun e c hh => g1 e c (by rw [ho1]; rw [k1] at hh; exact hh)) (by rw [k1]; rfl) k2
  · intro c L' fs hc hf
    simp only [Ren.add] at hc
    split at hc
    · injection hc with hc; subst hc
      injection hf with hf; subst hf
      exact ⟨rfl, el, fr, h1⟩
    · exact h.frz c L' fs hc hf
  · intro b1 b2 L1 L2 fs e1 e2 hf g1 g1'
    obtain ⟨o1, ho1⟩ := Option.isSome_iff_exists.1 g1'
    have k1 := hsome _ _ ho1
    have g2 : ∀ e c, H.get b1 ≠ some (.row false e c) := fun e c hh => g1 e c (by rw [ho1]; rw [k1] at hh; exact hh)
    simp only [Ren.add] at e1 e2
    split at e1
    · rename_i e; subst e; rw [h.free _ (Nat.le_refl _)] at k1; cases k1
    split at e2
    · injection e2 with e2; subst e2
      have hne : b1 ≠ b := by
        intro e; subst e
        rcases hown with ⟨e, _⟩ | e
        · subst e; exact g2 _ _ hg
        · rw [e] at ho1; cases ho1
      exact h.inj b1 b L1 L _ hne e1 hb g2 (by rw [k1]; rfl) hg
    · exact h.frinj b1 b2 L1 L2 fs e1 e2 hf g2 (by rw [k1]; rfl)
  · intro c L' hc
    simp only [Ren.add] at hc
    split at hc
    · injection hc with hc; subst hc; exact .inl ⟨b, L, hb, rfl⟩
    · exact .inl ⟨c, L', hc, rfl⟩

theorem VRels.of_cells {ρ : Ren} {cells cs : List Value} {o : Nat} (h : ∀ (i : Nat) (v : Value), cells[i]? = some v → ∃ v', cs[o + i]? = some v' ∧ VRel ρ v v') :
    (cells = [] ∨ o + cells.length ≤ cs.length) ∧ VRels ρ cells ((cs.drop o).take cells.length) := by
  have h0 : cells = [] ∨ o + cells.length ≤ cs.length := by
    rcases Nat.eq_zero_or_pos cells.length with h0 | h0
    · exact .inl (List.length_eq_zero_iff.1 h0)
    · right
      obtain ⟨v', k1, _⟩ := h (cells.length - 1) _ (List.getElem?_eq_getElem (by omega))
      rcases Nat.lt_or_ge (o + (cells.length - 1)) cs.length with hlt | hge
      · omega
      · rw [List.getElem?_eq_none hge] at k1; cases k1
  refine ⟨h0, VRels.of_get ?_ ?_⟩
  · rw [List.length_take, List.length_drop]
    rcases h0 with h0 | h0
    · subst h0; simp
    · omega
  · intro i v hv
    obtain ⟨v', k1, k2⟩ := h i v hv
    refine ⟨v', ?_, k2⟩
    have hi : i < cells.length := by
      rcases Nat.lt_or_ge i cells.length with h' | h'
      · exact h'
      · rw [List.getElem?_eq_none h'] at hv; cases hv
    rw [List.getElem?_take, if_pos hi, List.getElem?_drop]
    exact k1

/-- A slice of a row that is frozen, as a value. -/
theorem VRel.fz_of {ρ : Ren} {b b' off n c k : Nat} {L L' : Loc} {cells cs : List Value} (hv : VRel ρ (.slice (some ⟨b, off, none⟩) n c) v') (hb : ρ b = some L) (hc : c = unk ∨ n ≤ c)
    (hl : off + k ≤ cells.length) (hcs : ∀ (i : Nat) (v : Value), cells[i]? = some v → ∃ v', cs[L.base + i]? = some v' ∧ VRel ρ v v')
    {ρ' : Ren} (hle : Ren.le ρ ρ') (hb' : ρ' b' = some L') (h1 : L'.blk = L.blk) (h2 : L'.base = 0) (h3 : L'.frz = some cs) (hk : (n = 0 ∧ k = 0) ∨ (0 < n ∧ 0 < k)) : VRel ρ' (fzv n ((cells.drop off).take k)) v' := by
  have hlen : ((cells.drop off).take k).length = k := by rw [List.length_take, List.length_drop]; omega
  rcases hv.ssome with ⟨b1, off1, L1, c', e1, e2, rfl, hor⟩ | ⟨e1, e2, _, a', c', rfl⟩
  rotate_left
  · subst e2
    rcases hk with ⟨_, rfl⟩ | ⟨h0, _⟩
    · rw [List.take_zero]; exact .fzvoid
    · exact absurd h0 (Nat.lt_irrefl 0)
  injection e1 with e1 e3
  subst e1; subst e3
  rw [hb] at e2; injection e2 with e2; subst e2
  have hn : n ≤ c' := by
    rcases hor with ⟨q1, rfl⟩ | ⟨_, q, _⟩
    · exact hc.resolve_left q1
    · exact q
  obtain ⟨q1, q2⟩ := VRels.of_cells (ρ := ρ) (cells := (cells.drop off).take k) (cs := cs) (o := L.base + off) (fun i v hv => by
    rw [List.getElem?_take] at hv
    split at hv
    · rw [List.getElem?_drop] at hv
      obtain ⟨v', s1, s2⟩ := hcs _ v hv
      exact ⟨v', by rw [Nat.add_assoc]; exact s1, s2⟩
    · cases hv)
  rcases hk with ⟨rfl, rfl⟩ | ⟨_, hk0⟩
  · rw [List.take_zero]; exact .fzvoid
  · have hq : L.base + off + k ≤ cs.length := by
      rcases q1 with q1 | q1
      · rw [q1] at hlen; simp at hlen; omega
      · rw [hlen] at q1; exact q1
    have := VRel.fz (ρ := ρ') (b := b') (off := L.base + off) (n := n) (c := c') (cells := (cells.drop off).take k) hb' h3 hn (by rw [h2, hlen]; omega) (by rw [h2, Nat.zero_add]; exact q2.mono hle)
    rw [h1, h2, Nat.zero_add] at this
    exact this
end Go.Abs

/- Calls of functions of values: what a value is once all is frozen; the run of a call beside rows that it knows nothing of. -/
set_option linter.unusedVariables false
set_option linter.unusedSimpArgs false
namespace Go.Abs
open Go
variable {P : Program} {H H' H1 : Heap} {vs vs' us : List Value} {v v' : Value} {g : FuncId} {args args' : List Value} {K : Value → Heap → Prop}

mutual
/-- The value, told without rows. -/
inductive FzRel (P : Program) (H : Heap) : Value → Value → Prop
  | rfl {v : Value} : FzRel P H v v
  | sl {es n : Nat} {v : Value} {vs ps : List Value} (he : 0 < es) (h : Sl P H es v n vs) (hs : FzRels P H ps vs) : FzRel P H (fzv n ps) v
  | agg {ps vs : List Value} (h : FzRels P H ps vs) : FzRel P H (.agg ⟨ps⟩) (.agg ⟨vs⟩)
  | tuple {ps vs : List Value} (h : FzRels P H ps vs) : FzRel P H (.tuple ⟨ps⟩) (.tuple ⟨vs⟩)
inductive FzRels (P : Program) (H : Heap) : List Value → List Value → Prop
  | nil : FzRels P H [] []
  | cons {p v : Value} {ps vs : List Value} (h : FzRel P H p v) (hs : FzRels P H ps vs) : FzRels P H (p :: ps) (v :: vs)
end
theorem FzRels.refl : ∀ {vs : List Value}, FzRels P H vs vs
  | [] => .nil
  | _ :: _ => .cons .rfl FzRels.refl
theorem FzRels.length : ∀ {ps vs : List Value}, FzRels P H ps vs → ps.length = vs.length
  | _, _, .nil => rfl
  | _, _, .cons _ hs => by simp [FzRels.length hs]

/-- The view of a row, frozen. -/
def vwOf (ρ : Ren) (H : Heap) (w : World) (c : Nat) : Option Loc :=
  match ρ c, H.get c with
  | some L, some (.row _ _ _) => match w.heap[L.blk]? with
    | some (.cells cs _ _) => some ⟨L.blk, 0, false, 0, 0, some cs.toList⟩
    | _ => none
  | _, _ => none
/-- The renaming with all rows frozen beside. -/
def fa (ρ : Ren) (H : Heap) (w : World) : Ren := fun b => if b < H.next then ρ b else if b < 2 * H.next then vwOf ρ H w (b - H.next) else none

theorem fa_le {ρ : Ren} {w : World} (h : HRel P ρ H w) : Ren.le ρ (fa ρ H w) := fun b L hb => by
  unfold fa; rw [if_pos (h.dom b L hb)]; exact hb
theorem vwOf_some {ρ : Ren} {w : World} {c : Nat} {L' : Loc} (h : vwOf ρ H w c = some L') : ∃ L cs el fr, ρ c = some L ∧ (H.get c).isSome = true ∧ w.heap[L.blk]? = some (.cells cs el fr) ∧ L' = ⟨L.blk, 0, false, 0, 0, some cs.toList⟩ := by
  unfold vwOf at h
  split at h
  · rename_i L _ _ _ h1 h2
    split at h
    · rename_i cs el fr h3
      injection h with h
      exact ⟨L, cs, el, fr, h1, by rw [h2]; rfl, h3, h.symm⟩
    · cases h
  · cases h
theorem fa_new {ρ : Ren} {w : World} {b : Nat} {L' : Loc} (hb : H.next ≤ b) (h : fa ρ H w b = some L') : ∃ c L cs el fr, c < H.next ∧ ρ c = some L ∧ (H.get c).isSome = true ∧ w.heap[L.blk]? = some (.cells cs el fr) ∧ L' = ⟨L.blk, 0, false, 0, 0, some cs.toList⟩ := by
  unfold fa at h
  rw [if_neg (by omega)] at h
  split at h
  · obtain ⟨L, cs, el, fr, h1⟩ := vwOf_some h
    exact ⟨b - H.next, L, cs, el, fr, by omega, h1⟩
  · cases h

mutual
theorem FzRel.rel {ρ : Ren} {w : World} (hR : HRel P ρ H w) : ∀ {p v v' : Value}, FzRel P H p v → VRel ρ v v' → VRel (fa ρ H w) p v'
  | _, _, _, .rfl, h => h.mono (fa_le hR)
  | _, _, v', .sl (es := es) (n := n) he hsl hs, h => by
    cases hsl with
    | nil => cases hs; rw [h.snone]; exact .fznil
    | void =>
      cases hs
      obtain ⟨a', c', rfl⟩ := h.sform
      exact .fzvoid
    | @row b off n c own el cs hg hb he' hc hl =>
      have hlen := hs.length
      rcases h.ssome with ⟨b1, off1, L, c', e1, e2, rfl, hor⟩ | ⟨_, rfl, _, a', c', rfl⟩
      rotate_left
      · simp only [Nat.zero_mul, List.take_zero] at hs
        cases hs; exact .fzvoid
      injection e1 with e1 e3
      subst e1; subst e3
      have hn : n ≤ c' := by
        rcases hor with ⟨q1, rfl⟩ | ⟨_, q, _⟩
        · rcases hc with q | q
          · exact absurd q q1
          · exact q.1
        · exact q
      obtain ⟨cs', fr, r1, r2, _⟩ := hR.rows b L own el cs e2 hg
      have hk : fa ρ H w (H.next + b) = some ⟨L.blk, 0, false, 0, 0, some cs'.toList⟩ := by
        unfold fa
        rw [if_neg (by omega), if_pos (by omega), Nat.add_sub_cancel_left]
        simp only [vwOf, e2, hg, r1]
      obtain ⟨q1, q2⟩ := VRels.of_cells (ρ := ρ) (cells := (cs.drop off).take (n * es)) (cs := cs'.toList) (o := L.base + off) (fun i v hv => by
        rw [List.getElem?_take] at hv
        split at hv
        · rw [List.getElem?_drop] at hv
          obtain ⟨v', s1, s2⟩ := r2 _ v hv
          exact ⟨v', by rw [Nat.add_assoc, Array.getElem?_toList]; exact s1, s2⟩
        · cases hv)
      have q3 := FzRels.rel hR hs q2
      rw [← hlen] at q3 q1
      rcases q1 with q1 | q1
      · have h0 : n = 0 := by
          have e : ((cs.drop off).take (n * es)).length = n * es := by rw [List.length_take, List.length_drop]; omega
          rw [q1] at e
          rcases Nat.mul_eq_zero.1 e.symm with e | e
          · exact e
          · omega
        subst h0
        simp only [Nat.zero_mul, List.take_zero] at hs
        cases hs; exact .fzvoid
      · have := VRel.fz (ρ := fa ρ H w) (off := L.base + off) (n := n) (c := c') (by exact hk) rfl hn (by simp only [Nat.zero_add]; exact q1) (by simp only [Nat.zero_add]; exact q3)
        simp only [Nat.zero_add] at this
        exact this
  | _, _, _, .agg hs, h => by
    obtain ⟨xs, rfl, h1⟩ := h.aggr
    exact .agg (FzRels.rel hR hs h1)
  | _, _, _, .tuple hs, h => by
    obtain ⟨xs, rfl, h1⟩ := h.tup
    exact .tuple (FzRels.rel hR hs h1)
theorem FzRels.rel {ρ : Ren} {w : World} (hR : HRel P ρ H w) : ∀ {ps vs vs' : List Value}, FzRels P H ps vs → VRels ρ vs vs' → VRels (fa ρ H w) ps vs'
  | _, _, _, .nil, .nil => .nil
  | _, _, _, .cons h hs, .cons k ks => .cons (FzRel.rel hR h k) (FzRels.rel hR hs ks)
end

/-! ### values without rows -/
/-- The frozen part of a renaming. -/
def Ren.fr (ρ : Ren) : Ren := fun b => match ρ b with
  | some L => if L.frz.isSome then some L else none
  | none => none
theorem Ren.fr_le (ρ : Ren) : Ren.le ρ.fr ρ := fun b L h => by
  unfold Ren.fr at h
  split at h
  · rename_i L' h1
    split at h
    · injection h with h; subst h; exact h1
    · cases h
  · cases h
theorem Ren.fr_some {ρ : Ren} {b : Nat} {L : Loc} (h : ρ.fr b = some L) : ρ b = some L ∧ L.frz.isSome = true := by
  have h1 := Ren.fr_le ρ b L h
  refine ⟨h1, ?_⟩
  unfold Ren.fr at h
  rw [h1] at h
  simp only at h
  split at h
  · assumption
  · cases h
theorem Ren.fr_of {ρ : Ren} {b : Nat} {L : Loc} (h : ρ b = some L) {cs : List Value} (hf : L.frz = some cs) : ρ.fr b = some L := by
  unfold Ren.fr; rw [h]; simp [hf]

mutual
/-- No address of the run's own rows is in it. -/
inductive Pu : Value → Prop
  | ground {v : Value} (h : ground v = true) : Pu v
  | fz {n : Nat} {cells : List Value} (h : Pus cells) : Pu (.iface fzT (.agg ⟨.int .i64 n :: cells⟩))
  | agg {cs : List Value} (h : Pus cs) : Pu (.agg ⟨cs⟩)
  | tuple {cs : List Value} (h : Pus cs) : Pu (.tuple ⟨cs⟩)
  | fn {f : Fn} {xs ys : List Value} (h1 : Pus xs) (h2 : Pus ys) : Pu (.func f ⟨xs⟩ ⟨ys⟩)
inductive Pus : List Value → Prop
  | nil : Pus []
  | cons {v : Value} {vs : List Value} (h : Pu v) (hs : Pus vs) : Pus (v :: vs)
end
mutual
theorem Pu.rel {ρ : Ren} : ∀ {v v' : Value}, Pu v → VRel ρ v v' → VRel ρ.fr v v'
  | _, _, .ground h, k => by rw [k.ground_eq h]; exact .ground h
  | _, _, .fz (n := n) (cells := cells) h, k => by
    rcases k.frozen with ⟨b, off, L, cs, c, h1, hf, hn, hb, hc, rfl⟩ | ⟨rfl, rfl, rfl⟩ | ⟨rfl, rfl, a, c, rfl⟩
    · exact .fz (Ren.fr_of h1 hf) hf hn hb (Pus.rel h hc)
    · exact .fznil
    · exact .fzvoid
  | _, _, .agg h, k => by
    obtain ⟨xs, rfl, h1⟩ := k.aggr
    exact .agg (Pus.rel h h1)
  | _, _, .tuple h, k => by
    obtain ⟨xs, rfl, h1⟩ := k.tup
    exact .tuple (Pus.rel h h1)
  | _, _, .fn h1 h2, k => by
    obtain ⟨xs, ys, rfl, k1, k2⟩ := k.func
    obtain ⟨xs⟩ := xs
    obtain ⟨ys⟩ := ys
    exact .fn (Pus.rel h1 k1) (Pus.rel h2 k2)
theorem Pus.rel {ρ : Ren} : ∀ {vs vs' : List Value}, Pus vs → VRels ρ vs vs' → VRels ρ.fr vs vs'
  | _, _, .nil, .nil => .nil
  | _, _, .cons h hs, .cons k ks => .cons (Pu.rel h k) (Pus.rel hs ks)
end
theorem Pus.of_all : ∀ {vs : List Value}, (∀ v ∈ vs, Pu v) → Pus vs
  | [], _ => .nil
  | v :: vs, h => .cons (h v (by simp)) (Pus.of_all fun u hu => h u (by simp [hu]))
theorem Pus.mem : ∀ {vs : List Value}, Pus vs → ∀ v ∈ vs, Pu v
  | _, .nil, v, h => by cases h
  | _, .cons h hs, v, hm => by
    cases hm with
    | head => exact h
    | tail _ hm => exact hs.mem v hm
theorem Pus.append {vs us : List Value} (h : Pus vs) (k : Pus us) : Pus (vs ++ us) := Pus.of_all fun v hv => by
  rcases List.mem_append.1 hv with hv | hv
  · exact h.mem v hv
  · exact k.mem v hv

/-! ### pure calls -/
/-- A function of values: called with values that no row is needed for it returns one. -/
def PK (P : Program) (g : FuncId) (ps : List Value) (k : Value → Prop) : Prop :=
  Pus ps ∧ ∀ n, 0 < n → ACalls P g ps (E0 n) fun v H' => ∃ r, FzRel P H' r v ∧ Pu r ∧ k r
def PC (P : Program) (g : FuncId) (ps : List Value) (r : Value) : Prop := PK P g ps fun x => x = r

theorem E0_rel {ρ : Ren} {w : World} {n : Nat} (h0 : 0 < n) (hd : ∀ b L, ρ b = some L → b < n) (hv : ρ 0 = none)
    (hf : ∀ b L cs, ρ b = some L → L.frz = some cs → L.own = false ∧ ∃ el fr, w.heap[L.blk]? = some (.cells ⟨cs⟩ el fr)) (hb : ∀ b L, ρ b = some L → L.blk < w.heap.size) : HRel P ρ (E0 n) w where
  dom := hd
  rows := fun b L own el cells _ h => by rw [get_E0] at h; cases h
  maps := fun b L es clock _ h => by rw [get_E0] at h; cases h
  free := fun b _ => get_E0 n b
  void := ⟨hv, get_E0 n 0, h0⟩
  inj := fun b1 b2 L1 L2 o2 _ _ _ _ h _ => by rw [get_E0] at h; cases h
  frz := hf
  frinj := fun b1 b2 L1 L2 cs _ _ _ _ h => by rw [get_E0] at h; cases h
  bnd := hb

/-- The run of a pure call beside rows that it knows nothing of. -/
theorem PK.core {p : List Value} {k : Value → Prop} (h : PK P g p k) {ρ0 : Ren} {w : World} {n : Nat} (hR : HRel P ρ0 (E0 n) w) (h0 : ∀ b L, ρ0 b = some L → L.frz.isSome = true) {cargs : Array Value} (ha : VRels ρ0 p cargs.toList) :
    Calls P g cargs w fun e w' => ∃ r v' ρ2 m, e = .returned v' ∧ k r ∧ VRel ρ2 r v' ∧ n ≤ m ∧ (∀ b, b < n → ρ2 b = ρ0 b) ∧ (∀ b L, ρ2 b = some L → b < m ∧ L.frz.isSome = true ∧ L.own = false) ∧
      (∀ i, i < w.heap.size → w'.heap[i]? = w.heap[i]?) ∧ w.heap.size ≤ w'.heap.size ∧ w'.os = w.os ∧ w'.output = w.output ∧ w'.tape = w.tape ∧
      (∀ b L cs, ρ2 b = some L → L.frz = some cs → ∃ el fr, w'.heap[L.blk]? = some (.cells ⟨cs⟩ el fr)) ∧
      (∀ b L, ρ2 b = some L → (∃ b0 L0, ρ0 b0 = some L0 ∧ L0.blk = L.blk) ∨ w.heap.size ≤ L.blk) := by
  have hown : ∀ b L, ρ0 b = some L → L.own = false := fun b L hb => by
    have := h0 b L hb
    obtain ⟨cs, hcs⟩ := Option.isSome_iff_exists.1 this
    exact (hR.frz b L cs hb hcs).1
  refine ((h.2 n hR.void.2.2).2 ρ0 w cargs hR Pins.nil ha).mono ?_
  rintro e w' ⟨v, v', ρ1, H1, rfl, hE, _, hv, r, hf, hpu, hkr⟩
  have hn1 := hE.next
  rw [next_E0] at hn1
  have hv2 := hpu.rel (hf.rel hE.rel hv)
  refine ⟨r, v', fun b => if b < n then ρ0 b else (fa ρ1 H1 w').fr b, 2 * H1.next, rfl, hkr, hv2.mono ?_, by omega, fun b hb => if_pos hb, ?_, ?_, hE.size, hE.os, hE.output, hE.tape, ?_, ?_⟩
  · intro b L hb
    simp only
    split
    · rename_i hbn
      obtain ⟨h1, h2⟩ := Ren.fr_some hb
      unfold fa at h1
      rw [if_pos (by omega)] at h1
      cases h3 : ρ0 b with
      | none => rw [(hE.phant b hbn h3).1] at h1; cases h1
      | some L0 => rw [hE.le _ _ h3] at h1; exact h1
    · exact hb
  · intro b L hb
    simp only at hb
    split at hb
    · exact ⟨by omega, h0 b L hb, hown b L hb⟩
    · obtain ⟨h1, h2⟩ := Ren.fr_some hb
      refine ⟨?_, h2, ?_⟩
      · unfold fa at h1
        split at h1
        · omega
        · split at h1
          · assumption
          · cases h1
      · rcases Nat.lt_or_ge b H1.next with hlt | hge
        · unfold fa at h1
          rw [if_pos hlt] at h1
          obtain ⟨cs, hcs⟩ := Option.isSome_iff_exists.1 h2
          exact (hE.rel.frz b L cs h1 hcs).1
        · obtain ⟨c, L1, cs, el, fr, _, _, _, _, rfl⟩ := fa_new hge h1
          rfl
  · intro i hi
    exact hE.frame i hi (fun b L hb ho => by rw [hown b L hb] at ho; cases ho)
  · intro b L cs hb hcs
    simp only at hb
    split at hb
    · obtain ⟨_, el, fr, h1⟩ := hR.frz b L cs hb hcs
      exact ⟨el, fr, by rw [hE.frame _ (lt_of_heap h1) (fun b L hb ho => by rw [hown b L hb] at ho; cases ho)]; exact h1⟩
    · obtain ⟨h1, h2⟩ := Ren.fr_some hb
      rcases Nat.lt_or_ge b H1.next with hlt | hge
      · unfold fa at h1
        rw [if_pos hlt] at h1
        exact (hE.rel.frz b L cs h1 hcs).2
      · obtain ⟨c, L1, cs', el, fr, _, _, _, h3, rfl⟩ := fa_new hge h1
        injection hcs with hcs
        subst hcs
        exact ⟨el, fr, h3⟩
  · intro b L hb
    simp only at hb
    split at hb
    · exact .inl ⟨b, L, hb, rfl⟩
    · obtain ⟨h1, h2⟩ := Ren.fr_some hb
      rcases Nat.lt_or_ge b H1.next with hlt | hge
      · unfold fa at h1
        rw [if_pos hlt] at h1
        exact hE.blks b L h1
      · obtain ⟨c, L1, cs', el, fr, _, h4, _, h3, rfl⟩ := fa_new hge h1
        exact hE.blks c L1 h4

theorem PK.good {p : List Value} {k : Value → Prop} (h : PK P g p k) : goodFn P g := (h.2 1 Nat.one_pos).1

/-- A pure call beside rows: it answers, and leaves them. -/
theorem PK.use {p : List Value} {k : Value → Prop} (h : PK P g p k) (H : Heap) : ACalls P g p H fun v H' => k v ∧ ∃ n, H.next ≤ n ∧ H' = H.bump n := by
  refine ⟨h.good, fun ρ w cargs hR hP ha => ?_⟩
  have hf : ∀ b L cs, ρ.fr b = some L → L.frz = some cs → L.own = false ∧ ∃ el fr, w.heap[L.blk]? = some (.cells ⟨cs⟩ el fr) := fun b L cs hb hcs => hR.frz b L cs (Ren.fr_le ρ b L hb) hcs
  have hR0 : HRel P ρ.fr (E0 H.next) w := E0_rel hR.void.2.2 (fun b L hb => hR.dom b L (Ren.fr_le ρ b L hb)) (by
    cases hb : ρ.fr 0 with
    | none => rfl
    | some L => have := Ren.fr_le ρ 0 L hb; rw [hR.void.1] at this; cases this) hf (fun b L hb => hR.bnd b L (Ren.fr_le ρ b L hb))
  refine (h.core hR0 (fun b L hb => (Ren.fr_some hb).2) (h.1.rel ha)).mono ?_
  rintro e w' ⟨r, v', ρ2, m, rfl, hkr, hv, hm, h1, h2, h3, h4, h5, h6, h7, h8, h9⟩
  have hle : Ren.le ρ (fun b => if b < H.next then ρ b else ρ2 b) := fun b L hb => by show (if _ then _ else _) = _; rw [if_pos (hR.dom b L hb)]; exact hb
  have hlt : ∀ b o, H.get b = some o → b < H.next := fun b o hb => by
    rcases Nat.lt_or_ge b H.next with h | h
    · exact h
    · rw [hR.free b h] at hb; cases hb
  refine ⟨r, v', fun b => if b < H.next then ρ b else ρ2 b, H.bump m, rfl, ⟨hle, ?_, hm, h4, ?_, ?_, h5, h6, h7, ⟨?_, ?_, ?_, ?_, ?_, ?_, ?_, ?_, fun b L hb => by
    try simp only at hb
    split at hb
    · exact Nat.lt_of_lt_of_le (hR.bnd b L hb) h4
    · obtain ⟨cs, hcs⟩ := Option.isSome_iff_exists.1 (h2 b L hb).2.1
      obtain ⟨el, fr, q⟩ := h8 b L cs hb hcs
      exact lt_of_heap q⟩, ?_⟩, rfl, hv.mono ?_, hkr, m, hm, rfl⟩
  · intro b hb hn
    exact ⟨by show (if _ then _ else _) = _; rw [if_pos hb]; exact hn, rfl⟩
  · intro b L hb ho
    try simp only at hb
    split at hb
    · exact .inl ⟨b, L, hb, ho, rfl⟩
    · rw [(h2 b L hb).2.2] at ho; cases ho
  · intro i hi _; exact h3 i hi
  · intro b L hb
    try simp only at hb
    split at hb
    · have := hR.dom b L hb; rw [next_bump]; omega
    · exact (h2 b L hb).1
  · intro b L own el cells hb hg
    rw [get_bump] at hg
    try simp only at hb
    rw [if_pos (hlt b _ hg)] at hb
    obtain ⟨cs, fr, k1, k2, k3⟩ := hR.rows b L own el cells hb hg
    refine ⟨cs, fr, by rw [h3 _ (lt_of_heap k1)]; exact k1, fun i v hv => ?_, k3⟩
    obtain ⟨v', q1, q2⟩ := k2 i v hv
    exact ⟨v', q1, q2.mono hle⟩
  · intro b L es clock hb hg
    rw [get_bump] at hg
    try simp only at hb
    rw [if_pos (hlt b _ hg)] at hb
    obtain ⟨es', k1, k2, k3, k4, k5⟩ := hR.maps b L es clock hb hg
    refine ⟨es', by rw [h3 _ (lt_of_heap k1)]; exact k1, k2, k3, k4, fun i x hx => ?_⟩
    obtain ⟨x', s1, s2, s3, s4, s5⟩ := k5 i x hx
    exact ⟨x', s1, s2, s3, s4, s5.mono hle⟩
  · intro b hb
    rw [next_bump] at hb
    rw [get_bump]; exact hR.free b (by omega)
  · obtain ⟨q1, q2, q3⟩ := hR.void
    exact ⟨by show (if _ then _ else _) = _; rw [if_pos q3]; exact q1, q2, by rw [next_bump]; omega⟩
  · intro b1 b2 L1 L2 o2 hne e1 e2 g1 g1' g2
    rw [get_bump] at g1' g2
    obtain ⟨o1, ho1⟩ := Option.isSome_iff_exists.1 g1'
    try simp only at e1 e2
    rw [if_pos (hlt b1 _ ho1)] at e1
    rw [if_pos (hlt b2 _ g2)] at e2
    exact hR.inj b1 b2 L1 L2 o2 hne e1 e2 g1 g1' g2
  · intro b L cs hb hcs
    try simp only at hb
    split at hb
    · obtain ⟨q1, el, fr, q2⟩ := hR.frz b L cs hb hcs
      exact ⟨q1, el, fr, by rw [h3 _ (lt_of_heap q2)]; exact q2⟩
    · exact ⟨(h2 b L hb).2.2, h8 b L cs hb hcs⟩
  · intro b1 b2 L1 L2 cs e1 e2 hcs g1 g1'
    rw [get_bump] at g1'
    obtain ⟨o1, ho1⟩ := Option.isSome_iff_exists.1 g1'
    try simp only at e1 e2
    rw [if_pos (hlt b1 _ ho1)] at e1
    split at e2
    · exact hR.frinj b1 b2 L1 L2 cs e1 e2 hcs g1 g1'
    · rcases h9 b2 L2 e2 with ⟨b0, L0, q1, q2⟩ | q
      · obtain ⟨q3, q4⟩ := Ren.fr_some q1
        obtain ⟨cs0, hcs0⟩ := Option.isSome_iff_exists.1 q4
        rw [← q2]
        exact hR.frinj b1 b0 L1 L0 cs0 e1 q3 hcs0 g1 g1'
      · have := hR.lt' e1 g1'
        omega
  · intro b L hb
    try simp only at hb
    split at hb
    · exact .inl ⟨b, L, hb, rfl⟩
    · rcases h9 b L hb with ⟨b0, L0, q1, q2⟩ | q
      · exact .inl ⟨b0, L0, Ren.fr_le ρ b0 L0 q1, q2⟩
      · exact .inr q
  · intro b L hb
    show (if _ then _ else _) = _
    split
    · rename_i hbn
      rw [h1 b hbn] at hb
      exact Ren.fr_le ρ b L hb
    · exact hb

mutual
/-- A value without addresses, but for empty slices. -/
inductive Vd : Value → Prop
  | ground {v : Value} (h : ground v = true) : Vd v
  | nil : Vd (fzv 0 [])
  | agg {cs : List Value} (h : Vds cs) : Vd (.agg ⟨cs⟩)
  | tuple {cs : List Value} (h : Vds cs) : Vd (.tuple ⟨cs⟩)
inductive Vds : List Value → Prop
  | nil : Vds []
  | cons {v : Value} {vs : List Value} (h : Vd v) (hs : Vds vs) : Vds (v :: vs)
end
mutual
theorem Vd.rel {ρ ρ' : Ren} : ∀ {r v' : Value}, Vd r → VRel ρ r v' → VRel ρ' r v'
  | _, _, .ground h, k => by rw [k.ground_eq h]; exact .ground h
  | _, _, .nil, k => by
    rcases k.frozen with ⟨b, off, L, cs, c, h1, hf, hn, hb, hc, rfl⟩ | ⟨_, _, rfl⟩ | ⟨_, _, a, c, rfl⟩
    · exact .fzvoid
    · exact .fznil
    · exact .fzvoid
  | _, _, .agg h, k => by
    obtain ⟨xs', rfl, k2⟩ := k.aggr
    exact .agg (Vds.rel h k2)
  | _, _, .tuple h, k => by
    obtain ⟨xs', rfl, k2⟩ := k.tup
    exact .tuple (Vds.rel h k2)
theorem Vds.rel {ρ ρ' : Ren} : ∀ {r v' : List Value}, Vds r → VRels ρ r v' → VRels ρ' r v'
  | _, _, .nil, k => by cases k; exact .nil
  | _, _, .cons h hs, k => by cases k with | cons k ks => exact .cons (Vd.rel h k) (Vds.rel hs ks)
end
/-- A pure call whose answer holds no address may look at the rows: they stay. -/
theorem PK.lookV {p as : List Value} {k : Value → Prop} (h : PK P g p k) (hr : ∀ r, k r → Vd r) {H : Heap} (ha : FzRels P H p as) : ACalls P g as H fun v H' => k v ∧ H' = H := by
  refine ⟨h.good, fun ρ w cargs hR hP hv => ?_⟩
  have hsome : ∀ b L, (fa ρ H w).fr b = some L → b < 2 * H.next := fun b L hb => by
    have := Ren.fr_le _ b L hb
    unfold fa at this
    split at this
    · omega
    · split at this
      · assumption
      · cases this
  have hf : ∀ b L cs, (fa ρ H w).fr b = some L → L.frz = some cs → L.own = false ∧ ∃ el fr, w.heap[L.blk]? = some (.cells ⟨cs⟩ el fr) := fun b L cs hb hcs => by
    have h1 := Ren.fr_le _ b L hb
    rcases Nat.lt_or_ge b H.next with hlt | hge
    · unfold fa at h1
      rw [if_pos hlt] at h1
      exact hR.frz b L cs h1 hcs
    · obtain ⟨c, L1, cs', el, fr, _, _, _, h3, rfl⟩ := fa_new hge h1
      injection hcs with hcs
      subst hcs
      exact ⟨rfl, el, fr, h3⟩
  have hpos := hR.void.2.2
  have hR0 : HRel P (fa ρ H w).fr (E0 (2 * H.next)) w := E0_rel (by omega) hsome (by
    cases hb : (fa ρ H w).fr 0 with
    | none => rfl
    | some L =>
      have := Ren.fr_le _ 0 L hb
      unfold fa at this
      rw [if_pos hpos, hR.void.1] at this; cases this) hf (fun b L hb => by
    obtain ⟨hb1, hfz⟩ := Ren.fr_some hb
    obtain ⟨cs, hcs⟩ := Option.isSome_iff_exists.1 hfz
    obtain ⟨_, el, fr, q⟩ := hf b L cs hb hcs
    exact lt_of_heap q)
  refine (h.core hR0 (fun b L hb => (Ren.fr_some hb).2) (h.1.rel (ha.rel hR hv))).mono ?_
  rintro e w' ⟨r, v', ρ2, m, rfl, hkr, hv, hm, h1, h2, h3, h4, h5, h6, h7, h8, h9⟩
  have hr := hr r hkr
  refine ⟨r, v', ρ, H, rfl, ⟨Ren.le.rfl, fun _ _ h => ⟨h, rfl⟩, Nat.le_refl _, h4, fun b L k1 k2 => .inl ⟨b, L, k1, k2, rfl⟩, fun i hi _ => h3 i hi, h5, h6, h7, ⟨hR.dom, ?_, ?_, hR.free, hR.void, hR.inj, ?_, hR.frinj, fun b L k => Nat.lt_of_lt_of_le (hR.bnd b L k) h4⟩, fun b L k => .inl ⟨b, L, k, rfl⟩⟩, rfl, hr.rel hv, hkr, rfl⟩
  · intro b L own el cells hb hg
    obtain ⟨cs, fr, k1, k2⟩ := hR.rows b L own el cells hb hg
    exact ⟨cs, fr, by rw [h3 _ (lt_of_heap k1)]; exact k1, k2⟩
  · intro b L es cl hb hg
    obtain ⟨es', k1, k2⟩ := hR.maps b L es cl hb hg
    exact ⟨es', by rw [h3 _ (lt_of_heap k1)]; exact k1, k2⟩
  · intro b L cs hb hcs
    obtain ⟨q1, el, fr, q2⟩ := hR.frz b L cs hb hcs
    exact ⟨q1, el, fr, by rw [h3 _ (lt_of_heap q2)]; exact q2⟩
theorem PK.look {p as : List Value} {k : Value → Prop} (h : PK P g p k) (hr : ∀ r, k r → ground r = true) {H : Heap} (ha : FzRels P H p as) : ACalls P g as H fun v H' => k v ∧ H' = H :=
  PK.lookV h (fun r hk => .ground (hr r hk)) ha
end Go.Abs

/- Frozen slices: what operations on them come to; how calls of values are used; arguments of laws. -/
set_option linter.unusedVariables false
set_option linter.unusedSimpArgs false
set_option maxRecDepth 10000
namespace Go.Abs
open Go
variable {P : Program} {H H' : Heap} {n : Nat} {cells : List Value} {t e : TypeId}

theorem len_fz (ht : isSliceT P t = true) : aLen P t (fzv n cells) = some (.int .i64 n) := by
  simp only [aLen, fzv, ht, if_true, fzParts_fz, Option.map_some]; rfl
theorem len_nil (ht : isSliceT P t = true) : aLen P t (.slice none 0 0) = some (.int .i64 0) := by
  simp only [aLen, ht, if_true]; rfl

/-- How an element's cells are told. -/
structure En (α : Type) where
  enc : α → List Value
  es : Nat
  d : α
  len : ∀ a, (enc a).length = es
/-- A frozen slice of elements. -/
def Vv {α : Type} (e : En α) (l : List α) : Value := fzv l.length (l.flatMap e.enc)
variable {α : Type} {E : En α} {l : List α}
theorem isSl_Vv : isSl (Vv E l) = true := rfl
/-! ### what elements there are -/
def eU : En Int := ⟨fun x => [.int .u32 x], 1, 0, fun _ => rfl⟩
def eN : En Int := ⟨fun x => [.int .i64 x], 1, 0, fun _ => rfl⟩
def eY : En Int := ⟨fun x => [.int .u8 x], 1, 0, fun _ => rfl⟩
def eJ : En Int := ⟨fun x => [.int .i8 x], 1, 0, fun _ => rfl⟩
def eB : En Bool := ⟨fun x => [.bool x], 1, false, fun _ => rfl⟩
def eS : En ByteArray := ⟨fun x => [.string x], 1, .empty, fun _ => rfl⟩
/-- A number's parts; a quotient's; one with ends. -/
structure RI where
  neg : Bool
  l : List Int
structure RQ where
  p : RI
  q : RI
structure RX where
  kind : Int
  v : RQ
def eI : En RI := ⟨fun a => [.bool a.neg, Vv eU a.l], 2, ⟨false, []⟩, fun _ => rfl⟩
def eQ : En RQ := ⟨fun a => [.bool a.p.neg, Vv eU a.p.l, .bool a.q.neg, Vv eU a.q.l], 4, ⟨⟨false, []⟩, ⟨false, []⟩⟩, fun _ => rfl⟩
def eX : En RX := ⟨fun a => [.int .i64 a.kind, .bool a.v.p.neg, Vv eU a.v.p.l, .bool a.v.q.neg, Vv eU a.v.q.l], 5, ⟨0, ⟨⟨false, []⟩, ⟨false, []⟩⟩⟩, fun _ => rfl⟩
def eR : En (List RQ) := ⟨fun r => [Vv eQ r], 1, [], fun _ => rfl⟩
def eNs : En (List Int) := ⟨fun r => [Vv eN r], 1, [], fun _ => rfl⟩
theorem eU_enc {x : Int} : eU.enc x = [.int .u32 x] := _root_.id rfl
theorem eN_enc {x : Int} : eN.enc x = [.int .i64 x] := _root_.id rfl
theorem eY_enc {x : Int} : eY.enc x = [.int .u8 x] := _root_.id rfl
theorem eJ_enc {x : Int} : eJ.enc x = [.int .i8 x] := _root_.id rfl
theorem eB_enc {x : Bool} : eB.enc x = [.bool x] := _root_.id rfl
theorem eS_enc {x : ByteArray} : eS.enc x = [.string x] := _root_.id rfl
theorem eI_enc {a : RI} : eI.enc a = [.bool a.neg, Vv eU a.l] := _root_.id rfl
theorem eQ_enc {a : RQ} : eQ.enc a = [.bool a.p.neg, Vv eU a.p.l, .bool a.q.neg, Vv eU a.q.l] := _root_.id rfl
theorem eX_enc {a : RX} : eX.enc a = [.int .i64 a.kind, .bool a.v.p.neg, Vv eU a.v.p.l, .bool a.v.q.neg, Vv eU a.v.q.l] := _root_.id rfl
theorem eR_enc {r : List RQ} : eR.enc r = [Vv eQ r] := _root_.id rfl
theorem eNs_enc {r : List Int} : eNs.enc r = [Vv eN r] := _root_.id rfl
theorem eU_d : eU.d = 0 := _root_.id rfl
theorem eN_d : eN.d = 0 := _root_.id rfl
theorem eY_d : eY.d = 0 := _root_.id rfl
theorem eJ_d : eJ.d = 0 := _root_.id rfl
theorem eB_d : eB.d = false := _root_.id rfl
theorem eR_d : eR.d = [] := _root_.id rfl
theorem eNs_d : eNs.d = [] := _root_.id rfl
attribute [go_sem] eU_enc eN_enc eY_enc eJ_enc eB_enc eS_enc eI_enc eQ_enc eX_enc eR_enc eNs_enc eU_d eN_d eY_d eJ_d eB_d eR_d eNs_d get_bump next_bump get_E0 next_E0

theorem isSl_if {c : Prop} [Decidable c] {a b : Value} (h1 : isSl a = true) (h2 : isSl b = true) : isSl (if c then a else b) = true := by split <;> assumption
theorem En.flat_length (E : En α) : ∀ l : List α, (l.flatMap E.enc).length = l.length * E.es
  | [] => by simp
  | a :: l => by rw [List.flatMap_cons, List.length_append, E.len, E.flat_length l, List.length_cons, Nat.succ_mul, Nat.add_comm]
theorem En.flat_drop (E : En α) : ∀ (l : List α) (i : Nat), (l.flatMap E.enc).drop (i * E.es) = (l.drop i).flatMap E.enc
  | l, 0 => by simp
  | [], i + 1 => by simp
  | a :: l, i + 1 => by
    have h1 := E.len a
    rw [List.flatMap_cons, List.drop_succ_cons, ← E.flat_drop l i, Nat.succ_mul, Nat.add_comm, ← List.drop_drop]
    congr 1
    rw [← h1, List.drop_left]
theorem En.flat_take (E : En α) : ∀ (l : List α) (i : Nat), (l.flatMap E.enc).take (i * E.es) = (l.take i).flatMap E.enc
  | l, 0 => by simp
  | [], i + 1 => by simp
  | a :: l, i + 1 => by
    have h1 := E.len a
    rw [List.flatMap_cons, List.take_succ_cons, List.flatMap_cons, ← E.flat_take l i, Nat.succ_mul, List.take_append, h1]
    congr 1
    · exact List.take_of_length_le (by omega)
    · congr 1; omega
theorem En.flat_part (E : En α) {l : List α} {i : Nat} (hi : i < l.length) : ((l.flatMap E.enc).drop (i * E.es)).take E.es = E.enc (l.getD i E.d) := by
  rw [E.flat_drop, List.drop_eq_getElem_cons hi, List.flatMap_cons, List.getD_eq_getElem?_getD, List.getElem?_eq_getElem hi]
  simp only [Option.getD_some]
  have h1 := E.len l[i]
  rw [← h1, List.take_left]
theorem idx_Vv (ht : P.underlying t = some (.slice e)) {k : Nat} (hs : szOf P e = k) (hz : sized P e = true) (he : E.es = k) {ik : IntKind} {i : Int} (h0 : 0 ≤ i) (h1 : i < l.length) :
    aIndexAddr P t (Vv E l) (.int ik i) = some (fpv (E.enc (l.getD i.toNat E.d))) := by
  subst he
  simp only [aIndexAddr, Vv, fzv, ht, fzParts_fz]
  rw [if_pos ⟨h0, h1, hz, by rw [E.flat_length, hs]⟩, hs, E.flat_part (by omega)]
theorem slice_Vv (ht : P.underlying t = some (.slice e)) {k : Nat} (hs : szOf P e = k) (hz : sized P e = true) (he : E.es = k) {lo hi : Option Value} {a b : Nat} (h1 : aBound l.length l.length hi = some b) (h2 : aBound 0 b lo = some a) (hab : a ≤ b) (hb : b ≤ l.length) :
    aSlice P H t (Vv E l) lo hi none = some (Vv E ((l.take b).drop a)) := by
  subst he
  simp only [aSlice, Vv, fzv, ht, fzParts_fz]
  rw [if_pos ⟨hz, by rw [E.flat_length, hs]⟩, h1]
  simp only [h2, hs]
  rw [E.flat_drop, E.flat_take]
  simp only [fzv, List.length_drop, List.length_take, Nat.min_eq_left hb]
  rw [List.drop_take]
theorem upto_Vv (ht : P.underlying t = some (.slice e)) {k : Nat} (hs : szOf P e = k) (hz : sized P e = true) (he : E.es = k) {ik : IntKind} {i : Int} (h0 : 0 ≤ i) (h1 : i ≤ l.length) :
    aSlice P H t (Vv E l) none (some (.int ik i)) none = some (Vv E (l.take i.toNat)) := by
  have := slice_Vv (H := H) (lo := none) (hi := some (.int ik i)) (a := 0) (b := i.toNat) ht hs hz he (by simp only [aBound]; rw [if_pos ⟨h0, h1⟩]) rfl (by omega) (by omega)
  simpa using this
theorem from_Vv (ht : P.underlying t = some (.slice e)) {k : Nat} (hs : szOf P e = k) (hz : sized P e = true) (he : E.es = k) {ik : IntKind} {i : Int} (h0 : 0 ≤ i) (h1 : i ≤ l.length) :
    aSlice P H t (Vv E l) (some (.int ik i)) none none = some (Vv E (l.drop i.toNat)) := by
  have := slice_Vv (H := H) (lo := some (.int ik i)) (hi := none) (a := i.toNat) (b := l.length) ht hs hz he rfl (by simp only [aBound]; rw [if_pos ⟨h0, h1⟩]) (by omega) (Nat.le_refl _)
  simpa using this
theorem src_Vv (H : Heap) : srcCells H E.es (Vv E l) = some (l.flatMap E.enc) := by
  simp only [srcCells, Vv, fzv, fzParts_fz]
  rw [if_pos (E.flat_length l)]
theorem lenV_Vv : lenV (Vv E l) = some l.length := by simp only [lenV, Vv, fzv, fzParts_fz, Option.map_some]

/-! ### addresses and parts, by types -/
theorem faddr_own {s ft : TypeId} {fs : Array Field} {f off k b o : Nat} (hu : P.underlying s = some (.struct fs)) (hf : (fs[f]?).map (fun d => (d.type, d.offset)) = some (ft, off)) (hz : sized P ft = true) (hs : szOf P ft = k) (hk : k ≠ 0) :
    aFieldAddr P s (.pointer (some ⟨b, o, none⟩)) f = some (.pointer (some ⟨b, o + off, none⟩)) := by
  simp only [aFieldAddr, hu]
  cases hd : fs[f]? with
  | none => rw [hd] at hf; cases hf
  | some d =>
    rw [hd] at hf
    simp only [Option.map_some, Option.some.injEq, Prod.mk.injEq] at hf
    obtain ⟨rfl, rfl⟩ := hf
    exact if_pos ⟨hz, by rw [hs]; exact hk⟩
theorem faddr_fz {s ft : TypeId} {fs : Array Field} {f off k : Nat} (hu : P.underlying s = some (.struct fs)) (hf : (fs[f]?).map (fun d => (d.type, d.offset)) = some (ft, off)) (hz : sized P ft = true) (hs : szOf P ft = k) (hk : k ≠ 0) (hl : off + k ≤ cells.length) :
    aFieldAddr P s (fpv cells) f = some (fpv ((cells.drop off).take k)) := by
  simp only [aFieldAddr, fpv, hu]
  cases hd : fs[f]? with
  | none => rw [hd] at hf; cases hf
  | some d =>
    rw [hd] at hf
    simp only [Option.map_some, Option.some.injEq, Prod.mk.injEq] at hf
    obtain ⟨rfl, rfl⟩ := hf
    simp only
    rw [if_pos ⟨trivial, hz, by rw [hs]; exact hk, by rw [hs]; exact hl⟩, hs]
theorem field_row {s ft : TypeId} {fs : Array Field} {f off k : Nat} (hu : P.underlying s = some (.struct fs)) (hf : (fs[f]?).map (fun d => (d.type, d.offset)) = some (ft, off)) (hr : isRowT P ft = some true) (hz : sized P ft = true) (hs : szOf P ft = k) :
    aField P s (.agg ⟨cells⟩) f = some (.agg ⟨(cells.drop off).take k⟩) := by
  simp only [aField, hu]
  cases hd : fs[f]? with
  | none => rw [hd] at hf; cases hf
  | some d =>
    rw [hd] at hf
    simp only [Option.map_some, Option.some.injEq, Prod.mk.injEq] at hf
    obtain ⟨rfl, rfl⟩ := hf
    simp only [aPart, hr, hz, if_true, hs]
theorem field_one {s ft : TypeId} {fs : Array Field} {f off : Nat} {v : Value} (hu : P.underlying s = some (.struct fs)) (hf : (fs[f]?).map (fun d => (d.type, d.offset)) = some (ft, off)) (hr : isRowT P ft = some false) (hv : cells[off]? = some v) :
    aField P s (.agg ⟨cells⟩) f = some v := by
  simp only [aField, hu]
  cases hd : fs[f]? with
  | none => rw [hd] at hf; cases hf
  | some d =>
    rw [hd] at hf
    simp only [Option.map_some, Option.some.injEq, Prod.mk.injEq] at hf
    obtain ⟨rfl, rfl⟩ := hf
    simp only [aPart, hr, hv]
theorem load_fz_row {k : Nat} (hr : isRowT P t = some true) (hz : sized P t = true) (hs : szOf P t = k) (hl : cells.length = k) : aLoad P H t (fpv cells) = some (.agg ⟨cells⟩) := by
  simp only [aLoad, fpv, hr, if_true]
  rw [if_pos ⟨hz, by rw [hs]; exact hl⟩]
theorem load_fz_one {v : Value} (hr : isRowT P t = some false) : aLoad P H t (fpv [v]) = some v := by
  simp only [aLoad, fpv, hr, if_true]; rfl
/-- So many times a value's cells. -/
def repC (n : Nat) (zs : List Value) : List Value := (List.replicate n zs).flatten
theorem made_repC {z : Array Value} (hz : 0 < z.size) : ∀ m : Nat, (madeCells z (m * z.size)).toList = repC m z.toList
  | 0 => by simp [madeCells, repC]
  | m + 1 => by
    have ih := made_repC hz m
    simp only [madeCells, Array.toList_map, Array.toList_range] at ih ⊢
    rw [Nat.succ_mul, Nat.add_comm, List.range_add, List.map_append, List.map_map]
    have h1 : (List.range z.size).map (fun i => z[i % z.size]!) = z.toList := by
      apply List.ext_getElem
      · simp
      · intro i h1 h2
        simp at h1
        rw [List.getElem_map, List.getElem_range, Nat.mod_eq_of_lt h1]
        simp [h1]
    have h2 : (fun i => z[i % z.size]!) ∘ (fun x => z.size + x) = fun i => z[i % z.size]! := by
      funext i; simp
    rw [h2, ih, h1, repC, repC, List.replicate_succ, List.flatten_cons]
theorem s_makes {el : TypeId} {e : Env} {K : Value → Heap → Prop} {d : Option Tmp} {ty : TypeId} {ps : String} {af : Array Edge} {gd : Option (Nat × Bool)} {i : TypeInfo} {z : Value} (hi : P.info? el = some i) (ht : P.underlying t = some (.slice el)) (hz : i.zero = some z) (hzg : z.cells.toList.all ground = true ∧ z.cells.size = i.size ∧ 0 < i.size) {b : Nat} (hb : i.bytes = b) {x y : Operand} :
    aStep P e H ⟨d, .makeSlice t x y, ty, ps, af, gd⟩ K = ob (e x) fun a => ob (e y) fun c => ob (aMk b a c) fun p => K (.slice (some ⟨H.next, 0, none⟩) p.1 p.2) (H.push (.row true el (repC p.2 z.cells.toList))) := by
  subst hb
  rw [s_new rfl]
  simp only [aNew, ht]
  cases e x with
  | none => simp
  | some a =>
    cases e y with
    | none => cases a <;> rfl
    | some b =>
      cases a with
      | int k n =>
        cases b with
        | int k' m =>
          simp only [ob_some, hi, hz, aMk]
          by_cases hc : 0 ≤ n ∧ n ≤ m ∧ m ≤ 9223372036854775807 ∧ (i.bytes : Int) * m ≤ 281474976710656
          · rw [if_pos ⟨hc.1, hc.2.1, hc.2.2.1, hc.2.2.2, hzg.1, hzg.2.1⟩, if_pos hc]
            simp only [ob_some]
            rw [← hzg.2.1, made_repC (by omega)]
          · rw [if_neg (fun h => hc ⟨h.1, h.2.1, h.2.2.1, h.2.2.2.1⟩), if_neg hc]; rfl
        | _ => rfl
      | _ => rfl
theorem g_il {a b : Int} (h : a < b) : a < b := h
theorem g_ie {a b : Int} (h : a ≤ b) : a ≤ b := h
theorem g_nl {a b : Nat} (h : a < b) : a < b := h
theorem g_ne {a b : Nat} (h : a ≤ b) : a ≤ b := h
theorem g_xil {a b : Int} (h : ¬ a < b) : ¬ a < b := h
theorem g_xie {a b : Int} (h : ¬ a ≤ b) : ¬ a ≤ b := h
theorem g_xnl {a b : Nat} (h : ¬ a < b) : ¬ a < b := h
theorem g_xne {a b : Nat} (h : ¬ a ≤ b) : ¬ a ≤ b := h
theorem g_qn {a b : Nat} (h : a = b) : a = b := h
theorem g_qi {a b : Int} (h : a = b) : a = b := h
theorem g_dn {a b : Nat} (h : a ≠ b) : a ≠ b := h
theorem g_di {a b : Int} (h : a ≠ b) : a ≠ b := h
/-- A side goal. -/
theorem sd {p : Prop} (h : p := by first | assumption | exact isSl_slice | exact isSl_fz | exact isSl_Vv | (refine g_il ?_; omega) | (refine g_ie ?_; omega) | (refine g_nl ?_; omega) | (refine g_ne ?_; omega) | (refine g_xil ?_; omega) | (refine g_xie ?_; omega) | (refine g_xnl ?_; omega) | (refine g_xne ?_; omega) | (refine g_qn ?_; omega) | (refine g_qi ?_; omega) | (refine g_dn ?_; omega) | (refine g_di ?_; omega) | (simp only [Heap.next_push, Heap.next_set, Heap.next_kill, next_bump, next_E0, wr_next, ne_eq] <;> omega) | (refine plan_ok ?_; decide +kernel) | (refine drawn_ok ?_; decide +kernel) | ((repeat apply Hle.push); first | exact Hle.rfl | assumption)) : p := h
/-- Old memory stands: by what is known of each step. -/
theorem Hle.auto {H H' : Heap} (h : Hle H H' := by repeat (first | exact Hle.rfl | assumption | apply Hle.push | (refine Hle.set ?_ (by exact sd) _) | (refine Hle.kill ?_ (by exact sd)) | (refine Hle.wr ?_ (by exact sd) _ _) | refine Hle.trans ?_ hle3 | refine Hle.trans ?_ hle4 | refine Hle.trans ?_ h1 | refine Hle.trans ?_ h2 | refine Hle.trans ?_ h3 | refine Hle.trans ?_ h4 | refine Hle.trans ?_ h5 | refine Hle.trans ?_ h6 | refine Hle.trans ?_ h7 | refine Hle.trans ?_ h8 | refine Hle.trans ?_ h9 | refine Hle.trans ?_ h10 | refine Hle.trans ?_ h11 | refine Hle.trans ?_ h12 | refine Hle.trans ?_ h13 | refine Hle.trans ?_ h14 | refine Hle.trans ?_ h15 | refine Hle.trans ?_ h16 | refine Hle.trans ?_ h17 | refine Hle.trans ?_ h18 | refine Hle.trans ?_ h19 | refine Hle.trans ?_ h20 | refine Hle.trans ?_ h21 | refine Hle.trans ?_ h22 | refine Hle.trans ?_ h23 | refine Hle.trans ?_ h24 | refine Hle.trans ?_ h25 | refine Hle.trans ?_ h26 | refine Hle.trans ?_ h27 | refine Hle.trans ?_ h28 | refine Hle.trans ?_ h29 | refine Hle.trans ?_ h30)) : Hle H H' := h

end Go.Abs
