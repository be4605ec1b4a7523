/- Joined: B7, B8. -/
import Derived.Test.YtboekagofficpaaGreatBf
/- How calls of values are used; contracts on rows told as calls of values; arguments of laws. -/
set_option linter.unusedVariables false
set_option linter.unusedSimpArgs false
namespace Go.Abs
open Go
variable {P : Program} {H H' : Heap} {n : Nat} {cells : List Value} {g : FuncId} {K : Value → Heap → Prop}

/-! ### a call of values, in a walk -/
theorem PC.step {ps : List Value} {r : Value} (h : PC P g ps r) (k : ∀ m, H.next ≤ m → K r (H.bump m)) : ACalls P g ps H K :=
  (h.use H).mono fun v H' ⟨h1, m, h2, h3⟩ => by rw [h1, h3]; exact k m h2
theorem PK.step {ps : List Value} {q : Value → Prop} (h : PK P g ps q) (k : ∀ r m, q r → H.next ≤ m → K r (H.bump m)) : ACalls P g ps H K :=
  (h.use H).mono fun v H' ⟨h1, m, h2, h3⟩ => by rw [h3]; exact k v m h1 h2
theorem PC.peek {ps as : List Value} {r : Value} (h : PC P g ps r) (hr : ground r = true) (ha : FzRels P H ps as) (k : K r H) : ACalls P g as H K :=
  (h.look (fun _ e => by rw [e]; exact hr) ha).mono fun v H' ⟨h1, h2⟩ => by rw [h1, h2]; exact k
theorem PC.peekV {ps as : List Value} {r : Value} (h : PC P g ps r) (hr : Vd r) (ha : FzRels P H ps as) (k : K r H) : ACalls P g as H K :=
  (PK.lookV h (fun x e => by rw [e]; exact hr) ha).mono (by rintro v H' ⟨rfl, rfl⟩; exact k)
theorem PC.of {ps : List Value} {r : Value} (h1 : Pus ps) (h2 : Pu r) (h : ∀ n, 0 < n → ACalls P g ps (E0 n) fun v H' => FzRel P H' r v) : PC P g ps r := ⟨h1, fun n hn => (h n hn).mono fun v H' h => ⟨r, h, h2, rfl⟩⟩
theorem PC.of' {ps : List Value} {q : Value → Prop} (h1 : Pus ps) (h : ∀ n, 0 < n → ACalls P g ps (E0 n) fun v H' => ∃ r, FzRel P H' r v ∧ Pu r ∧ q r) : PK P g ps q := ⟨h1, h⟩
theorem PC.ok {ps : List Value} {r : Value} (h : PC P g ps r) {r' : Value} (e : r = r') : PC P g ps r' := e ▸ h
/-- A closed call that the evaluator reckons. -/
theorem PC.reckoned (hm : P.follows .mixedOrders = true) {n : Nat} (h : reckons P n g [] isTrue = true) : PC P g [] (.bool true) :=
  .of .nil (.ground rfl) fun m _ => (ACalls.reckoned hm rfl h (E0 m)).mono fun v H' ⟨h1, _⟩ => by rw [h1]; exact .rfl
/-- A call as a law wants it. -/
theorem PC.law {ps as : List Value} {b : Bool} (h : PC P g ps (.bool b)) {H : Heap} (ha : FzRels P H ps as) : ACalls P g as H fun v _ => v = .bool b :=
  (h.look (fun _ e => by rw [e]; rfl) ha).mono fun v H' ⟨h1, _⟩ => h1

/-! ### from frozen values to rows -/
/-- A row that stands for frozen memory. -/
theorem Ext.thaw {ρ : Ren} {w : World} (h : HRel P ρ H w) {b off : Nat} {L : Loc} {cs : List Value} (hb : ρ b = some L) (hf : L.frz = some cs)
    (hl : L.base + off + cells.length ≤ cs.length) (hc : VRels ρ cells ((cs.drop (L.base + off)).take cells.length)) :
    ∃ el, Ext P ρ H w (ρ.add H.next ⟨L.blk, L.base + off, false, 0, 0, none⟩) (H.push (.row false el cells)) w := by
  obtain ⟨hown, el, fr, hw⟩ := h.frz b L cs hb hf
  have hle := h.le_add ⟨L.blk, L.base + off, false, 0, 0, none⟩
  refine ⟨el, hle, ?_, by simp, Nat.le_refl _, ?_, fun _ _ _ => rfl, rfl, rfl, rfl, ⟨?_, ?_, ?_, ?_, ?_, ?_, ?_, ?_, fun c L' hc => by
    simp only [Ren.add] at hc
    split at hc
    · injection hc with hc; subst hc; exact lt_of_heap hw
    · exact h.bnd c L' hc⟩, ?_⟩
  · intro c hc' hn
    exact ⟨by simp only [Ren.add]; rw [if_neg (by omega)]; exact hn, by rw [get_push_ne (by omega)]⟩
  · intro c L' hc' ho
    simp only [Ren.add] at hc'
    split at hc'
    · injection hc' with hc'; subst hc'; cases ho
    · exact .inl ⟨c, L', hc', ho, rfl⟩
  · intro c L' hc'
    simp only [Ren.add] at hc'
    split at hc'
    · rename_i e; subst e; simp
    · have := h.dom c L' hc'; simp; omega
  · intro c L' own ce ccs hc' hg
    rw [Heap.get_push] at hg
    simp only [Ren.add] at hc'
    split at hc'
    · rename_i e
      rw [if_pos e] at hg
      injection hc' with hc'; injection hg with hg; injection hg with g1 g2 g3
      subst hc'; subst g1; subst g2; subst g3
      refine ⟨⟨cs⟩, fr, hw, ?_, rfl, fun h => by cases h⟩
      · intro i v hv
        obtain ⟨v', k1, k2⟩ := hc.get i v hv
        rw [List.getElem?_take] at k1
        split at k1
        · rw [List.getElem?_drop] at k1
          exact ⟨v', by simpa using k1, k2.mono hle⟩
        · cases k1
    · rename_i e
      rw [if_neg e] at hg
      obtain ⟨cs', fr', q1, q2, q3⟩ := h.rows c L' own ce ccs hc' hg
      refine ⟨cs', fr', q1, fun i v hv => ?_, q3⟩
      obtain ⟨v', k1, k2⟩ := q2 i v hv
      exact ⟨v', k1, k2.mono hle⟩
  · intro c L' es cl hc' hg
    rw [Heap.get_push] at hg
    simp only [Ren.add] at hc'
    split at hc'
    · rename_i e; rw [if_pos e] at hg; cases hg
    · rename_i e
      rw [if_neg e] at hg
      obtain ⟨es', q1, q2, q3, q4, q5⟩ := h.maps c L' es cl hc' hg
      refine ⟨es', q1, q2, q3, q4, fun i x hx => ?_⟩
      obtain ⟨x', s1, s2, s3, s4, s5⟩ := q5 i x hx
      exact ⟨x', s1, s2, s3, s4, s5.mono hle⟩
  · intro c hc'
    simp only [Heap.next_push] at hc'
    rw [get_push_ne (by omega)]; exact h.free c (by omega)
  · obtain ⟨v1, v2, v3⟩ := h.void
    exact ⟨by simp only [Ren.add]; rw [if_neg (by omega)]; exact v1, by rw [get_push_ne (by omega)]; exact v2, by simp⟩
  · intro b1 b2 L1 L2 o2 hne e1 e2 g1 g1' g2
    rw [Heap.get_push] at g1 g1' g2
    simp only [Ren.add] at e1 e2
    split at e1
    · rename_i e; exact absurd (if_pos e) (g1 el cells)
    · rename_i x1
      rw [if_neg x1] at g1 g1'
      split at e2
      · injection e2 with e2; subst e2
        exact h.frinj b1 b L1 L cs e1 hb hf g1 g1'
      · rename_i x2
        rw [if_neg x2] at g2
        exact h.inj b1 b2 L1 L2 o2 hne e1 e2 g1 g1' g2
  · intro c L' fs hc' hf'
    simp only [Ren.add] at hc'
    split at hc'
    · injection hc' with hc'; subst hc'; cases hf'
    · exact h.frz c L' fs hc' hf'
  · intro b1 b2 L1 L2 fs e1 e2 hf' g1 g1'
    rw [Heap.get_push] at g1 g1'
    simp only [Ren.add] at e1 e2
    split at e1
    · rename_i e; exact absurd (if_pos e) (g1 el cells)
    · rename_i x1
      rw [if_neg x1] at g1 g1'
      split at e2
      · injection e2 with e2; subst e2; cases hf'
      · exact h.frinj b1 b2 L1 L2 fs e1 e2 hf' g1 g1'
  · intro c L' hc'
    simp only [Ren.add] at hc'
    split at hc'
    · injection hc' with hc'; subst hc'; exact .inl ⟨b, L, hb, rfl⟩
    · exact .inl ⟨c, L', hc', rfl⟩

/-- A frozen slice as one of a row. -/
theorem VRel.thaw {ρ : Ren} {w : World} (h : HRel P ρ H w) {es : Nat} {v' : Value} (hl : cells.length = n * es) (hv : VRel ρ (fzv n cells) v') :
    ∃ sl ρ' H', Ext P ρ H w ρ' H' w ∧ Hle H H' ∧ VRel ρ' sl v' ∧ Sl P H' es sl n cells := by
  rcases hv.frozen with ⟨b, off, L, cs, c, h1, hf, hn, hb, hc, rfl⟩ | ⟨rfl, rfl, rfl⟩ | ⟨rfl, rfl, a, c, rfl⟩
  · obtain ⟨el, hE⟩ := Ext.thaw h h1 hf hb hc
    refine ⟨.slice (some ⟨H.next, 0, none⟩) n unk, _, _, hE, Hle.push0 _, ?_, ?_⟩
    · have := VRel.slu (ρ := ρ.add H.next ⟨L.blk, L.base + off, false, 0, 0, none⟩) (b := H.next) (off := 0) (n := n) (c := c) (Ren.add_self _ _ _) hn (fun h => by cases h)
      simpa using this
    · have := Sl.row (P := P) (H := H.push (.row false el cells)) (es := es) (b := H.next) (off := 0) (n := n) (c := unk) (get_push_self _ _) (by simp) (.inl rfl) (.inl rfl) (by omega)
      rw [List.drop_zero, List.take_of_length_le (by omega)] at this
      exact this
  · exact ⟨.slice none 0 0, ρ, H, Ext.refl h, Hle.rfl, .ground rfl, .nil⟩
  · exact ⟨.slice (some ⟨0, 0, none⟩) 0 unk, ρ, H, Ext.refl h, Hle.rfl, .void, .void⟩

/-! ### nil slices where a frozen one is wanted -/
mutual
/-- A frozen value, told as it may stand in the code: nil for an empty slice. -/
inductive Nz : Value → Value → Prop
  | rfl {v : Value} : Nz v v
  | nil : Nz (fzv 0 []) (.slice none 0 0)
  | agg {ps vs : List Value} (h : Nzs ps vs) : Nz (.agg ⟨ps⟩) (.agg ⟨vs⟩)
  | tuple {ps vs : List Value} (h : Nzs ps vs) : Nz (.tuple ⟨ps⟩) (.tuple ⟨vs⟩)
inductive Nzs : List Value → List Value → Prop
  | nil : Nzs [] []
  | cons {p v : Value} {ps vs : List Value} (h : Nz p v) (hs : Nzs ps vs) : Nzs (p :: ps) (v :: vs)
end
theorem Nzs.refl : ∀ {vs : List Value}, Nzs vs vs
  | [] => .nil
  | _ :: _ => .cons .rfl Nzs.refl
mutual
theorem Nz.rel {ρ : Ren} : ∀ {p v v' : Value}, Nz p v → VRel ρ v v' → VRel ρ p v'
  | _, _, _, .rfl, h => h
  | _, _, _, .nil, h => by rw [h.snone]; exact .fznil
  | _, _, _, .agg hs, h => by
    obtain ⟨xs, rfl, h1⟩ := h.aggr
    exact .agg (Nzs.rel hs h1)
  | _, _, _, .tuple hs, h => by
    obtain ⟨xs, rfl, h1⟩ := h.tup
    exact .tuple (Nzs.rel hs h1)
theorem Nzs.rel {ρ : Ren} : ∀ {ps vs vs' : List Value}, Nzs ps vs → VRels ρ vs vs' → VRels ρ ps vs'
  | _, _, _, .nil, .nil => .nil
  | _, _, _, .cons h hs, .cons k ks => .cons (Nz.rel h k) (Nzs.rel hs ks)
end
mutual
theorem FzRel.nz : ∀ {p v : Value}, Nz p v → FzRel P H p v
  | _, _, .rfl => .rfl
  | _, _, .nil => .sl (es := 1) Nat.one_pos .nil .nil
  | _, _, .agg hs => .agg (FzRels.nz hs)
  | _, _, .tuple hs => .tuple (FzRels.nz hs)
theorem FzRels.nz : ∀ {ps vs : List Value}, Nzs ps vs → FzRels P H ps vs
  | _, _, .nil => .nil
  | _, _, .cons h hs => .cons (FzRel.nz h) (FzRels.nz hs)
end
theorem Hle.wg (H : Heap) (g : List Pin) : Hle H (H.wg g) := ⟨Nat.le_refl _, fun _ _ => Eq.refl _⟩
theorem ACalls.nz {ps as : List Value} (h : Nzs ps as) (k : ACalls P g ps H K) : ACalls P g as H K :=
  ACalls.gh ⟨rfl, fun ρ w cs hR hv => ⟨ρ, Ext.refl hR, h.rel hv⟩⟩ k
theorem Nz.vnil {α : Type} {E : En α} : Nz (Vv E []) (.slice none 0 0) := .nil
theorem Nz.form {α : Type} {E : En α} {l : List α} {v : Value} (h : Nz (Vv E l) v) : v = Vv E l ∨ (l = [] ∧ v = .slice none 0 0) := by
  generalize e : Vv E l = u at h
  cases h with
  | rfl => exact .inl (Eq.refl _)
  | nil =>
    right
    unfold Vv fzv at e
    injection e with e1 e2; injection e2 with e2; injection e2 with e2; injection e2 with e2 e3
    injection e2 with _ e2
    have e2 := Int.ofNat.inj e2
    exact ⟨List.length_eq_zero_iff.1 e2, Eq.refl _⟩
  | agg => unfold Vv fzv at e; cases e
  | tuple => unfold Vv fzv at e; cases e
theorem Nz.len {α : Type} {E : En α} {l : List α} {v : Value} (h : Nz (Vv E l) v) {t : TypeId} (ht : isSliceT P t = true) : aLen P t v = some (.int .i64 l.length) := by
  rcases h.form with rfl | ⟨rfl, rfl⟩
  · exact len_fz ht
  · exact len_nil ht
theorem Nz.isSl {α : Type} {E : En α} {l : List α} {v : Value} (h : Nz (Vv E l) v) : isSl v = true := by
  rcases h.form with rfl | ⟨rfl, rfl⟩ <;> exact Eq.refl _

/-- A loop that leaves memory as it is. -/
theorem aw_loopS {σ : Type} {c : Code} {Q : Exit → Tm → Heap → Prop} {T : Tm} (sh : σ → (Nat → Value) → Tm) (I : Nat → σ → Prop) (n : Nat) (s0 : σ) (hs : sh s0 (fun i => T.getD i undef) = T) (h0 : I n s0)
    (h : ∀ n s J, I n s → aw P c (Kl n (IJ sh fun k s H' => I k s ∧ H' = H) Q) (sh s J) H) : aw P (.loop c) Q T H :=
  aw_loopJ sh (fun k s H' => I k s ∧ H' = H) n s0 hs ⟨h0, Eq.refl _⟩ (by rintro n s J H1 ⟨h1, rfl⟩; exact h n s J h1)

/-! ### own slices, where a call of values has been -/
theorem Hle.bump {H0 H : Heap} (h : Hle H0 H) {m : Nat} (hm : H.next ≤ m) : Hle H0 (H.bump m) := ⟨Nat.le_trans h.next hm, fun b hb => h.get b hb⟩
theorem Hle.E0 {N : Nat} {H : Heap} (h : N ≤ H.next) (hf : ∀ b, b < N → H.get b = none) : Hle (E0 N) H := ⟨h, fun b hb => by rw [hf b hb, get_E0]⟩
theorem Ow.bump {H0 H : Heap} {es : Nat} {el : TypeId} {sl : Value} {n : Nat} {cells : List Value} (h : Ow P H0 H es el sl n cells) {m : Nat} (hm : H.next ≤ m) : Ow P H0 (H.bump m) es el sl n cells :=
  h.keep (fun b _ _ _ => Eq.refl _) hm

/-! ### numbers -/
def RI.ok (a : RI) (k : Nat) : Prop := Lim a.l ∧ a.l.length ≤ k
def Iv (a : RI) : Value := .agg ⟨[.bool a.neg, Vv eU a.l]⟩
theorem eU_flat (l : List Int) : l.flatMap eU.enc = l.map (.int .u32) := by
  induction l with
  | nil => rfl
  | cons x l ih => rw [List.flatMap_cons, ih]; rfl

theorem pu_ints {k : IntKind} : ∀ {l : List Int}, Pus (l.map (.int k))
  | [] => .nil
  | _ :: _ => .cons (.ground rfl) pu_ints
theorem Pus.flat {α : Type} {f : α → List Value} : ∀ {l : List α}, (∀ a ∈ l, Pus (f a)) → Pus (l.flatMap f)
  | [], _ => .nil
  | a :: l, h => by rw [List.flatMap_cons]; exact (h a (by simp)).append (Pus.flat fun b hb => h b (by simp [hb]))
theorem pu_U {l : List Int} : Pu (Vv eU l) := .fz (Pus.flat fun _ _ => .cons (.ground rfl) .nil)
theorem pu_I {a : RI} : Pu (Iv a) := .agg (.cons (.ground rfl) (.cons pu_U .nil))
theorem pu_Is {l : List RI} : Pu (Vv eI l) := .fz (Pus.flat fun _ _ => .cons (.ground rfl) (.cons pu_U .nil))

theorem VRel.thawU {ρ : Ren} {w : World} (h : HRel P ρ H w) {l : List Int} {v' : Value} (hv : VRel ρ (Vv eU l) v') : ∃ sl ρ' H', Ext P ρ H w ρ' H' w ∧ Hle H H' ∧ VRel ρ' sl v' ∧ U P H' sl l := by
  obtain ⟨sl, ρ', H', h1, h2, h3, h4⟩ := VRel.thaw h (es := 1) (by rw [eU_flat]; simp) hv
  rw [eU_flat] at h4
  exact ⟨sl, ρ', H', h1, h2, h3, h4⟩
theorem VRel.thawI {ρ : Ren} {w : World} (h : HRel P ρ H w) {a : RI} (hl : Lim a.l) {v' : Value} (hv : VRel ρ (Iv a) v') : ∃ v ρ' H', Ext P ρ H w ρ' H' w ∧ Hle H H' ∧ VRel ρ' v v' ∧ IA P H' v a.neg a.l := by
  obtain ⟨xs, rfl, h1⟩ := hv.aggr
  obtain ⟨xs⟩ := xs
  cases h1 with
  | cons q1 q2 =>
    cases q2 with
    | cons q2 q3 =>
      obtain ⟨sl, ρ', H', h1, h2, h3, h4⟩ := VRel.thawU h q2
      exact ⟨_, ρ', H', h1, h2, .agg (.cons (q1.mono h1.le) (.cons h3 (q3.mono h1.le))), sl, rfl, h4, hl⟩
theorem FzRel.ofU {sl : Value} {l : List Int} (h : U P H sl l) : FzRel P H (Vv eU l) sl := by
  unfold Vv
  rw [eU_flat]
  exact .sl Nat.one_pos h .refl
theorem FzRel.ofI {v : Value} {ng : Bool} {l : List Int} (h : IA P H v ng l) : FzRel P H (Iv ⟨ng, l⟩) v := by
  obtain ⟨sl, rfl, h1, _⟩ := h
  exact .agg (.cons .rfl (.cons (.ofU h1) .nil))

/-- A frozen value that can be told by rows, so that they are related. -/
def Th (P : Program) (p : Value) (R : Heap → Value → Prop) : Prop :=
  Pu p ∧ (∀ (ρ : Ren) (w : World) (H : Heap) (v' : Value), HRel P ρ H w → VRel ρ p v' → ∃ v ρ' H', Ext P ρ H w ρ' H' w ∧ Hle H H' ∧ VRel ρ' v v' ∧ R H' v) ∧ ∀ H H' v, Hle H H' → R H v → R H' v
theorem Th.I {a : RI} (ha : Lim a.l) : Th P (Iv a) fun H v => IA P H v a.neg a.l :=
  ⟨pu_I, fun ρ w H v' hR hv => hv.thawI hR ha, fun H H' v hle h => h.mono hle⟩
theorem Th.U {l : List Int} : Th P (Vv eU l) fun H v => U P H v l :=
  ⟨pu_U, fun ρ w H v' hR hv => hv.thawU hR, fun H H' v hle h => h.mono hle⟩
theorem Th.G {p : Value} (hp : Pu p) : Th P p fun _ v => v = p :=
  ⟨hp, fun ρ w H v' hR hv => ⟨p, ρ, H, Ext.refl hR, Hle.rfl, hv, rfl⟩, fun H H' v _ h => h⟩
theorem PK.th1 {q : Value → Prop} {p1 : Value} {R1 : Heap → Value → Prop} (t1 : Th P p1 R1) (hg : goodFn P g) (h : ∀ H v, R1 H v → ACalls P g [v] H fun u H' => ∃ r, FzRel P H' r u ∧ Pu r ∧ q r) : PK P g [p1] q :=
  ⟨.cons t1.1 .nil, fun n _ => ⟨hg, fun ρ w cargs hR hP hv => by
    obtain ⟨L⟩ := cargs
    cases hv with
    | cons q1 q2 =>
      cases q2
      obtain ⟨v, ρ1, H1, e1, _, r1, i1⟩ := t1.2.1 _ _ _ _ hR q1
      refine ((h (H1.wg []) v (t1.2.2 _ _ _ (Hle.wg _ _) i1)).2 ρ1 w ⟨[_]⟩ (e1.rel.wg _) Pins.nil (.cons r1 .nil)).mono ?_
      rintro e w' ⟨u, u', ρ2, H2, rfl, hE2, hg2, hv2, hk⟩
      exact ⟨u, u', ρ2, H2, rfl, (e1.congr (H2 := H1.wg []) rfl (fun _ => rfl)).trans hE2, hg2, hv2, hk⟩⟩⟩
theorem PK.th2 {q : Value → Prop} {p1 p2 : Value} {R1 R2 : Heap → Value → Prop} (t1 : Th P p1 R1) (t2 : Th P p2 R2) (hg : goodFn P g) (h : ∀ H v1 v2, R1 H v1 → R2 H v2 → ACalls P g [v1, v2] H fun u H' => ∃ r, FzRel P H' r u ∧ Pu r ∧ q r) : PK P g [p1, p2] q :=
  ⟨.cons t1.1 (.cons t2.1 .nil), fun n _ => ⟨hg, fun ρ w cargs hR hP hv => by
    obtain ⟨L⟩ := cargs
    cases hv with
    | cons q1 q2 =>
      cases q2 with
      | cons q2 q3 =>
        cases q3
        obtain ⟨v1, ρ1, H1, e1, _, r1, i1⟩ := t1.2.1 _ _ _ _ hR q1
        obtain ⟨v2, ρ2, H2, e2, l2, r2, i2⟩ := t2.2.1 _ _ _ _ e1.rel (q2.mono e1.le)
        refine ((h (H2.wg []) v1 v2 (t1.2.2 _ _ _ (Hle.wg _ _) (t1.2.2 _ _ _ l2 i1)) (t2.2.2 _ _ _ (Hle.wg _ _) i2)).2 ρ2 w ⟨[_, _]⟩ (e2.rel.wg _) Pins.nil (.cons (r1.mono e2.le) (.cons r2 .nil))).mono ?_
        rintro e w' ⟨u, u', ρ3, H3, rfl, hE3, hg3, hv3, hk⟩
        exact ⟨u, u', ρ3, H3, rfl, ((e1.trans e2).congr (H2 := H2.wg []) rfl (fun _ => rfl)).trans hE3, hg3, hv3, hk⟩⟩⟩

/-! ### arguments of laws, frozen -/
/-- A value of a type, by its cells, frozen. -/
def FGood (P : Program) : Nat → TypeId → List Value → Prop
  | 0, _, _ => False
  | n + 1, t, as =>
    match P.underlying t with
    | some .bool => ∃ b, as = [.bool b]
    | some (.int k) => ∃ m, as = [.int k m] ∧ (Lit.int k m).wf = true
    | some .string => ∃ s, as = [.string s] ∧ s.size ≤ maxLen
    | some (.slice e) => ∃ len cells, as = [fzv len cells] ∧ len ≤ maxLen ∧ cells.length = len * szOf P e ∧ ∀ i, i < len → FGood P n e ((cells.drop (i * szOf P e)).take (szOf P e))
    | some (.struct fs) => as.length = szOf P t ∧ ∀ f ∈ fs.toList, FGood P n f.type ((as.drop f.offset).take (szOf P f.type))
    | _ => False

theorem FzRels.append {ps qs vs us : List Value} (h : FzRels P H ps vs) (k : FzRels P H qs us) : FzRels P H (ps ++ qs) (vs ++ us) := by
  induction ps generalizing vs with
  | nil => cases h; exact k
  | cons p ps ih => cases h with | cons h1 h2 => exact .cons h1 (ih h2)

/-- What 'Good' comes to, frozen, at types of depth n. -/
def Frz (P : Program) (H : Heap) (n : Nat) : Prop := ∀ t as, plainT P n t = true → Good P H n t as → ∃ ps, FzRels P H ps as ∧ Pus ps ∧ FGood P n t ps

theorem frz_elems {n : Nat} (ih : Frz P H n) {e : TypeId} (hp : plainT P n e = true) (cells : List Value) : ∀ k, k * szOf P e ≤ cells.length → (∀ i, i < k → Good P H n e ((cells.drop (i * szOf P e)).take (szOf P e))) →
    ∃ ps, FzRels P H ps (cells.take (k * szOf P e)) ∧ Pus ps ∧ ∀ i, i < k → FGood P n e ((ps.drop (i * szOf P e)).take (szOf P e))
  | 0, _, _ => ⟨[], by rw [Nat.zero_mul, List.take_zero]; exact .nil, .nil, fun i hi => by omega⟩
  | k + 1, hk, h => by
    rw [Nat.succ_mul] at hk
    obtain ⟨ps, h1, h2, h3⟩ := frz_elems ih hp cells k (by omega) (fun i hi => h i (by omega))
    obtain ⟨qs, k1, k2, k3⟩ := ih e _ hp (h k (by omega))
    have hl := h1.length
    rw [List.length_take, Nat.min_eq_left (by omega)] at hl
    have hq := k1.length
    rw [List.length_take, List.length_drop, Nat.min_eq_left (by omega)] at hq
    refine ⟨ps ++ qs, ?_, h2.append k2, fun i hi => ?_⟩
    · rw [Nat.succ_mul, List.take_add]; exact h1.append k1
    · by_cases e1 : i < k
      · have hm := mul_part (k := szOf P e) e1
        rw [List.drop_append_of_le_length (by omega), List.take_append_of_le_length (by rw [List.length_drop]; omega)]
        exact h3 i e1
      · have : i = k := by omega
        subst this
        rw [← hl, List.drop_left, List.take_of_length_le (by omega)]
        exact k3

theorem frz_fields {n : Nat} (ih : Frz P H n) (as : List Value) : ∀ (fs : List Field) (o e : Nat), contig P fs o = some e → e ≤ as.length → (∀ f ∈ fs, plainT P n f.type = true) → (∀ f ∈ fs, Good P H n f.type ((as.drop f.offset).take (szOf P f.type))) →
    o ≤ e ∧ ∃ ps, FzRels P H ps ((as.drop o).take (e - o)) ∧ Pus ps ∧ ∀ f ∈ fs, FGood P n f.type ((ps.drop (f.offset - o)).take (szOf P f.type)) ∧ o ≤ f.offset
  | [], o, e, hc, he, _, _ => by
    simp only [contig, Option.some.injEq] at hc
    subst hc
    exact ⟨Nat.le_refl _, [], by rw [Nat.sub_self, List.take_zero]; exact .nil, .nil, fun f hf => by cases hf⟩
  | f :: fs, o, e, hc, he, hp, h => by
    simp only [contig] at hc
    split at hc
    rotate_left
    · cases hc
    rename_i hfo
    obtain ⟨h0, ps, h1, h2, h3⟩ := frz_fields ih as fs _ e hc he (fun f hf => hp f (by simp [hf])) (fun f hf => h f (by simp [hf]))
    obtain ⟨qs, k1, k2, k3⟩ := ih _ _ (hp f (by simp)) (h f (by simp))
    have hq := k1.length
    rw [hfo.1, List.length_take, List.length_drop, Nat.min_eq_left (by omega)] at hq
    refine ⟨by omega, qs ++ ps, ?_, k2.append h2, fun f' hf' => ?_⟩
    · rw [show e - o = szOf P f.type + (e - (o + szOf P f.type)) by omega, List.take_add, List.drop_drop]
      rw [hfo.1] at k1
      exact k1.append h1
    · rcases List.mem_cons.1 hf' with rfl | hf'
      · refine ⟨?_, by omega⟩
        rw [hfo.1, Nat.sub_self, List.drop_zero, ← hq, List.take_left]
        exact k3
      · obtain ⟨q1, q2⟩ := h3 f' hf'
        refine ⟨?_, by omega⟩
        rw [show f'.offset - o = qs.length + (f'.offset - (o + szOf P f.type)) by omega, ← List.drop_drop, List.drop_left]
        exact q1

theorem frz (hf : ∀ b, H.next ≤ b → H.get b = none) : ∀ n, Frz P H n
  | 0 => fun t as _ h => h.elim
  | n + 1 => by
    intro t as hp h
    have ih := frz hf n
    unfold Good at h
    unfold plainT at hp
    unfold FGood
    split at h
    · rename_i hu
      simp only [hu]
      obtain ⟨b, rfl⟩ := h
      exact ⟨_, .refl, .cons (.ground rfl) .nil, b, rfl⟩
    · rename_i k hu
      simp only [hu]
      obtain ⟨m, rfl, hm⟩ := h
      exact ⟨_, .refl, .cons (.ground rfl) .nil, m, rfl, hm⟩
    · rename_i hu
      simp only [hu]
      obtain ⟨s, rfl, hs⟩ := h
      exact ⟨_, .refl, .cons (.ground rfl) .nil, s, rfl, hs⟩
    · rename_i e hu
      simp only [hu, Bool.and_eq_true, bne_iff_ne, ne_eq] at hp ⊢
      obtain ⟨⟨hz, hnz⟩, hpe⟩ := hp
      have hpos : 0 < szOf P e := Nat.pos_of_ne_zero hnz
      rcases h with rfl | rfl | ⟨b, len, el, cells, rfl, hg, h0, hl, hc, hgood⟩
      · exact ⟨[fzv 0 []], .cons (.sl (es := 1) Nat.one_pos .nil .nil) .nil, .cons (.fz .nil) .nil, 0, [], rfl, Nat.zero_le _, by simp, fun i hi => by omega⟩
      · exact ⟨[fzv 0 []], .cons (.sl (es := 1) Nat.one_pos .void .nil) .nil, .cons (.fz .nil) .nil, 0, [], rfl, Nat.zero_le _, by simp, fun i hi => by omega⟩
      · obtain ⟨ps, h1, h2, h3⟩ := frz_elems ih hpe cells len (by omega) hgood
        have hbn : b < H.next := by
          rcases Nat.lt_or_ge b H.next with hb | hb
          · exact hb
          · rw [hf b hb] at hg; cases hg
        have hsl := Sl.row (P := P) (es := szOf P e) (off := 0) (n := len) (c := unk) hg hbn (.inl rfl) (.inl rfl) (by omega)
        rw [List.drop_zero] at hsl
        have hlen := h1.length
        rw [List.length_take, Nat.min_eq_left (by omega)] at hlen
        refine ⟨[fzv len ps], .cons (.sl hpos hsl h1) .nil, .cons (.fz h2) .nil, len, ps, rfl, hl, hlen, h3⟩
    · rename_i fs hu
      simp only [hu, Bool.and_eq_true, beq_iff_eq, List.all_eq_true] at hp ⊢
      obtain ⟨⟨hz, hct⟩, hpf⟩ := hp
      obtain ⟨h0, ps, h1, h2, h3⟩ := frz_fields ih as fs.toList 0 _ hct (by rw [h.1]; exact Nat.le_refl _) hpf h.2
      rw [List.drop_zero, Nat.sub_zero, ← h.1, List.take_length] at h1
      exact ⟨ps, h1, h2, by rw [h1.length]; exact h.1, fun f hf => by simpa using (h3 f hf).1⟩
    · exact h.elim

/-- The arguments of a law, frozen. -/
def FArg (P : Program) (n : Nat) (t : TypeId) (p : Value) : Prop :=
  match P.underlying t with
  | some (.struct _) => ∃ cs, p = .agg ⟨cs⟩ ∧ FGood P n t cs
  | _ => FGood P n t [p]
def FArgs (P : Program) (n : Nat) : List TypeId → List Value → Prop
  | [], [] => True
  | t :: ts, v :: vs => FArg P n t v ∧ FArgs P n ts vs
  | _, _ => False
theorem args_frz (hf : ∀ b, H.next ≤ b → H.get b = none) {n : Nat} : ∀ {ts : List TypeId} {xs : List Value}, (∀ t ∈ ts, plainT P n t = true) → GoodArgs P H n ts xs → ∃ ps, FzRels P H ps xs ∧ Pus ps ∧ FArgs P n ts ps
  | [], [], _, _ => ⟨[], .nil, .nil, trivial⟩
  | [], _ :: _, _, h => h.elim
  | _ :: _, [], _, h => h.elim
  | t :: ts, x :: xs, hp, h => by
    obtain ⟨h1, h2⟩ := h
    obtain ⟨ps, k1, k2, k3⟩ := args_frz hf (fun t ht => hp t (by simp [ht])) h2
    have hpt := hp t (by simp)
    unfold GoodArg at h1
    split at h1
    · rename_i fs hu
      obtain ⟨cs, rfl, hg⟩ := h1
      obtain ⟨qs, q1, q2, q3⟩ := frz hf n t cs hpt hg
      exact ⟨.agg ⟨qs⟩ :: ps, .cons (.agg q1) k1, .cons (.agg q2) k2, by unfold FArg; simp only [hu]; exact ⟨qs, rfl, q3⟩, k3⟩
    · rename_i hu
      obtain ⟨qs, q1, q2, q3⟩ := frz hf n t _ hpt h1
      cases q1 with
      | cons q1 q1' =>
        cases q1'
        cases q2 with
        | cons q2 _ =>
          refine ⟨_ :: ps, .cons q1 k1, .cons q2 k2, ?_, k3⟩
          unfold FArg
          split
          · rename_i fs hu2; exact absurd hu2 (hu fs)
          · exact q3
end Go.Abs

/- An own slice is handed on, frozen. -/
set_option linter.unusedVariables false
set_option linter.unusedSimpArgs false
namespace Go.Abs
open Go
variable {P : Program} {H : Heap} {g : FuncId} {K : Value → Heap → Prop}

theorem Gh.slice {b n c es : Nat} {own : Bool} {el : TypeId} {cells : List Value} (hg : H.get b = some (.row own el cells)) (hc : c = unk ∨ n ≤ c) (he : 0 < es) (hl : n * es ≤ cells.length) :
    Gh P [.slice (some ⟨b, 0, none⟩) n c] H [fzv n (cells.take (n * es))] ((H.kill b).bump (H.next + 1)) := ⟨rfl, fun ρ w cs hR hv => by
  cases hv with
  | cons h1 h2 =>
    cases h2
    rcases h1.ssome with ⟨b1, off1, L, c', e1, e2, rfl, hor⟩ | ⟨e1, rfl, _⟩
    rotate_left
    · injection e1 with e1
      subst e1
      rw [hR.void.2.1] at hg; cases hg
    have e1' := e1
    injection e1 with e1 e3
    subst e1; subst e3
    obtain ⟨fs, k1, k2⟩ := Ext.freeze (H' := (H.kill b).bump (H.next + 1)) hR e2 hg rfl (fun c hc => by rw [get_bump, get_kill_ne hc]) (.inr (by rw [get_bump, Heap.get_kill, if_pos rfl]))
    refine ⟨_, k1, .cons ?_ .nil⟩
    have hk : (n = 0 ∧ n * es = 0) ∨ (0 < n ∧ 0 < n * es) := by
      rcases Nat.eq_zero_or_pos n with h | h
      · left; subst h; exact ⟨rfl, Nat.zero_mul _⟩
      · right; exact ⟨h, Nat.mul_pos h he⟩
    have := VRel.fz_of (k := n * es) h1 e2 hc (by simpa using hl) k2 k1.le (Ren.add_self _ _ _) rfl rfl rfl hk
    rwa [List.drop_zero] at this⟩
/-- The last argument is an own slice. -/
theorem ACalls.frz {b n c es : Nat} {own : Bool} {el : TypeId} {cells : List Value} (hg : H.get b = some (.row own el cells)) (hc : c = unk ∨ n ≤ c) (he : 0 < es) (hl : n * es ≤ cells.length) {ps : List Value}
    (h : ACalls P g (ps ++ [fzv n (cells.take (n * es))]) ((H.kill b).bump (H.next + 1)) K) : ACalls P g (ps ++ [.slice (some ⟨b, 0, none⟩) n c]) H K := by
  refine ACalls.gh ?_ h
  clear h
  induction ps with
  | nil => exact Gh.slice hg hc he hl
  | cons p ps ih => exact Gh.tail ih
end Go.Abs
