/- Joined: V7, V8, V9. -/
import Derived.Test.YtfadclnaahanmaaV6
import Derived.Test.YtfadclnaahanmaaY1
/- Rows of quotients: sums, sizes. -/
set_option linter.unusedVariables false
set_option linter.unusedSimpArgs false
namespace Go.Abs
open Go Go.Proofs
set_option maxRecDepth 100000
set_option maxHeartbeats 4000000

/-! ### plainly -/
def pl85_7 : Plan := ⟨[0, 1, 2, 3, 4, 5, 6, 7, 8], [(9, [0], []), (10, [], []), (11, [], [])]⟩
def vq (a : RQ) : Rat := dq a.p.neg a.p.l a.q.neg a.q.l
def rq (x : Rat) : RQ := ⟨⟨sgn x.num, lmb x.num⟩, ⟨sgn x.den, lmb x.den⟩⟩
theorem vq_rq (x : Rat) : vq (rq x) = x := dq_q x
theorem vq_d : vq eQ.d = 0 := dq_nought
def sumI : Nat → (Nat → Rat) → Rat
  | 0, _ => 0
  | n + 1, f => sumI n f + f n
theorem lq_sumI {f : Nat → Rat} {B : Nat} : ∀ {n : Nat}, (∀ i, i < n → lq (f i) ≤ B) → lq (sumI n f) ≤ n * (B + 1) + 1
  | 0, _ => by rw [sumI, lq_zero]; omega
  | n + 1, h => by
    have h1 := lq_sumI (n := n) fun i hi => h i (by omega)
    have h2 := h n (by omega)
    have h3 := lq_add (sumI n f) (f n)
    rw [sumI, Nat.succ_mul]
    omega
def ev (l : List RQ) (i : Nat) : Rat := vq (l.getD i eQ.d)
theorem ev_lt {l : List RQ} {i : Nat} (h : i < l.length) : ev l i = vq l[i] := by
  unfold ev; rw [List.getD_eq_getElem?_getD, List.getElem?_eq_getElem h]; rfl
theorem ev_ge {l : List RQ} {i : Nat} (h : l.length ≤ i) : ev l i = 0 := by
  unfold ev; rw [List.getD_eq_getElem?_getD, List.getElem?_eq_none h]; exact vq_d
def dotV (a b : List RQ) : Rat := sumI a.length fun i => ev a i * ev b i
def tab (n : Nat) (f : Nat → Rat) : List RQ := (List.range n).map fun i => rq (f i)
theorem tab_len {n : Nat} {f : Nat → Rat} : (tab n f).length = n := by simp [tab]
theorem tab_succ {n : Nat} {f : Nat → Rat} : tab (n + 1) f = tab n f ++ [rq (f n)] := by simp [tab, List.range_succ]
theorem ev_tab {n i : Nat} {f : Nat → Rat} (h : i < n) : ev (tab n f) i = f i := by
  rw [ev_lt (by rw [tab_len]; exact h)]; simp [tab, vq_rq]
theorem tab_congr {n : Nat} {f g : Nat → Rat} (h : ∀ i, i < n → f i = g i) : tab n f = tab n g := by
  unfold tab
  exact List.map_congr_left fun i hi => by rw [h i (List.mem_range.1 hi)]
def plusV (a : List RQ) (t : Rat) (b : List RQ) : List RQ := tab a.length fun i => ev a i + t * ev b i
def Rz (a : RQ) : Prop := Lim a.p.l ∧ Lim a.q.l ∧ a.p.l.length ≤ 2 ^ 16 ∧ a.q.l.length ≤ 2 ^ 16
def Rw (l : List RQ) : Prop := l.length ≤ 2 ^ 16 ∧ ∀ a ∈ l, Rz a
theorem Rz.d : Rz eQ.d := ⟨Lim.nil, Lim.nil, by decide, by decide⟩
theorem Rw.getD {l : List RQ} (h : Rw l) (i : Nat) : Rz (l.getD i eQ.d) := by
  rcases Nat.lt_or_ge i l.length with hi | hi
  · rw [List.getD_eq_getElem?_getD, List.getElem?_eq_getElem hi]; exact h.2 _ (List.getElem_mem hi)
  · rw [List.getD_eq_getElem?_getD, List.getElem?_eq_none hi]; exact Rz.d
theorem Rz.lp {a : RQ} (h : Rz a) : Lr a.p.l := ⟨h.1, by have := h.2.2.1; omega⟩
theorem Rz.lq' {a : RQ} (h : Rz a) : Lr a.q.l := ⟨h.2.1, by have := h.2.2.2; omega⟩
theorem Rz.le {a : RQ} (h : Rz a) : lq (vq a) ≤ 2 ^ 16 := by
  have := lq_dq (pn := a.p.neg) (qn := a.q.neg) h.1 h.2.1; have := h.2.2; unfold vq; omega
theorem Rw.le {l : List RQ} (h : Rw l) (i : Nat) : lq (ev l i) ≤ 2 ^ 16 := (h.getD i).le
theorem Rz.rq {x : Rat} (h : lq x ≤ 2 ^ 16) : Rz (rq x) := by
  have h1 := lq_num x
  have h2 := lq_den x
  exact ⟨lim_z _, lim_z _, by show ln x.num ≤ _; omega, by show ln (x.den : Int) ≤ _; omega⟩
theorem Rw.tab {n : Nat} {f : Nat → Rat} (hn : n ≤ 2 ^ 16) (h : ∀ i, i < n → lq (f i) ≤ 2 ^ 16) : Rw (tab n f) :=
  ⟨by rw [tab_len]; exact hn, fun a ha => by
    unfold Abs.tab at ha
    obtain ⟨i, hi, rfl⟩ := List.mem_map.1 ha
    exact Rz.rq (h i (List.mem_range.1 hi))⟩
/-! ### calls on least forms, on elements -/
theorem p98v {a b : RQ} (ha : Rz a) (hb : Rz b) : PC Try.prog 45 [.agg ⟨eQ.enc a⟩, .agg ⟨eQ.enc b⟩] (let x := vq a; let y := vq b; .int .i64 (cq x y)) :=
  p98 (pn := a.p.neg) (qn := a.q.neg) (pn' := b.p.neg) (qn' := b.q.neg) ha.lp ha.lq' hb.lp hb.lq'
/-! ### Dot -/
end Go.Abs

/- Rows of quotients: the document's Dot, sums of rows, sameness. -/
set_option linter.unusedVariables false
set_option linter.unusedSimpArgs false
namespace Go.Abs
open Go Go.Proofs
set_option maxRecDepth 100000
set_option maxHeartbeats 4000000

def pl86_8 : Plan := ⟨[0, 1, 2, 3, 4, 5, 6, 7, 8], [(9, [0], []), (10, [], []), (11, [], [])]⟩
def pl87_7 : Plan := ⟨[0, 1, 2, 3, 4, 5, 6, 7, 8, 9], [(10, [4], []), (11, [], [12]), (13, [], [14])]⟩
def pl88_7 : Plan := ⟨[0, 1, 2, 3, 4, 5, 6, 7, 8, 9], [(10, [4], []), (11, [], [12]), (13, [], [14])]⟩
def dotP (a b : List RQ) (k : Nat) : Rat := sumI k fun i => ev a i * ev b i
/-! ### rows in memory of one's own -/
section
variable {α : Type} {E : En α} {P : Program} {H0 H : Heap} {el t : TypeId} {l : List α}
theorem VO.fresh {cs : List Value} {n c : Nat} (hle : H0.next ≤ H.next) (hn : n = l.length) (hc : n ≤ c ∧ c * E.es ≤ cs.length ∧ c < unk) (hl : cs.take (n * E.es) = l.flatMap E.enc) (he : 0 < E.es) : VO P E el H0 (H.push (.row true el cs)) (.slice (some ⟨H.next, 0, none⟩) n c) l := by
  unfold VO
  rw [← hl, ← hn]
  have h1 : n * E.es ≤ c * E.es := Nat.mul_le_mul_right _ hc.1
  have := Ow.row (P := P) (H0 := H0) (H := H.push (.row true el cs)) (es := E.es) (el := el) (b := H.next) (off := 0) (n := n) (c := c) (get_push_self _ _) hle (by simp) (.inr ⟨hc.1, hc.2.2, by omega⟩) (by omega)
  rwa [List.drop_zero] at this
theorem repC_len {n : Nat} {zs : List Value} : (repC n zs).length = n * zs.length := by simp [repC]
end
abbrev QO (H0 H : Heap) (sl : Value) (l : List RQ) : Prop := VO Try.prog eQ 47 H0 H sl l
theorem QO.append1 {H0 H : Heap} {sl : Value} {l : List RQ} (h : QO H0 H sl l) (hle : Hle H0 H) (x : Rat) (hs : l.length ≤ 2 ^ 36) :
    ∃ v H', aAppend Try.prog (H.push (.row true 47 [.bool (sgn x.num), Vv eU (lmb x.num), .bool (sgn x.den), Vv eU (lmb x.den)])) #[45, 45] sl (.slice (some ⟨H.next, 0, none⟩) 1 1) = some (v, H') ∧ QO H0 H' v (l ++ [rq x]) ∧ Hle H0 H' ∧ H.next ≤ H'.next :=
  VO.append1 h hle (rq x) Try.underlying45 (info_of_type Try.type47) rfl rfl T.s55 (by decide) T.o70 rfl (by omega) (by show _ * 64 ≤ _; omega)
theorem QO.done {H0 H : Heap} {sl : Value} {l : List RQ} {e : Int} (h : QO H0 H sl l) : FzRel Try.prog H (.tuple ⟨[Vv eQ l, .int .i64 e]⟩) (.tuple ⟨[sl, .int .i64 e]⟩) :=
  .tuple (.cons (h.fz T.s55 (by decide)) (.cons .rfl .nil))
end Go.Abs

/- Rows of quotients: sums of rows, sameness, sizes. -/
set_option linter.unusedVariables false
set_option linter.unusedSimpArgs false
namespace Go.Abs
open Go Go.Proofs
set_option maxRecDepth 100000
set_option maxHeartbeats 4000000

def plV9_87_7 : Plan := ⟨[0, 1, 2, 3, 4, 5, 6, 7, 8, 9], [(10, [4], []), (11, [], [12]), (13, [], [14])]⟩
def plV9_88_7 : Plan := ⟨[0, 1, 2, 3, 4, 5, 6, 7, 8, 9], [(10, [4], []), (11, [], [12]), (13, [], [14])]⟩
end Go.Abs
