/- Joined: A1 A2 A3 A4 A5 A6 A7 A8 A9 A10. -/
import Derived.Calls
import Derived.Orders
import Derived.Below
import Derived.Deep.LoopGhost
import Derived.Laws.Sem
import Derived.Laws.Slices
import Derived.Laws.Tables
import Derived.Laws.MakeOwn
import Derived.Great.BuildSlice
import Derived.Laws.IdiomCopy
import Derived.Deep.MidRow
import Derived.Lib.SlBytesConst
import Derived.Lib.ConvBytes
import Derived.Laws.BytesString
import Derived.Laws.Append
import Derived.RangeFuncLeaves
import Derived.RangeFuncRecord
import Derived.RangeFuncSeq
import Derived.TacticsIn
import Derived.OrdersIn
import Derived.Sort.LoopGhostIn
set_option linter.unusedVariables false
set_option linter.unusedSimpArgs false
/- The abstract machine's data: a heap of rows under numbers of its own, a renaming of blocks, and how abstract values stand for the machine's. -/
set_option linter.unusedVariables false
set_option linter.unusedSimpArgs false
namespace Go.Abs
open Go

/-! ### a finite map from numbers -/
inductive Tr (α : Type) where
  | nil
  | node (l : Tr α) (v : Option α) (r : Tr α)

variable {α : Type}

def Tr.get : Tr α → Nat → Option α
  | .nil, _ => none
  | .node l v r, k => if k = 0 then v else if k % 2 = 1 then l.get (k / 2) else r.get (k / 2 - 1)

def Tr.setF : Nat → Tr α → Nat → Option α → Tr α
  | 0, t, _, _ => t
  | _ + 1, .nil, 0, v => .node .nil v .nil
  | n + 1, .nil, k + 1, v => if (k + 1) % 2 = 1 then .node (Tr.setF n .nil ((k + 1) / 2) v) none .nil else .node .nil none (Tr.setF n .nil ((k + 1) / 2 - 1) v)
  | _ + 1, .node l _ r, 0, v => .node l v r
  | n + 1, .node l u r, k + 1, v => if (k + 1) % 2 = 1 then .node (Tr.setF n l ((k + 1) / 2) v) u r else .node l u (Tr.setF n r ((k + 1) / 2 - 1) v)

def Tr.set (t : Tr α) (k : Nat) (v : Option α) : Tr α := Tr.setF (k + 1) t k v

theorem Tr.get_nil (k : Nat) : (Tr.nil : Tr α).get k = none := by cases k <;> rfl

theorem Tr.get_setF : ∀ (n : Nat) (t : Tr α) (k : Nat) (v : Option α) (j : Nat), k < n → (Tr.setF n t k v).get j = if j = k then v else t.get j := by
  intro n
  induction n with
  | zero => intro t k v j h; omega
  | succ n ih =>
    intro t k v j h
    cases t with
    | nil =>
      cases k with
      | zero =>
        simp only [Tr.setF, Tr.get]
        by_cases h0 : j = 0
        · simp [h0]
        · simp [h0]
      | succ k =>
        simp only [Tr.setF]
        by_cases hk : (k + 1) % 2 = 1
        · rw [if_pos hk]
          simp only [Tr.get]
          by_cases h0 : j = 0
          · subst h0; simp
          · rw [if_neg h0]
            by_cases hj : j % 2 = 1
            · rw [if_pos hj, ih _ _ _ _ (by omega), Tr.get_nil]
              by_cases e : j = k + 1
              · rw [if_pos e, if_pos (by omega)]
              · rw [if_neg e, if_neg (by omega)]
            · rw [if_neg hj, if_neg (by omega)]
        · rw [if_neg hk]
          simp only [Tr.get]
          by_cases h0 : j = 0
          · subst h0; simp
          · rw [if_neg h0]
            by_cases hj : j % 2 = 1
            · rw [if_pos hj, if_neg (by omega)]
            · rw [if_neg hj, ih _ _ _ _ (by omega), Tr.get_nil]
              by_cases e : j = k + 1
              · rw [if_pos e, if_pos (by omega)]
              · rw [if_neg e, if_neg (by omega)]
    | node l u r =>
      cases k with
      | zero =>
        simp only [Tr.setF, Tr.get]
        by_cases h0 : j = 0
        · simp [h0]
        · simp [h0]
      | succ k =>
        simp only [Tr.setF]
        by_cases hk : (k + 1) % 2 = 1
        · rw [if_pos hk]
          simp only [Tr.get]
          by_cases h0 : j = 0
          · subst h0; simp
          · rw [if_neg h0]
            by_cases hj : j % 2 = 1
            · rw [if_pos hj, ih _ _ _ _ (by omega)]
              by_cases e : j = k + 1
              · rw [if_pos e, if_pos (by omega)]
              · rw [if_neg e, if_neg (by omega), if_neg h0, if_pos hj]
            · rw [if_neg hj, if_neg (by omega), if_neg h0, if_neg hj]
        · rw [if_neg hk]
          simp only [Tr.get]
          by_cases h0 : j = 0
          · subst h0; simp
          · rw [if_neg h0]
            by_cases hj : j % 2 = 1
            · rw [if_pos hj, if_neg (by omega), if_neg h0, if_pos hj]
            · rw [if_neg hj, ih _ _ _ _ (by omega)]
              by_cases e : j = k + 1
              · rw [if_pos e, if_pos (by omega)]
              · rw [if_neg e, if_neg (by omega), if_neg h0, if_neg hj]

theorem Tr.get_set (t : Tr α) (k : Nat) (v : Option α) (j : Nat) : (t.set k v).get j = if j = k then v else t.get j :=
  Tr.get_setF _ _ _ _ _ (by omega)

/-! ### the abstract heap -/
/-- A row of cells: is it the run's own (may it be written)?, the type of its elements, what its cells hold. -/
inductive AObj where
  | row (own : Bool) (elem : TypeId) (cells : List Value)
  | map (entries : List MapEntry) (clock : Nat)

/-- A loop over a function that is under way: its record's place, the record, its temporaries told abstractly. -/
structure Pin where
  l : Nat
  r : Loop
  T : List Value
structure Heap where
  next : Nat
  tr : Tr AObj
  gh : List Pin

def Heap.get (H : Heap) (b : Nat) : Option AObj := H.tr.get b
def Heap.push (H : Heap) (o : AObj) : Heap := ⟨H.next + 1, H.tr.set H.next (some o), H.gh⟩
def Heap.set (H : Heap) (b : Nat) (o : AObj) : Heap := ⟨H.next, H.tr.set b (some o), H.gh⟩
def Heap.kill (H : Heap) (b : Nat) : Heap := ⟨H.next, H.tr.set b none, H.gh⟩
def Heap.empty : Heap := ⟨1, .nil, []⟩
def Heap.wg (H : Heap) (g : List Pin) : Heap := ⟨H.next, H.tr, g⟩
@[simp] theorem Heap.gh_push (H : Heap) (o : AObj) : (H.push o).gh = H.gh := rfl
@[simp] theorem Heap.gh_set (H : Heap) (b : Nat) (o : AObj) : (H.set b o).gh = H.gh := rfl
@[simp] theorem Heap.gh_kill (H : Heap) (b : Nat) : (H.kill b).gh = H.gh := rfl
@[simp] theorem Heap.gh_wg (H : Heap) (g : List Pin) : (H.wg g).gh = g := rfl
@[simp] theorem Heap.next_wg (H : Heap) (g : List Pin) : (H.wg g).next = H.next := rfl
@[simp] theorem Heap.get_wg (H : Heap) (g : List Pin) (b : Nat) : (H.wg g).get b = H.get b := rfl
@[simp] theorem Heap.wg_wg (H : Heap) (g g' : List Pin) : (H.wg g).wg g' = H.wg g' := rfl
theorem Heap.wg_self (H : Heap) : H.wg H.gh = H := rfl

theorem Heap.get_push (H : Heap) (o : AObj) (b : Nat) : (H.push o).get b = if b = H.next then some o else H.get b := Tr.get_set _ _ _ _
theorem Heap.get_set (H : Heap) (c : Nat) (o : AObj) (b : Nat) : (H.set c o).get b = if b = c then some o else H.get b := Tr.get_set _ _ _ _
theorem Heap.get_kill (H : Heap) (c : Nat) (b : Nat) : (H.kill c).get b = if b = c then none else H.get b := Tr.get_set _ _ _ _
@[simp] theorem Heap.next_push (H : Heap) (o : AObj) : (H.push o).next = H.next + 1 := rfl
@[simp] theorem Heap.next_set (H : Heap) (c : Nat) (o : AObj) : (H.set c o).next = H.next := rfl
@[simp] theorem Heap.next_kill (H : Heap) (c : Nat) : (H.kill c).next = H.next := rfl

/-! ### the renaming -/
/-- Where an abstract block lies: the machine's block, the place of its first cell, whether the run may write it, the cells of an element, where the machine's row ends. -/
structure Loc where
  blk : Nat
  base : Nat
  own : Bool
  es : Nat
  lim : Nat
  frz : Option (List Value)

abbrev Ren := Nat → Option Loc

/-- A capacity that nobody knows. -/
def unk : Nat := 0x10000000000000000

/-- Frozen memory, as a value: a slice that nobody writes (its elements, their cells), a pointer to such cells. -/
def fzT : TypeId := 0x10000000000000001
def fpT : TypeId := 0x10000000000000002
def fzv (n : Nat) (cells : List Value) : Value := .iface fzT (.agg ⟨.int .i64 n :: cells⟩)
def fpv (cells : List Value) : Value := .iface fpT (.agg ⟨cells⟩)
theorem fz_fp : fzT ≠ fpT := by decide

/-- Values that hold no address. -/
def ground : Value → Bool
  | .bool _ | .int .. | .string _ | .float .. | .complex .. | .nilFunc | .nilIface | .pointer none | .map none | .chan none => true
  | .slice none _ _ => true
  | _ => false

mutual
/-- The abstract value stands for the machine's. -/
inductive VRel (ρ : Ren) : Value → Value → Prop
  | ground {v : Value} (h : ground v = true) : VRel ρ v v
  | ptr {b off : Nat} {L : Loc} (h : ρ b = some L) : VRel ρ (.pointer (some ⟨b, off, none⟩)) (.pointer (some ⟨L.blk, L.base + off, none⟩))
  | sl {b off n c : Nat} {L : Loc} (h : ρ b = some L) (hc : c ≠ unk) : VRel ρ (.slice (some ⟨b, off, none⟩) n c) (.slice (some ⟨L.blk, L.base + off, none⟩) n c)
  | slu {b off n c : Nat} {L : Loc} (h : ρ b = some L) (hn : n ≤ c) (hl : L.own = true → L.base + off + c * L.es ≤ L.lim) :
      VRel ρ (.slice (some ⟨b, off, none⟩) n unk) (.slice (some ⟨L.blk, L.base + off, none⟩) n c)
  | void {a : Addr} {c : Nat} : VRel ρ (.slice (some ⟨0, 0, none⟩) 0 unk) (.slice (some a) 0 c)
  | mp {b : Nat} {L : Loc} (h : ρ b = some L) (h0 : L.base = 0) : VRel ρ (.map (some b)) (.map (some L.blk))
  | fn {f : Fn} {xs xs' ys ys' : List Value} (h1 : VRels ρ xs xs') (h2 : VRels ρ ys ys') : VRel ρ (.func f ⟨xs⟩ ⟨ys⟩) (.func f ⟨xs'⟩ ⟨ys'⟩)
  | iface {t : TypeId} {v v' : Value} (h1 : t ≠ fzT) (h2 : t ≠ fpT) (h : VRel ρ v v') : VRel ρ (.iface t v) (.iface t v')
  | fz {b off n c : Nat} {L : Loc} {cs cells : List Value} (h : ρ b = some L) (hf : L.frz = some cs) (hn : n ≤ c) (hb : L.base + off + cells.length ≤ cs.length) (hc : VRels ρ cells ((cs.drop (L.base + off)).take cells.length)) :
      VRel ρ (.iface fzT (.agg ⟨.int .i64 n :: cells⟩)) (.slice (some ⟨L.blk, L.base + off, none⟩) n c)
  | fznil : VRel ρ (.iface fzT (.agg ⟨.int .i64 (0 : Nat) :: []⟩)) (.slice none 0 0)
  | fzvoid {a : Addr} {c : Nat} : VRel ρ (.iface fzT (.agg ⟨.int .i64 (0 : Nat) :: []⟩)) (.slice (some a) 0 c)
  | fp {b off : Nat} {L : Loc} {cs cells : List Value} (h : ρ b = some L) (hf : L.frz = some cs) (hb : L.base + off + cells.length ≤ cs.length) (hc : VRels ρ cells ((cs.drop (L.base + off)).take cells.length)) :
      VRel ρ (.iface fpT (.agg ⟨cells⟩)) (.pointer (some ⟨L.blk, L.base + off, none⟩))
  | agg {xs xs' : List Value} (h : VRels ρ xs xs') : VRel ρ (.agg ⟨xs⟩) (.agg ⟨xs'⟩)
  | tuple {xs xs' : List Value} (h : VRels ρ xs xs') : VRel ρ (.tuple ⟨xs⟩) (.tuple ⟨xs'⟩)
inductive VRels (ρ : Ren) : List Value → List Value → Prop
  | nil : VRels ρ [] []
  | cons {v v' : Value} {vs vs' : List Value} (h : VRel ρ v v') (hs : VRels ρ vs vs') : VRels ρ (v :: vs) (v' :: vs')
end

def Ren.le (ρ ρ' : Ren) : Prop := ∀ b L, ρ b = some L → ρ' b = some L

theorem Ren.le.rfl {ρ : Ren} : Ren.le ρ ρ := fun _ _ h => h
theorem Ren.le.trans {ρ ρ' ρ'' : Ren} (h : Ren.le ρ ρ') (h' : Ren.le ρ' ρ'') : Ren.le ρ ρ'' := fun b L k => h' b L (h b L k)

mutual
theorem VRel.mono {ρ ρ' : Ren} (hle : Ren.le ρ ρ') : ∀ {v v' : Value}, VRel ρ v v' → VRel ρ' v v'
  | _, _, .ground h => .ground h
  | _, _, .ptr h => .ptr (hle _ _ h)
  | _, _, .sl h hc => .sl (hle _ _ h) hc
  | _, _, .slu h hn hl => .slu (hle _ _ h) hn hl
  | _, _, .void => .void
  | _, _, .mp h h0 => .mp (hle _ _ h) h0
  | _, _, .fn h1 h2 => .fn (VRels.mono hle h1) (VRels.mono hle h2)
  | _, _, .iface h1 h2 h => .iface h1 h2 (VRel.mono hle h)
  | _, _, .fz h hf hn hb hc => .fz (hle _ _ h) hf hn hb (VRels.mono hle hc)
  | _, _, .fznil => .fznil
  | _, _, .fzvoid => .fzvoid
  | _, _, .fp h hf hb hc => .fp (hle _ _ h) hf hb (VRels.mono hle hc)
  | _, _, .agg h => .agg (VRels.mono hle h)
  | _, _, .tuple h => .tuple (VRels.mono hle h)
theorem VRels.mono {ρ ρ' : Ren} (hle : Ren.le ρ ρ') : ∀ {vs vs' : List Value}, VRels ρ vs vs' → VRels ρ' vs vs'
  | _, _, .nil => .nil
  | _, _, .cons h hs => .cons (VRel.mono hle h) (VRels.mono hle hs)
end

theorem VRels.length {ρ : Ren} : ∀ {vs vs' : List Value}, VRels ρ vs vs' → vs.length = vs'.length
  | _, _, .nil => rfl
  | _, _, .cons _ hs => by simp [VRels.length hs]

theorem VRels.get {ρ : Ren} : ∀ {vs vs' : List Value}, VRels ρ vs vs' → ∀ (i : Nat) (v : Value), vs[i]? = some v → ∃ v', vs'[i]? = some v' ∧ VRel ρ v v'
  | _, _, .nil, i, v, h => by simp at h
  | _, _, .cons (v' := v') h hs, 0, v, e => by
    simp at e; subst e; exact ⟨v', by simp, h⟩
  | _, _, .cons h hs, i + 1, v, e => by
    simp at e
    obtain ⟨u, h1, h2⟩ := VRels.get hs i v e
    exact ⟨u, by simpa using h1, h2⟩

theorem VRels.get' {ρ : Ren} {vs vs' : List Value} (h : VRels ρ vs vs') {i : Nat} {v' : Value} (e : vs'[i]? = some v') : ∃ v, vs[i]? = some v ∧ VRel ρ v v' := by
  have hl := h.length
  have hi : i < vs'.length := by
    rcases Nat.lt_or_ge i vs'.length with h1 | h1
    · exact h1
    · rw [List.getElem?_eq_none h1] at e; cases e
  have hg : vs[i]? = some (vs[i]'(by omega)) := List.getElem?_eq_getElem _
  obtain ⟨u, h1, h2⟩ := h.get i _ hg
  rw [h1] at e
  injection e with e
  exact ⟨_, hg, e ▸ h2⟩

theorem VRels.of_get {ρ : Ren} : ∀ {vs vs' : List Value}, vs.length = vs'.length → (∀ (i : Nat) (v : Value), vs[i]? = some v → ∃ v', vs'[i]? = some v' ∧ VRel ρ v v') → VRels ρ vs vs'
  | [], [], _, _ => .nil
  | [], _ :: _, h, _ => by simp at h
  | _ :: _, [], h, _ => by simp at h
  | v :: vs, v' :: vs', hl, h => by
    refine .cons ?_ (VRels.of_get (by simpa using hl) fun i u hi => ?_)
    · obtain ⟨u, h1, h2⟩ := h 0 v (by simp)
      simp at h1; subst h1; exact h2
    · obtain ⟨u', h1, h2⟩ := h (i + 1) u (by simpa using hi)
      exact ⟨u', by simpa using h1, h2⟩

theorem VRels.set {ρ : Ren} : ∀ {vs vs' : List Value} (_ : VRels ρ vs vs') (i : Nat) {v v' : Value} (_ : VRel ρ v v'), VRels ρ (vs.set i v) (vs'.set i v')
  | _, _, .nil, _, _, _, _ => .nil
  | _, _, .cons _ hs, 0, _, _, h => .cons h hs
  | _, _, .cons h0 hs, i + 1, _, _, h => .cons h0 (VRels.set hs i h)

theorem VRels.append {ρ : Ren} : ∀ {vs vs' us us' : List Value} (_ : VRels ρ vs vs') (_ : VRels ρ us us'), VRels ρ (vs ++ us) (vs' ++ us')
  | _, _, _, _, .nil, h => h
  | _, _, _, _, .cons h hs, h' => .cons h (VRels.append hs h')

theorem VRels.ground {ρ : Ren} : ∀ (vs : List Value), vs.all Abs.ground = true → VRels ρ vs vs
  | [], _ => .nil
  | v :: vs, h => by
    simp at h
    exact .cons (.ground h.1) (VRels.ground vs (by simpa using h.2))

theorem VRels.take {ρ : Ren} : ∀ {vs vs' : List Value} (_ : VRels ρ vs vs') (i : Nat), VRels ρ (vs.take i) (vs'.take i)
  | _, _, .nil, i => by simp; exact .nil
  | _, _, .cons _ _, 0 => .nil
  | _, _, .cons h hs, i + 1 => .cons h (VRels.take hs i)

theorem VRels.drop {ρ : Ren} : ∀ {vs vs' : List Value} (_ : VRels ρ vs vs') (i : Nat), VRels ρ (vs.drop i) (vs'.drop i)
  | _, _, .nil, i => by simp; exact .nil
  | _, _, .cons h hs, 0 => .cons h hs
  | _, _, .cons _ hs, i + 1 => VRels.drop hs i

theorem VRels.replicate {ρ : Ren} {v v' : Value} (h : VRel ρ v v') : ∀ n, VRels ρ (List.replicate n v) (List.replicate n v')
  | 0 => .nil
  | n + 1 => .cons h (VRels.replicate h n)

theorem VRel.ground_eq {ρ : Ren} {v v' : Value} (h : VRel ρ v v') (hg : Abs.ground v = true) : v' = v := by
  cases h <;> first | rfl | simp [Abs.ground] at hg

/-! ### the cells of a value -/
theorem VRel.cells {ρ : Ren} {v v' : Value} (h : VRel ρ v v') : VRels ρ v.cells.toList v'.cells.toList := by
  cases h with
  | agg h => exact h
  | ground h => cases v <;> first | (simp [Abs.ground] at h; done) | exact .cons (.ground h) .nil
  | ptr h => exact .cons (.ptr h) .nil
  | sl h hc => exact .cons (.sl h hc) .nil
  | slu h hn hl => exact .cons (.slu h hn hl) .nil
  | void => exact .cons .void .nil
  | mp h h0 => exact .cons (.mp h h0) .nil
  | fn h1 h2 => exact .cons (.fn h1 h2) .nil
  | iface h1 h2 h => exact .cons (.iface h1 h2 h) .nil
  | fz h hf hn hb hc => exact .cons (.fz h hf hn hb hc) .nil
  | fznil => exact .cons .fznil .nil
  | fzvoid => exact .cons .fzvoid .nil
  | fp h hf hb hc => exact .cons (.fp h hf hb hc) .nil
  | tuple h => exact .cons (.tuple h) .nil

/-! ### the heap -/
def szOf (P : Program) (t : TypeId) : Nat := ((P.info? t).map (·.size)).getD 0

structure HRel (P : Program) (ρ : Ren) (H : Heap) (w : World) : Prop where
  dom : ∀ b L, ρ b = some L → b < H.next
  rows : ∀ b L own elem cells, ρ b = some L → H.get b = some (.row own elem cells) →
    ∃ cs fr, w.heap[L.blk]? = some (.cells cs elem fr) ∧ (∀ (i : Nat) (v : Value), cells[i]? = some v → ∃ v', cs[L.base + i]? = some v' ∧ VRel ρ v v') ∧
      L.own = own ∧ (own = true → fr = (0, 0) ∧ cs.size = L.lim ∧ L.es = szOf P elem)
  maps : ∀ b L es clock, ρ b = some L → H.get b = some (.map es clock) →
    ∃ es', w.heap[L.blk]? = some (.map es' clock) ∧ L.own = true ∧ L.base = 0 ∧ es.length = es'.size ∧
      ∀ (i : Nat) (e : MapEntry), es[i]? = some e → ∃ e' : MapEntry, es'[i]? = some e' ∧ ground e.key = true ∧ e'.key = e.key ∧ e'.born = e.born ∧ VRel ρ e.val e'.val
  free : ∀ b, H.next ≤ b → H.get b = none
  void : ρ 0 = none ∧ H.get 0 = none ∧ 0 < H.next
  inj : ∀ b1 b2 L1 L2 o2, b1 ≠ b2 → ρ b1 = some L1 → ρ b2 = some L2 → (∀ e c, H.get b1 ≠ some (.row false e c)) → (H.get b1).isSome = true → H.get b2 = some o2 → L1.blk ≠ L2.blk
  frz : ∀ b L cs, ρ b = some L → L.frz = some cs → L.own = false ∧ ∃ el fr, w.heap[L.blk]? = some (.cells ⟨cs⟩ el fr)
  frinj : ∀ b1 b2 L1 L2 cs, ρ b1 = some L1 → ρ b2 = some L2 → L2.frz = some cs → (∀ e c, H.get b1 ≠ some (.row false e c)) → (H.get b1).isSome = true → L1.blk ≠ L2.blk
  bnd : ∀ b L, ρ b = some L → L.blk < w.heap.size

theorem lt_of_heap {w : World} {i : Nat} {o : Obj} (h : w.heap[i]? = some o) : i < w.heap.size := by
  rcases Nat.lt_or_ge i w.heap.size with h' | h'
  · exact h'
  · rw [Array.getElem?_eq_none h'] at h; cases h

theorem HRel.lt {P : Program} {ρ : Ren} {H : Heap} {w : World} (h : HRel P ρ H w) {b : Nat} {L : Loc} {o : AObj} (hb : ρ b = some L) (hg : H.get b = some o) : L.blk < w.heap.size := by
  cases o with
  | row own el cells => obtain ⟨_, _, h1, _⟩ := h.rows b L own el cells hb hg; exact lt_of_heap h1
  | map es cl => obtain ⟨_, h1, _⟩ := h.maps b L es cl hb hg; exact lt_of_heap h1

theorem HRel.lt' {P : Program} {ρ : Ren} {H : Heap} {w : World} (h : HRel P ρ H w) {b : Nat} {L : Loc} (hb : ρ b = some L) (hg : (H.get b).isSome = true) : L.blk < w.heap.size := by
  obtain ⟨o, ho⟩ := Option.isSome_iff_exists.1 hg
  exact h.lt hb ho

/-- One step of both machines: what may have turned. -/
structure Ext (P : Program) (ρ : Ren) (H : Heap) (w : World) (ρ' : Ren) (H' : Heap) (w' : World) : Prop where
  le : Ren.le ρ ρ'
  phant : ∀ b, b < H.next → ρ b = none → ρ' b = none ∧ H'.get b = H.get b
  next : H.next ≤ H'.next
  size : w.heap.size ≤ w'.heap.size
  own : ∀ b L, ρ' b = some L → L.own = true → (∃ b0 L0, ρ b0 = some L0 ∧ L0.own = true ∧ L0.blk = L.blk) ∨ w.heap.size ≤ L.blk
  frame : ∀ i, i < w.heap.size → (∀ b L, ρ b = some L → L.own = true → L.blk ≠ i) → w'.heap[i]? = w.heap[i]?
  os : w'.os = w.os
  output : w'.output = w.output
  tape : w'.tape = w.tape
  rel : HRel P ρ' H' w'
  blks : ∀ b L, ρ' b = some L → (∃ b0 L0, ρ b0 = some L0 ∧ L0.blk = L.blk) ∨ w.heap.size ≤ L.blk

theorem Ext.refl {P : Program} {ρ : Ren} {H : Heap} {w : World} (h : HRel P ρ H w) : Ext P ρ H w ρ H w :=
  ⟨fun _ _ h => h, fun _ _ h => ⟨h, rfl⟩, Nat.le_refl _, Nat.le_refl _, fun b L h1 h2 => .inl ⟨b, L, h1, h2, rfl⟩, fun _ _ _ => rfl, rfl, rfl, rfl, h, fun b L h1 => .inl ⟨b, L, h1, rfl⟩⟩

theorem Ext.trans {P : Program} {ρ ρ1 ρ2 : Ren} {H H1 H2 : Heap} {w w1 w2 : World} (h : Ext P ρ H w ρ1 H1 w1) (k : Ext P ρ1 H1 w1 ρ2 H2 w2) : Ext P ρ H w ρ2 H2 w2 where
  le := h.le.trans k.le
  phant := fun b hb hn => by
    obtain ⟨h1, h2⟩ := h.phant b hb hn
    obtain ⟨k1, k2⟩ := k.phant b (Nat.lt_of_lt_of_le hb h.next) h1
    exact ⟨k1, k2.trans h2⟩
  next := Nat.le_trans h.next k.next
  size := Nat.le_trans h.size k.size
  own := fun b L hb ho => by
    rcases k.own b L hb ho with ⟨b0, L0, e1, e2, e3⟩ | hge
    · rcases h.own b0 L0 e1 e2 with ⟨b1, L1, f1, f2, f3⟩ | hge
      · exact .inl ⟨b1, L1, f1, f2, f3.trans e3⟩
      · exact .inr (e3 ▸ hge)
    · exact .inr (Nat.le_trans h.size hge)
  frame := fun i hi hn => by
    rw [k.frame i (Nat.lt_of_lt_of_le hi h.size) ?_, h.frame i hi hn]
    intro b L hb ho e
    rcases h.own b L hb ho with ⟨b0, L0, e1, e2, e3⟩ | hge
    · exact hn b0 L0 e1 e2 (e3.trans e)
    · omega
  os := k.os.trans h.os
  output := k.output.trans h.output
  tape := k.tape.trans h.tape
  rel := k.rel
  blks := fun b L hb => by
    rcases k.blks b L hb with ⟨b0, L0, e1, e3⟩ | hge
    · rcases h.blks b0 L0 e1 with ⟨b1, L1, f1, f3⟩ | hge
      · exact .inl ⟨b1, L1, f1, f3.trans e3⟩
      · exact .inr (e3 ▸ hge)
    · exact .inr (Nat.le_trans h.size hge)

/-- The worlds differ in draws alone. -/
theorem Ext.drawn {P : Program} {ρ : Ren} {H : Heap} {w : World} (h : HRel P ρ H w) (n : Nat) : Ext P ρ H w ρ H { w with drawn := n } :=
  ⟨fun _ _ h => h, fun _ _ h => ⟨h, rfl⟩, Nat.le_refl _, Nat.le_refl _, fun b L h1 h2 => .inl ⟨b, L, h1, h2, rfl⟩, fun _ _ _ => rfl, rfl, rfl, rfl, ⟨h.dom, h.rows, h.maps, h.free, h.void, h.inj, h.frz, h.frinj, h.bnd⟩, fun b L h1 => .inl ⟨b, L, h1, rfl⟩⟩

end Go.Abs

/- Operations of the abstract machine: what they do, and that the machine does the same. First: making a row, writing a cell. -/
namespace Go.Abs
open Go

def Ren.add (ρ : Ren) (b : Nat) (L : Loc) : Ren := fun c => if c = b then some L else ρ c

theorem Ren.add_self (ρ : Ren) (b : Nat) (L : Loc) : ρ.add b L b = some L := by simp [Ren.add]

theorem HRel.fresh {P : Program} {ρ : Ren} {H : Heap} {w : World} (h : HRel P ρ H w) {b : Nat} (hb : H.next ≤ b) : ρ b = none := by
  cases e : ρ b with
  | none => rfl
  | some L => have := h.dom b L e; omega

theorem HRel.le_add {P : Program} {ρ : Ren} {H : Heap} {w : World} (h : HRel P ρ H w) (L : Loc) : Ren.le ρ (ρ.add H.next L) := by
  intro b L' hb
  have := h.dom b L' hb
  simp only [Ren.add]
  rw [if_neg (by omega)]
  exact hb

theorem heap_alloc_new (w : World) (o : Obj) : (w.alloc o).heap[w.heap.size]? = some o := by
  show (w.heap.push o)[w.heap.size]? = _
  simp

/-- A new row. -/
theorem Ext.alloc {P : Program} {ρ : Ren} {H : Heap} {w : World} (h : HRel P ρ H w) (elem : TypeId) (cells : List Value) (cs : Array Value) (L : Loc)
    (hL : L = ⟨w.heap.size, 0, true, szOf P elem, cs.size, none⟩)
    (hc : ∀ (i : Nat) (v : Value), cells[i]? = some v → ∃ v', cs[i]? = some v' ∧ VRel ρ v v') :
    Ext P ρ H w (ρ.add H.next L) (H.push (.row true elem cells)) (w.alloc (.cells cs elem)) := by
  have hle := h.le_add L
  have hbk : ∀ c L', (ρ.add H.next L) c = some L' → (∃ b0 L0, ρ b0 = some L0 ∧ L0.blk = L'.blk) ∨ w.heap.size ≤ L'.blk := by
    intro c L' hc
    simp only [Ren.add] at hc
    split at hc
    · injection hc with hc; subst hc; subst hL; exact .inr (Nat.le_refl _)
    · exact .inl ⟨c, L', hc, rfl⟩
  refine ⟨hle, ?_, by simp, by simp, ?_, ?_, rfl, rfl, rfl, ⟨?_, ?_, ?_, ?_, ?_, ?_, ?_, ?_, fun c L' hc => by
    simp only [Ren.add] at hc
    split at hc
    · injection hc with hc; subst hc; subst hL; simp
    · have := h.bnd c L' hc; simp; omega⟩, hbk⟩
  · intro b hb hn
    refine ⟨?_, ?_⟩
    · simp only [Ren.add]; rw [if_neg (by omega)]; exact hn
    · rw [Heap.get_push, if_neg (by omega)]
  · intro b L' hb ho
    simp only [Ren.add] at hb
    split at hb
    · injection hb with hb; subst hb; subst hL; exact .inr (Nat.le_refl _)
    · exact .inl ⟨b, L', hb, ho, rfl⟩
  · intro i hi _
    exact RowKit.Below.heap_alloc w _ i hi
  · intro b L' hb
    simp only [Ren.add] at hb
    split at hb
    · injection hb with hb; subst hb; subst hL; rename_i e; subst e; simp
    · have := h.dom b L' hb
      simp; omega
  · intro b L' own el ce hb hg
    rw [Heap.get_push] at hg
    simp only [Ren.add] at hb
    split at hb
    · rename_i e; rw [if_pos e] at hg
      injection hb with hb; injection hg with hg; injection hg with g1 g2 g3
      subst g1; subst g2; subst g3; subst hb; subst hL
      refine ⟨cs, (0, 0), heap_alloc_new w _, ?_, rfl, fun _ => ⟨rfl, rfl, rfl⟩⟩
      intro i v hv
      obtain ⟨v', h1, h2⟩ := hc i v hv
      exact ⟨v', by simpa using h1, h2.mono hle⟩
    · rename_i e; rw [if_neg e] at hg
      obtain ⟨cs', fr, h1, h2, h3⟩ := h.rows b L' own el ce hb hg
      refine ⟨cs', fr, ?_, ?_, h3⟩
      · rw [RowKit.Below.heap_alloc w _ _ (h.lt hb hg)]; exact h1
      · intro i v hv
        obtain ⟨v', k1, k2⟩ := h2 i v hv
        exact ⟨v', k1, k2.mono hle⟩
  · intro b L' es clock hb hg
    rw [Heap.get_push] at hg
    simp only [Ren.add] at hb
    split at hb
    · rename_i e; rw [if_pos e] at hg; cases hg
    · rename_i e; rw [if_neg e] at hg
      obtain ⟨es', h1, h2, h3, h4, h5⟩ := h.maps b L' es clock hb hg
      refine ⟨es', ?_, h2, h3, h4, ?_⟩
      · rw [RowKit.Below.heap_alloc w _ _ (h.lt hb hg)]; exact h1
      · intro i e he
        obtain ⟨e', k1, k2, k3, k4, k5⟩ := h5 i e he
        exact ⟨e', k1, k2, k3, k4, k5.mono hle⟩
  · intro b hb
    simp only [Heap.next_push] at hb
    rw [Heap.get_push, if_neg (by omega)]
    exact h.free b (by omega)
  · obtain ⟨v1, v2, v3⟩ := h.void
    refine ⟨by simp only [Ren.add]; rw [if_neg (by omega)]; exact v1, ?_, by simp⟩
    rw [Heap.get_push, if_neg (by omega)]; exact v2
  · intro b1 b2 L1 L2 o2 hne h1 h2 g1 g1' g2
    rw [Heap.get_push] at g1 g1' g2
    simp only [Ren.add] at h1 h2
    by_cases e1 : b1 = H.next
    · have e2 : b2 ≠ H.next := fun e => hne (e1.trans e.symm)
      rw [if_pos e1] at h1; rw [if_neg e2] at h2
      injection h1 with h1; subst h1; subst hL
      have := h.lt h2 (by rw [if_neg e2] at g2; exact g2)
      simp only; omega
    · rw [if_neg e1] at h1
      by_cases e2 : b2 = H.next
      · rw [if_pos e2] at h2
        injection h2 with h2; subst h2; subst hL
        have := h.lt' h1 (by rw [if_neg e1] at g1'; exact g1')
        simp only; omega
      · rw [if_neg e2] at h2
        rw [if_neg e1] at g1 g1'; rw [if_neg e2] at g2
        exact h.inj b1 b2 L1 L2 o2 hne h1 h2 g1 g1' g2
  · intro b L' fs hb hf
    simp only [Ren.add] at hb
    split at hb
    · injection hb with hb; subst hb; subst hL; cases hf
    · obtain ⟨q1, el, fr, q2⟩ := h.frz b L' fs hb hf
      exact ⟨q1, el, fr, by rw [RowKit.Below.heap_alloc w _ _ (lt_of_heap q2)]; exact q2⟩
  · intro b1 b2 L1 L2 fs h1 h2 hf g1 g1'
    rw [Heap.get_push] at g1 g1'
    simp only [Ren.add] at h1 h2
    by_cases e2 : b2 = H.next
    · rw [if_pos e2] at h2; injection h2 with h2; subst h2; subst hL; cases hf
    · rw [if_neg e2] at h2
      by_cases e1 : b1 = H.next
      · rw [if_pos e1] at h1
        injection h1 with h1; subst h1; subst hL
        obtain ⟨_, el, fr, q2⟩ := h.frz b2 L2 fs h2 hf
        have := lt_of_heap q2
        simp only; omega
      · rw [if_neg e1] at h1 g1 g1'
        exact h.frinj b1 b2 L1 L2 fs h1 h2 hf g1 g1'

theorem heap_setCell_row (w : World) (b o : Nat) (v : Value) (cs : Array Value) (t : TypeId) (fr : Nat × Nat) (h : w.heap[b]? = some (.cells cs t fr)) :
    (w.setCell ⟨b, o, none⟩ v).heap[b]? = some (.cells (cs.setIfInBounds o v) t fr) := by
  simp only [World.setCell, Array.getElem?_modify, h]; simp

/-- A cell of one of the run's own rows is written. -/
theorem Ext.setCell {P : Program} {ρ : Ren} {H : Heap} {w : World} (h : HRel P ρ H w) {b : Nat} {L : Loc} {elem : TypeId} {cells : List Value}
    (hb : ρ b = some L) (hg : H.get b = some (.row true elem cells)) {off : Nat} (ho : off < cells.length) {v v' : Value} (hv : VRel ρ v v') :
    (∃ u, w.cell? ⟨L.blk, L.base + off, none⟩ = some u) ∧ w.frozen? ⟨L.blk, L.base + off, none⟩ = false ∧
    Ext P ρ H w ρ (H.set b (.row true elem (cells.set off v))) (w.setCell ⟨L.blk, L.base + off, none⟩ v') := by
  obtain ⟨cs, fr, h1, h2, h3, h4⟩ := h.rows b L true elem cells hb hg
  obtain ⟨h5, h6, h7⟩ := h4 rfl
  obtain ⟨u, k1, k2⟩ := h2 off (cells[off]) (List.getElem?_eq_getElem ho)
  have hlt : L.base + off < cs.size := by
    rcases Nat.lt_or_ge (L.base + off) cs.size with h' | h'
    · exact h'
    · rw [Array.getElem?_eq_none h'] at k1; cases k1
  refine ⟨⟨u, by simp [World.cell?, h1, k1]⟩, by simp [World.frozen?, h1, h5], ?_⟩
  have hrow := heap_setCell_row w L.blk (L.base + off) v' cs elem fr h1
  refine ⟨Ren.le.rfl, ?_, by simp, by simp [World.setCell], ?_, ?_, rfl, rfl, rfl, ⟨?_, ?_, ?_, ?_, ?_, ?_, ?_, ?_, fun c L' hc => by have := h.bnd c L' hc; simpa [World.setCell] using this⟩, fun b L h1 => .inl ⟨b, L, h1, rfl⟩⟩
  · intro c hc hn
    refine ⟨hn, ?_⟩
    rw [Heap.get_set, if_neg]
    intro e; subst e; rw [hb] at hn; cases hn
  · intro c L' hc ho'; exact .inl ⟨c, L', hc, ho', rfl⟩
  · intro i hi hn
    exact RowKit.Below.heap_setCell w _ _ i (fun e => hn b L hb h3 e.symm)
  · intro c L' hc
    have := h.dom c L' hc
    simp; omega
  · intro c L' own el ce hc hgc
    rw [Heap.get_set] at hgc
    by_cases e : c = b
    · subst e
      rw [if_pos rfl] at hgc
      rw [hb] at hc; injection hc with hc; subst hc
      injection hgc with hgc; injection hgc with g1 g2 g3
      subst g1; subst g2; subst g3
      refine ⟨_, fr, hrow, ?_, h3, fun _ => ⟨h5, by simp [h6], h7⟩⟩
      intro i x hx
      by_cases ei : i = off
      · subst ei
        rw [List.getElem?_set_self ho] at hx
        injection hx with hx; subst hx
        exact ⟨v', by simp [hlt], hv⟩
      · rw [List.getElem?_set_ne (fun e => ei e.symm)] at hx
        obtain ⟨x', q1, q2⟩ := h2 i x hx
        exact ⟨x', by rw [Array.getElem?_setIfInBounds_ne (by omega)]; exact q1, q2⟩
    · rw [if_neg e] at hgc
      obtain ⟨cs', fr', q1, q2, q3⟩ := h.rows c L' own el ce hc hgc
      have hne : L.blk ≠ L'.blk := h.inj b c L L' _ (fun e' => e e'.symm) hb hc (fun _ _ => by rw [hg]; simp) (by rw [hg]; rfl) hgc
      refine ⟨cs', fr', ?_, q2, q3⟩
      rw [RowKit.Below.heap_setCell w _ _ _ (fun e' => hne e'.symm)]; exact q1
  · intro c L' es clock hc hgc
    rw [Heap.get_set] at hgc
    by_cases e : c = b
    · rw [if_pos e] at hgc; cases hgc
    · rw [if_neg e] at hgc
      obtain ⟨es', q1, q2⟩ := h.maps c L' es clock hc hgc
      have hne : L.blk ≠ L'.blk := h.inj b c L L' _ (fun e' => e e'.symm) hb hc (fun _ _ => by rw [hg]; simp) (by rw [hg]; rfl) hgc
      refine ⟨es', ?_, q2⟩
      rw [RowKit.Below.heap_setCell w _ _ _ (fun e' => hne e'.symm)]; exact q1
  · intro c hc
    simp only [Heap.next_set] at hc
    have := h.dom b L hb
    rw [Heap.get_set, if_neg (by omega)]
    exact h.free c hc
  · obtain ⟨v1, v2, v3⟩ := h.void
    refine ⟨v1, ?_, v3⟩
    rw [Heap.get_set, if_neg]
    · exact v2
    · intro e; subst e; rw [hb] at v1; cases v1
  · intro b1 b2 L1 L2 o2 hne e1 e2 g1 g1' g2
    rw [Heap.get_set] at g1 g1' g2
    have f1 : (∀ e c, H.get b1 ≠ some (.row false e c)) ∧ (H.get b1).isSome = true := by
      by_cases e : b1 = b
      · subst e; exact ⟨fun _ _ => by rw [hg]; simp, by rw [hg]; rfl⟩
      · rw [if_neg e] at g1 g1'; exact ⟨g1, g1'⟩
    by_cases e : b2 = b
    · subst e; exact h.inj b1 b2 L1 L2 _ hne e1 e2 f1.1 f1.2 hg
    · rw [if_neg e] at g2; exact h.inj b1 b2 L1 L2 _ hne e1 e2 f1.1 f1.2 g2
  · intro c L' fs hc hf
    obtain ⟨q1, el, fr2, q2⟩ := h.frz c L' fs hc hf
    have hne : L.blk ≠ L'.blk := h.frinj b c L L' fs hb hc hf (fun _ _ => by rw [hg]; simp) (by rw [hg]; rfl)
    exact ⟨q1, el, fr2, by rw [RowKit.Below.heap_setCell w _ _ _ (fun e' => hne e'.symm)]; exact q2⟩
  · intro b1 b2 L1 L2 fs e1 e2 hf g1 g1'
    rw [Heap.get_set] at g1 g1'
    have f1 : (∀ e c, H.get b1 ≠ some (.row false e c)) ∧ (H.get b1).isSome = true := by
      by_cases e : b1 = b
      · subst e; exact ⟨fun _ _ => by rw [hg]; simp, by rw [hg]; rfl⟩
      · rw [if_neg e] at g1 g1'; exact ⟨g1, g1'⟩
    exact h.frinj b1 b2 L1 L2 fs e1 e2 hf f1.1 f1.2

end Go.Abs

/- Operations that only compute: what they answer on abstract values, and that the machine answers the same. -/
namespace Go.Abs
open Go

def semPure (P : Program) {α : Type} : Sem α → Option α
  | .pure a => some a
  | .program k => semPure P (k P)
  | .mark _ k => semPure P k
  | _ => none

theorem semPure_run {P : Program} {α : Type} : ∀ (s : Sem α) {a : α}, semPure P s = some a → ∀ w : World, s.run P w = .ok a w
  | .pure b, a, h, w => by simp [semPure] at h; subst h; rfl
  | .program k, a, h, w => by simp only [semPure] at h; simp only [Sem.run]; exact semPure_run (k P) h w
  | .mark m k, a, h, w => by simp only [semPure] at h; simp only [Sem.run]; exact semPure_run k h w
  | .load .., a, h, w | .store .., a, h, w | .new .., a, h, w | .shape .., a, h, w | .freeze .., a, h, w | .frozen .., a, h, w
  | .getObj .., a, h, w | .setObj .., a, h, w | .choose .., a, h, w | .sys .., a, h, w | .halt .., a, h, w => by simp [semPure] at h

/-- Values without addresses, structs of such among them. -/
def gr : Value → Bool
  | .agg cs => cs.toList.all ground
  | v => ground v

theorem VRels.ground_eq {ρ : Ren} : ∀ {vs vs' : List Value}, VRels ρ vs vs' → vs.all Abs.ground = true → vs' = vs
  | _, _, .nil, _ => rfl
  | _, _, .cons h hs, hg => by
    simp at hg
    rw [h.ground_eq hg.1, VRels.ground_eq hs (by simpa using hg.2)]

theorem VRel.gr_eq {ρ : Ren} {v v' : Value} (h : VRel ρ v v') (hg : gr v = true) : v' = v := by
  cases h with
  | agg h => simp only [gr] at hg; rw [h.ground_eq hg]
  | ground h => rfl
  | _ => simp [gr, Abs.ground] at hg

theorem VRel.of_gr {ρ : Ren} {v : Value} (hg : gr v = true) : VRel ρ v v := by
  cases v with
  | agg cs => obtain ⟨l⟩ := cs; exact .agg (VRels.ground l hg)
  | _ => exact .ground hg

def scal (P : Program) (s : Sem Value) : Option Value :=
  match semPure P s with
  | some v => if gr v then some v else none
  | none => none

theorem scal_run {P : Program} {s : Sem Value} {v : Value} (h : scal P s = some v) (w : World) : s.run P w = .ok v w ∧ gr v = true := by
  unfold scal at h
  split at h
  · rename_i u hu
    split at h
    · rename_i hg; injection h with h; subst h; exact ⟨semPure_run s hu w, hg⟩
    · cases h
  · cases h

/-! ### comparisons with nil, arithmetic -/
def nilTest (P : Program) (t : TypeId) (a b : Value) : Option Bool :=
  match P.underlying t, a, b with
  | some (.slice _), .slice (some _) _ _, .slice none _ _ => some false
  | some (.slice _), .slice none _ _, .slice (some _) _ _ => some false
  | some (.pointer _), .pointer (some _), .pointer none => some false
  | some (.pointer _), .pointer none, .pointer (some _) => some false
  | some (.func ..), .func .., .nilFunc => some false
  | some (.func ..), .nilFunc, .func .. => some false
  | some (.map ..), .map (some _), .map none => some false
  | some (.map ..), .map none, .map (some _) => some false
  | _, _, _ => none

def aBin (P : Program) (op : BinOp) (t : TypeId) (x y : Operand) (a b : Value) : Option Value :=
  if gr a && gr b then scal P (do eqGuard op t x y a b; binOp op t a b)
  else match op, nilTest P t a b with
    | .eql, some r => some (.bool r)
    | .neq, some r => some (.bool !r)
    | _, _ => none

theorem VRel.pnone {ρ : Ren} {v : Value} (h : VRel ρ (.pointer none) v) : v = .pointer none := h.ground_eq rfl
theorem VRel.snone {ρ : Ren} {n c : Nat} {v : Value} (h : VRel ρ (.slice none n c) v) : v = .slice none n c := h.ground_eq rfl
theorem VRel.mnone {ρ : Ren} {v : Value} (h : VRel ρ (.map none) v) : v = .map none := h.ground_eq rfl
theorem VRel.nfn {ρ : Ren} {v : Value} (h : VRel ρ .nilFunc v) : v = .nilFunc := h.ground_eq rfl

theorem VRel.psome {ρ : Ren} {a : Addr} {v : Value} (h : VRel ρ (.pointer (some a)) v) : ∃ b off L, a = ⟨b, off, none⟩ ∧ ρ b = some L ∧ v = .pointer (some ⟨L.blk, L.base + off, none⟩) := by
  cases h with
  | ground h => simp [Abs.ground] at h
  | ptr h => exact ⟨_, _, _, rfl, h, rfl⟩

theorem VRel.sform {ρ : Ren} {a : Addr} {n c : Nat} {v : Value} (h : VRel ρ (.slice (some a) n c) v) : ∃ a' c', v = .slice (some a') n c' := by
  cases h with
  | ground h => simp [Abs.ground] at h
  | sl h hc => exact ⟨_, _, rfl⟩
  | slu h hn hl => exact ⟨_, _, rfl⟩
  | void => exact ⟨_, _, rfl⟩

theorem VRel.ssome {ρ : Ren} {a : Addr} {n c : Nat} {v : Value} (h : VRel ρ (.slice (some a) n c) v) :
    (∃ b off L c', a = ⟨b, off, none⟩ ∧ ρ b = some L ∧ v = .slice (some ⟨L.blk, L.base + off, none⟩) n c' ∧
      ((c ≠ unk ∧ c' = c) ∨ (c = unk ∧ n ≤ c' ∧ (L.own = true → L.base + off + c' * L.es ≤ L.lim)))) ∨
    (a = ⟨0, 0, none⟩ ∧ n = 0 ∧ c = unk ∧ ∃ a' c', v = .slice (some a') 0 c') := by
  cases h with
  | ground h => simp [Abs.ground] at h
  | sl h hc => exact .inl ⟨_, _, _, _, rfl, h, rfl, .inl ⟨hc, rfl⟩⟩
  | slu h hn hl => exact .inl ⟨_, _, _, _, rfl, h, rfl, .inr ⟨rfl, hn, hl⟩⟩
  | void => exact .inr ⟨rfl, rfl, rfl, _, _, rfl⟩

theorem VRel.msome {ρ : Ren} {b : Nat} {v : Value} (h : VRel ρ (.map (some b)) v) : ∃ L, ρ b = some L ∧ L.base = 0 ∧ v = .map (some L.blk) := by
  cases h with
  | ground h => simp [Abs.ground] at h
  | mp h h0 => exact ⟨_, h, h0, rfl⟩

theorem VRel.func {ρ : Ren} {f : Fn} {xs ys : Array Value} {v : Value} (h : VRel ρ (.func f xs ys) v) :
    ∃ xs' ys', v = .func f xs' ys' ∧ VRels ρ xs.toList xs'.toList ∧ VRels ρ ys.toList ys'.toList := by
  cases h with
  | ground h => simp [Abs.ground] at h
  | fn h1 h2 => exact ⟨_, _, rfl, h1, h2⟩

theorem VRel.aggr {ρ : Ren} {xs : Array Value} {v : Value} (h : VRel ρ (.agg xs) v) : ∃ xs', v = .agg xs' ∧ VRels ρ xs.toList xs'.toList := by
  cases h with
  | ground h => simp [Abs.ground] at h
  | agg h => exact ⟨_, rfl, h⟩

theorem VRel.tup {ρ : Ren} {xs : Array Value} {v : Value} (h : VRel ρ (.tuple xs) v) : ∃ xs', v = .tuple xs' ∧ VRels ρ xs.toList xs'.toList := by
  cases h with
  | ground h => simp [Abs.ground] at h
  | tuple h => exact ⟨_, rfl, h⟩

theorem VRel.int {ρ : Ren} {k : IntKind} {n : Int} {v : Value} (h : VRel ρ (.int k n) v) : v = .int k n := h.ground_eq rfl
theorem VRel.bool {ρ : Ren} {b : Bool} {v : Value} (h : VRel ρ (.bool b) v) : v = .bool b := h.ground_eq rfl
theorem VRel.string {ρ : Ren} {s : ByteArray} {v : Value} (h : VRel ρ (.string s) v) : v = .string s := h.ground_eq rfl

/-- What a frozen slice's parts are. -/
def fzParts (t : TypeId) : List Value → Option (Nat × List Value)
  | .int .i64 (.ofNat n) :: cells => if t = fzT then some (n, cells) else none
  | _ => none
theorem fzParts_fz (n : Nat) (cells : List Value) : fzParts fzT (.int .i64 (n : Int) :: cells) = some (n, cells) := _root_.id rfl
theorem fzParts_some {t : TypeId} {l : List Value} {n : Nat} {cells : List Value} (h : fzParts t l = some (n, cells)) : t = fzT ∧ l = .int .i64 (n : Int) :: cells := by
  unfold fzParts at h
  split at h
  · split at h
    · rename_i h1
      injection h with h; injection h with h2 h3
      subst h2; subst h3
      exact ⟨h1, rfl⟩
    · cases h
  · cases h
theorem VRel.frozen {ρ : Ren} {n : Nat} {cells : List Value} {v : Value} (h : VRel ρ (.iface fzT (.agg ⟨.int .i64 (n : Int) :: cells⟩)) v) :
    (∃ b off L cs c, ρ b = some L ∧ L.frz = some cs ∧ n ≤ c ∧ L.base + off + cells.length ≤ cs.length ∧ VRels ρ cells ((cs.drop (L.base + off)).take cells.length) ∧ v = .slice (some ⟨L.blk, L.base + off, none⟩) n c) ∨
    (n = 0 ∧ cells = [] ∧ v = .slice none 0 0) ∨ (n = 0 ∧ cells = [] ∧ ∃ a c, v = .slice (some a) 0 c) := by
  generalize e : Value.iface fzT (.agg ⟨.int .i64 (n : Int) :: cells⟩) = u at h
  cases h with
  | ground h => subst e; simp [Abs.ground] at h
  | iface h1 h2 h => injection e with e1 e2; exact absurd e1.symm h1
  | fz h hf hn hb hc =>
    injection e with e1 e2; injection e2 with e2; injection e2 with e2; injection e2 with e2 e3
    injection e2 with _ e2
    have e2 := Int.ofNat.inj e2
    subst e2; subst e3
    exact .inl ⟨_, _, _, _, _, h, hf, hn, hb, hc, rfl⟩
  | fznil =>
    injection e with e1 e2; injection e2 with e2; injection e2 with e2; injection e2 with e2 e3
    injection e2 with _ e2
    have e2 := Int.ofNat.inj e2
    exact .inr (.inl ⟨e2, e3, rfl⟩)
  | fzvoid =>
    injection e with e1 e2; injection e2 with e2; injection e2 with e2; injection e2 with e2 e3
    injection e2 with _ e2
    have e2 := Int.ofNat.inj e2
    exact .inr (.inr ⟨e2, e3, _, _, rfl⟩)
  | fp => injection e with e1 e2; exact absurd e1 fz_fp
  | _ => cases e
theorem VRel.frozenPtr {ρ : Ren} {cells : List Value} {v : Value} (h : VRel ρ (.iface fpT (.agg ⟨cells⟩)) v) :
    ∃ b off L cs, ρ b = some L ∧ L.frz = some cs ∧ L.base + off + cells.length ≤ cs.length ∧ VRels ρ cells ((cs.drop (L.base + off)).take cells.length) ∧ v = .pointer (some ⟨L.blk, L.base + off, none⟩) := by
  generalize e : Value.iface fpT (.agg ⟨cells⟩) = u at h
  cases h with
  | ground h => subst e; simp [Abs.ground] at h
  | iface h1 h2 h => injection e with e1 e2; exact absurd e1.symm h2
  | fp h hf hb hc =>
    injection e with e1 e2; injection e2 with e2; injection e2 with e2
    subst e2
    exact ⟨_, _, _, _, h, hf, hb, hc, rfl⟩
  | fz => injection e with e1 e2; exact absurd e1.symm fz_fp
  | fznil => injection e with e1 e2; exact absurd e1.symm fz_fp
  | fzvoid => injection e with e1 e2; exact absurd e1.symm fz_fp
  | _ => cases e
theorem VRels.part {ρ : Ren} {cells cs : List Value} {o : Nat} (h : VRels ρ cells ((cs.drop o).take cells.length)) {i k : Nat} (hk : i + k ≤ cells.length) : VRels ρ ((cells.drop i).take k) ((cs.drop (o + i)).take ((cells.drop i).take k).length) := by
  have h1 := (h.drop i).take k
  rw [List.drop_take, List.drop_drop, List.take_take] at h1
  rw [List.length_take, List.length_drop]
  have : min k (cells.length - i) = k := by omega
  rw [this] at h1 ⊢
  exact h1

theorem eq_of_depth {P : Program} {t : TypeId} {a b : Value} {r : Bool} {w : World} (h : ∀ d, (Op.equalIn (d + 1) t a b).run P w = .ok r w) : (Op.equal t a b).run P w = .ok r w := h 9999

theorem nilTest_equal {P : Program} {t : TypeId} {a b : Value} {r : Bool} (h : nilTest P t a b = some r) {ρ : Ren} {a' b' : Value} (ha : VRel ρ a a') (hb : VRel ρ b b') (w : World) :
    (Op.equal t a' b').run P w = .ok r w ∧ (∀ op x y, (eqGuard op t x y a' b').run P w = .ok () w) ∧ (∀ op, (op = .eql → (binOp op t a' b').run P w = .ok (.bool r) w) ∧ (op = .neq → (binOp op t a' b').run P w = .ok (.bool !r) w)) := by
  have key : ∀ a' b' : Value, (Op.equal t a' b').run P w = .ok r w → (∀ k n, a' ≠ .int k n) → (∀ s, a' ≠ .string s) → (∀ k n, a' ≠ .float k n) → (∀ k n m, a' ≠ .complex k n m) → (a' ≠ .nilIface) → (∀ c, a' ≠ .agg c) →
      (Op.equal t a' b').run P w = .ok r w ∧ (∀ op x y, (eqGuard op t x y a' b').run P w = .ok () w) ∧ (∀ op, (op = .eql → (binOp op t a' b').run P w = .ok (.bool r) w) ∧ (op = .neq → (binOp op t a' b').run P w = .ok (.bool !r) w)) := by
    intro a' b' he h1 h2 h3 h4 h5 h6
    refine ⟨he, ?_, ?_⟩
    · intro op x y
      cases a' <;> first | exact absurd rfl h5 | exact absurd rfl (h6 _) | (cases op <;> rfl)
    · intro op
      constructor
      · intro e; subst e
        cases a' <;> first | exact absurd rfl (h1 _ _) | exact absurd rfl (h2 _) | exact absurd rfl (h3 _ _) | exact absurd rfl (h4 _ _ _) | simp [binOp, he]
      · intro e; subst e
        cases a' <;> first | exact absurd rfl (h1 _ _) | exact absurd rfl (h2 _) | exact absurd rfl (h3 _ _) | exact absurd rfl (h4 _ _ _) | simp [binOp, he]
  unfold nilTest at h
  split at h <;> (try (cases h; done)) <;> (injection h with h; subst h)
  · rename_i hu
    obtain ⟨a', c', rfl⟩ := ha.sform
    rw [hb.snone]
    refine key _ _ ?_ (by simp) (by simp) (by simp) (by simp) (by simp) (by simp)
    exact eq_of_depth (fun d => by simp only [Op.equalIn, Sem.run_bind, run_underlying hu, Result.andThen_ok]; rfl)
  · rename_i hu
    obtain ⟨a', c', rfl⟩ := hb.sform
    rw [ha.snone]
    refine key _ _ ?_ (by simp) (by simp) (by simp) (by simp) (by simp) (by simp)
    exact eq_of_depth (fun d => by simp only [Op.equalIn, Sem.run_bind, run_underlying hu, Result.andThen_ok]; rfl)
  · rename_i hu
    obtain ⟨b, off, L, rfl, h1, rfl⟩ := ha.psome
    rw [hb.pnone]
    refine key _ _ ?_ (by simp) (by simp) (by simp) (by simp) (by simp) (by simp)
    exact eq_of_depth (fun d => by simp only [Op.equalIn, Sem.run_bind, run_underlying hu, Result.andThen_ok]; rfl)
  · rename_i hu
    obtain ⟨b, off, L, rfl, h1, rfl⟩ := hb.psome
    rw [ha.pnone]
    refine key _ _ ?_ (by simp) (by simp) (by simp) (by simp) (by simp) (by simp)
    exact eq_of_depth (fun d => by simp only [Op.equalIn, Sem.run_bind, run_underlying hu, Result.andThen_ok]; rfl)
  · rename_i hu
    obtain ⟨xs', ys', rfl, _, _⟩ := ha.func
    rw [hb.nfn]
    refine key _ _ ?_ (by simp) (by simp) (by simp) (by simp) (by simp) (by simp)
    exact eq_of_depth (fun d => by simp only [Op.equalIn, Sem.run_bind, run_underlying hu, Result.andThen_ok]; rfl)
  · rename_i hu
    obtain ⟨xs', ys', rfl, _, _⟩ := hb.func
    rw [ha.nfn]
    refine key _ _ ?_ (by simp) (by simp) (by simp) (by simp) (by simp) (by simp)
    exact eq_of_depth (fun d => by simp only [Op.equalIn, Sem.run_bind, run_underlying hu, Result.andThen_ok]; rfl)
  · rename_i hu
    obtain ⟨L, h1, _, rfl⟩ := ha.msome
    rw [hb.mnone]
    refine key _ _ ?_ (by simp) (by simp) (by simp) (by simp) (by simp) (by simp)
    exact eq_of_depth (fun d => by simp only [Op.equalIn, Sem.run_bind, run_underlying hu, Result.andThen_ok]; rfl)
  · rename_i hu
    obtain ⟨L, h1, _, rfl⟩ := hb.msome
    rw [ha.mnone]
    refine key _ _ ?_ (by simp) (by simp) (by simp) (by simp) (by simp) (by simp)
    exact eq_of_depth (fun d => by simp only [Op.equalIn, Sem.run_bind, run_underlying hu, Result.andThen_ok]; rfl)

theorem aBin_run {P : Program} {op : BinOp} {t : TypeId} {x y : Operand} {a b v : Value} (h : aBin P op t x y a b = some v) {ρ : Ren} {a' b' : Value} (ha : VRel ρ a a') (hb : VRel ρ b b') (w : World) :
    ∃ v', (do eqGuard op t x y a' b'; binOp op t a' b' : Sem Value).run P w = .ok v' w ∧ VRel ρ v v' := by
  unfold aBin at h
  split at h
  · rename_i hg
    simp at hg
    rw [ha.gr_eq hg.1, hb.gr_eq hg.2]
    obtain ⟨h1, h2⟩ := scal_run h w
    exact ⟨v, h1, .of_gr h2⟩
  · split at h
    · rename_i r hn
      injection h with h; subst h
      obtain ⟨_, h2, h3⟩ := nilTest_equal hn ha hb w
      exact ⟨_, by rw [Sem.run_bind, h2, Result.andThen_ok, (h3 _).1 rfl], .ground rfl⟩
    · rename_i r hn
      injection h with h; subst h
      obtain ⟨_, h2, h3⟩ := nilTest_equal hn ha hb w
      exact ⟨_, by rw [Sem.run_bind, h2, Result.andThen_ok, (h3 _).2 rfl], .ground rfl⟩
    · cases h

/-! ### addresses -/
def sized (P : Program) (t : TypeId) : Bool := (P.info? t).isSome

theorem run_sizeOf' {P : Program} {t : TypeId} (h : sized P t = true) (w : World) : (sizeOf t).run P w = .ok (szOf P t) w := by
  unfold sized at h
  cases hi : P.info? t with
  | none => rw [hi] at h; cases h
  | some i => simp [sizeOf, typeInfo, hi, szOf]

def aIndexAddr (P : Program) (t : TypeId) (x ix : Value) : Option Value :=
  match P.underlying t, x, ix with
  | some (.slice e), .slice (some a) n _, .int _ i => if 0 ≤ i ∧ i < n ∧ sized P e = true then some (.pointer (some ⟨a.block, a.off + i.toNat * szOf P e, none⟩)) else none
  | some (.array n e), .pointer (some a), .int _ i => if 0 ≤ i ∧ i < n ∧ sized P e = true then some (.pointer (some ⟨a.block, a.off + i.toNat * szOf P e, none⟩)) else none
  | some (.slice e), .iface f (.agg l), .int _ i => match fzParts f l.toList with
    | some (n, cells) => if 0 ≤ i ∧ i < n ∧ sized P e = true ∧ cells.length = n * szOf P e then some (fpv ((cells.drop (i.toNat * szOf P e)).take (szOf P e))) else none
    | none => none
  | _, _, _ => none

theorem mul_part {i n k : Nat} (h : i < n) : i * k + k ≤ n * k := by
  rw [← Nat.succ_mul]; exact Nat.mul_le_mul_right _ h

theorem add_eq (b o n : Nat) : (⟨b, o, none⟩ : Addr).add n = ⟨b, o + n, none⟩ := Addr.add_mid b o n

theorem aIndexAddr_run {P : Program} {t : TypeId} {x ix v : Value} (h : aIndexAddr P t x ix = some v) {ρ : Ren} {x' ix' : Value} (hx : VRel ρ x x') (hi : VRel ρ ix ix') (w : World) :
    ∃ v', (Instr.indexAt t x' ix').run P w = .ok v' w ∧ VRel ρ v v' := by
  unfold aIndexAddr at h
  split at h
  · rename_i e a n c k i hu
    split at h
    · rename_i hc
      injection h with h; subst h
      rcases hx.ssome with ⟨b, off, L, c', rfl, h1, rfl, _⟩ | ⟨_, hn0, _⟩
      rotate_left
      · exfalso; omega
      rw [hi.int]
      refine ⟨_, ?_, .ptr h1⟩
      simp [Instr.indexAt, asIntOf, run_underlying hu, hc.1, hc.2.1, run_sizeOf' hc.2.2, add_eq, Nat.add_assoc]
    · cases h
  · rename_i n e a k i hu
    split at h
    · rename_i hc
      injection h with h; subst h
      obtain ⟨b, off, L, rfl, h1, rfl⟩ := hx.psome
      rw [hi.int]
      refine ⟨_, ?_, .ptr h1⟩
      simp [Instr.indexAt, asIntOf, Instr.sureAddr, run_underlying hu, hc.1, hc.2.1, run_sizeOf' hc.2.2, add_eq, Nat.add_assoc]
    · cases h
  · rename_i e f l k i hu
    split at h
    · rename_i n cells hp
      split at h
      · rename_i hc
        injection h with h; subst h
        obtain ⟨rfl, hl⟩ := fzParts_some hp
        obtain ⟨l⟩ := l
        simp only at hl
        subst hl
        rcases hx.frozen with ⟨b, off, L, cs, c', h1, hf, hn, hb, hv, rfl⟩ | ⟨h0, _⟩ | ⟨h0, _⟩
        rotate_left
        · exfalso; omega
        · exfalso; omega
        rw [hi.int]
        have hm := mul_part (i := i.toNat) (n := n) (k := szOf P e) (by omega)
        refine ⟨.pointer (some ⟨L.blk, L.base + (off + i.toNat * szOf P e), none⟩), ?_, .fp h1 hf ?_ ?_⟩
        · simp [Instr.indexAt, asIntOf, run_underlying hu, hc.1, hc.2.1, run_sizeOf' hc.2.2.1, add_eq, Nat.add_assoc]
        · simp only [List.length_take, List.length_drop]
          omega
        · rw [← Nat.add_assoc]
          exact hv.part (by omega)
      · cases h
    · cases h
  · cases h

def aFieldAddr (P : Program) (s : TypeId) (x : Value) (f : Nat) : Option Value :=
  match P.underlying s, x with
  | some (.struct fs), .pointer (some a) =>
    match fs[f]? with
    | some fd => if sized P fd.type = true ∧ szOf P fd.type ≠ 0 then some (.pointer (some ⟨a.block, a.off + fd.offset, none⟩)) else none
    | none => none
  | some (.struct fs), .iface t (.agg l) =>
    match fs[f]? with
    | some fd => if t = fpT ∧ sized P fd.type = true ∧ szOf P fd.type ≠ 0 ∧ fd.offset + szOf P fd.type ≤ l.toList.length then some (fpv ((l.toList.drop fd.offset).take (szOf P fd.type))) else none
    | none => none
  | _, _ => none

theorem aFieldAddr_run {P : Program} {s : TypeId} {x v : Value} {f : Nat} (h : aFieldAddr P s x f = some v) {ρ : Ren} {x' : Value} (hx : VRel ρ x x') (w : World) :
    ∃ v', (Instr.fieldAt s x' f).run P w = .ok v' w ∧ VRel ρ v v' := by
  unfold aFieldAddr at h
  split at h
  · rename_i fs a hu
    split at h
    · rename_i fd hf
      split at h
      · rename_i hc
        injection h with h; subst h
        obtain ⟨b, off, L, rfl, h1, rfl⟩ := hx.psome
        refine ⟨_, ?_, .ptr h1⟩
        simp [Instr.fieldAt, Instr.sureAddr, run_underlying hu, hf, fieldPlace, run_sizeOf' hc.1, hc.2, add_eq, Nat.add_assoc]
      · cases h
    · cases h
  · rename_i fs t l hu
    split at h
    · rename_i fd hf
      split at h
      · rename_i hc
        injection h with h; subst h
        obtain ⟨rfl, hc1, hc2, hc3⟩ := hc
        obtain ⟨l⟩ := l
        obtain ⟨b, off, L, cs, h1, hff, hb, hv, rfl⟩ := hx.frozenPtr
        simp only at hc3
        refine ⟨.pointer (some ⟨L.blk, L.base + (off + fd.offset), none⟩), ?_, .fp h1 hff ?_ ?_⟩
        · simp [Instr.fieldAt, Instr.sureAddr, run_underlying hu, hf, fieldPlace, run_sizeOf' hc1, hc2, add_eq, Nat.add_assoc]
        · simp only [List.length_take, List.length_drop]
          omega
        · rw [← Nat.add_assoc]
          exact hv.part hc3
      · cases h
    · cases h
  · cases h

def isRowT (P : Program) (t : TypeId) : Option Bool :=
  match P.underlying t with
  | some (.struct _) | some (.array _ _) => some true
  | some _ => some false
  | none => none

theorem run_isAgg {P : Program} {t : TypeId} {b : Bool} (h : isRowT P t = some b) (w : World) : (isAgg t).run P w = .ok b w := by
  unfold isRowT at h
  unfold isAgg
  cases hu : P.underlying t with
  | none => simp [hu] at h
  | some d => cases d <;> simp [hu] at h <;> subst h <;> simp [run_underlying hu]

/-- A part of a struct's or an array's cells. -/
def aPart (P : Program) (t : TypeId) (cs : List Value) (off : Nat) : Option Value :=
  match isRowT P t with
  | some true => if sized P t = true then some (.agg ⟨(cs.drop off).take (szOf P t)⟩) else none
  | some false => cs[off]?
  | none => none

theorem extract_list (xs : Array Value) (i j : Nat) : (xs.extract i j) = ⟨(xs.toList.drop i).take (j - i)⟩ := by
  obtain ⟨l⟩ := xs
  simp [List.extract_eq_take_drop]

theorem aPart_run {P : Program} {t : TypeId} {cs : List Value} {off : Nat} {v : Value} (h : aPart P t cs off = some v) {ρ : Ren} {cs' : Array Value} (hc : VRels ρ cs cs'.toList) (w : World) :
    ∃ v', (part t cs' off).run P w = .ok v' w ∧ VRel ρ v v' := by
  unfold aPart at h
  split at h
  · rename_i hr
    split at h
    · rename_i hs
      injection h with h; subst h
      refine ⟨.agg ⟨(cs'.toList.drop off).take (szOf P t)⟩, ?_, .agg ((hc.drop _).take _)⟩
      simp only [part, Sem.run_bind, run_isAgg hr, Result.andThen_ok, if_true, run_sizeOf' hs, Sem.run_pure, extract_list]
      rw [Nat.add_sub_cancel_left]
    · cases h
  · rename_i hr
    obtain ⟨v', h1, h2⟩ := hc.get _ _ h
    refine ⟨v', ?_, h2⟩
    have h1' : cs'[off]? = some v' := by rw [← Array.getElem?_toList]; exact h1
    simp [part, run_isAgg hr, h1']
  · cases h

def aField (P : Program) (t : TypeId) (x : Value) (f : Nat) : Option Value :=
  match P.underlying t, x with
  | some (.struct fs), .agg cs =>
    match fs[f]? with
    | some fd => aPart P fd.type cs.toList fd.offset
    | none => none
  | _, _ => none

theorem aField_run {P : Program} {t : TypeId} {x v : Value} {f : Nat} (h : aField P t x f = some v) {ρ : Ren} {x' : Value} (hx : VRel ρ x x') (w : World) :
    ∃ v', (Instr.field t x' f).run P w = .ok v' w ∧ VRel ρ v v' := by
  unfold aField at h
  split at h
  · rename_i fs cs hu
    split at h
    · rename_i fd hf
      obtain ⟨cs', rfl, hc⟩ := hx.aggr
      obtain ⟨v', h1, h2⟩ := aPart_run h hc w
      exact ⟨v', by simp [Instr.field, run_underlying hu, hf, asAgg, h1], h2⟩
    · cases h
  · cases h

def aIndex (P : Program) (t : TypeId) (x ix : Value) : Option Value :=
  match x with
  | .string _ => if gr ix then scal P (Instr.index t x ix) else none
  | .agg cs => match P.underlying t, ix with
    | some (.array n e), .int _ i => if 0 ≤ i ∧ i < n ∧ sized P e = true then aPart P e cs.toList (i.toNat * szOf P e) else none
    | _, _ => none
  | _ => none

theorem aIndex_run {P : Program} {t : TypeId} {x ix v : Value} (h : aIndex P t x ix = some v) {ρ : Ren} {x' ix' : Value} (hx : VRel ρ x x') (hi : VRel ρ ix ix') (w : World) :
    ∃ v', (Instr.index t x' ix').run P w = .ok v' w ∧ VRel ρ v v' := by
  unfold aIndex at h
  split at h
  · split at h
    · rename_i hg
      rw [hx.string, hi.gr_eq hg]
      obtain ⟨h1, h2⟩ := scal_run h w
      exact ⟨v, h1, .of_gr h2⟩
    · cases h
  · rename_i cs
    split at h
    · rename_i n e k i hu
      split at h
      · rename_i hc
        obtain ⟨cs', rfl, hcs⟩ := hx.aggr
        rw [hi.int]
        obtain ⟨v', h1, h2⟩ := aPart_run h hcs w
        exact ⟨v', by simp [Instr.index, asIntOf, run_underlying hu, hc.1, hc.2.1, run_sizeOf' hc.2.2, h1], h2⟩
      · cases h
    · cases h
  · cases h

def aExtract (x : Value) (i : Nat) : Option Value :=
  match x with
  | .tuple vs => vs.toList[i]?
  | _ => none

theorem aExtract_run {P : Program} {x v : Value} {i : Nat} (h : aExtract x i = some v) {ρ : Ren} {x' : Value} (hx : VRel ρ x x') (w : World) :
    ∃ v', (Instr.extract x' i).run P w = .ok v' w ∧ VRel ρ v v' := by
  unfold aExtract at h
  split at h
  · obtain ⟨xs', rfl, hs⟩ := hx.tup
    obtain ⟨v', h1, h2⟩ := hs.get _ _ h
    have h1' : xs'[i]? = some v' := by rw [← Array.getElem?_toList]; exact h1
    exact ⟨v', by simp [Instr.extract, h1'], h2⟩
  · cases h

def aNilCheck (x : Value) : Option Value :=
  match x with
  | .pointer (some a) => some (.pointer (some a))
  | .func (.method _) _ _ => none
  | .func f xs ys => some (.func f xs ys)
  | .iface t v => if t = fzT then none else some (.iface t v)
  | _ => none

end Go.Abs

/- Operations that make a row, or read one. -/
namespace Go.Abs
open Go

/-! ### cells of one value -/
theorem VRel.oneCell {ρ : Ren} {v v' : Value} (h : VRel ρ v v') : v'.oneCell' = v.oneCell' := by
  cases h <;> rfl

theorem VRels.oneCell {ρ : Ren} : ∀ {vs vs' : List Value}, VRels ρ vs vs' → vs.all (·.oneCell') = true → ∀ v ∈ vs', v.oneCell' = true
  | _, _, .nil, _ => by simp
  | _, _, .cons h hs, hg => by
    simp at hg
    intro v hv
    cases hv with
    | head => rw [h.oneCell]; exact hg.1
    | tail _ hv => exact VRels.oneCell hs (by simpa using hg.2) v hv

/-! ### filling in -/
theorem foldl_set_rel {ρ : Ren} (off : Nat) : ∀ {vs vs' : List Value} (_ : VRels ρ vs vs') (k : Nat) {cs cs' : Array Value} (_ : VRels ρ cs.toList cs'.toList),
    VRels ρ ((vs.zipIdx k).foldl (fun (cs : Array Value) (p : Value × Nat) => cs.setIfInBounds (off + p.2) p.1) cs).toList ((vs'.zipIdx k).foldl (fun (cs : Array Value) (p : Value × Nat) => cs.setIfInBounds (off + p.2) p.1) cs').toList
  | _, _, .nil, _, _, _, h => h
  | _, _, .cons hv hs, k, cs, cs', h => by
    simp only [List.zipIdx_cons, List.foldl_cons]
    refine foldl_set_rel off hs (k + 1) ?_
    simp only [Array.toList_setIfInBounds]
    exact h.set _ hv

inductive PRel (ρ : Ren) : List (Nat × Value) → List (Nat × Value) → Prop
  | nil : PRel ρ [] []
  | cons {i : Nat} {v v' : Value} {l l' : List (Nat × Value)} (h : VRel ρ v v') (hs : PRel ρ l l') : PRel ρ ((i, v) :: l) ((i, v') :: l')

theorem fill_rel {ρ : Ren} (place : Nat → Option (Nat × Nat)) : ∀ {ps ps' : List (Nat × Value)} (_ : PRel ρ ps ps') {cs cs' r : Array Value} (_ : VRels ρ cs.toList cs'.toList),
    Instr.fill place cs ps = some r → ∃ r', Instr.fill place cs' ps' = some r' ∧ VRels ρ r.toList r'.toList
  | _, _, .nil, cs, cs', r, h, e => by
    simp only [Instr.fill, Option.some.injEq] at e ⊢
    subst e; exact ⟨_, rfl, h⟩
  | _, _, .cons (i := i) (v := v) (v' := v') hv hs, cs, cs', r, h, e => by
    simp only [Instr.fill] at e ⊢
    have hl : cs'.size = cs.size := by have := h.length; simp at this; exact this.symm
    have hvl : v'.cells.size = v.cells.size := by have := hv.cells.length; simp at this; exact this.symm
    cases hp : place i with
    | none => rw [hp] at e; cases e
    | some q =>
      obtain ⟨off, size⟩ := q
      rw [hp] at e
      simp only [hl, hvl] at e ⊢
      split at e
      · cases e
      · rename_i hc
        rw [if_neg hc]
        refine fill_rel place hs ?_ e
        have := foldl_set_rel (ρ := ρ) off hv.cells 0 h
        rw [← Array.foldl_toList, ← Array.foldl_toList, Array.toList_zipIdx, Array.toList_zipIdx]
        exact this

/-! ### operands -/
abbrev Env := Operand → Option Value

def evs (e : Env) : List Operand → Option (List Value)
  | [] => some []
  | x :: xs => match e x, evs e xs with
    | some v, some vs => some (v :: vs)
    | _, _ => none

def evps (e : Env) : List (Nat × Operand) → Option (List (Nat × Value))
  | [] => some []
  | (i, x) :: xs => match e x, evps e xs with
    | some v, some vs => some ((i, v) :: vs)
    | _, _ => none

/-- Abstract operands stand for the machine's. -/
def ERel (ρ : Ren) (xs : List Operand) (e : Env) (c : Operand → Value) : Prop := ∀ x ∈ xs, ∀ v, e x = some v → VRel ρ v (c x)

theorem evs_rel {ρ : Ren} {e : Env} {c : Operand → Value} : ∀ {xs : List Operand} {vs : List Value}, ERel ρ xs e c → evs e xs = some vs → VRels ρ vs (xs.map c)
  | [], vs, _, h => by simp [evs] at h; subst h; exact .nil
  | x :: xs, vs, hr, h => by
    simp only [evs] at h
    split at h
    · rename_i v us hv hus
      injection h with h; subst h
      exact .cons (hr x (by simp) v hv) (evs_rel (fun y hy => hr y (by simp [hy])) hus)
    · cases h

theorem evps_rel {ρ : Ren} {e : Env} {c : Operand → Value} : ∀ {xs : List (Nat × Operand)} {vs : List (Nat × Value)}, ERel ρ (xs.map (·.2)) e c → evps e xs = some vs → PRel ρ vs (xs.map fun p => (p.1, c p.2))
  | [], vs, _, h => by simp [evps] at h; subst h; exact .nil
  | (i, x) :: xs, vs, hr, h => by
    simp only [evps] at h
    split at h
    · rename_i v us hv hus
      injection h with h; subst h
      exact .cons (hr x (by simp) v hv) (evps_rel (fun y hy => hr y (by simp [hy])) hus)
    · cases h

/-! ### making -/
/-- What an operation makes: the elements' type, the cells, the value by the new block's number. -/
def aNew (P : Program) (e : Env) : Op → Option (TypeId × List Value × (Nat → Value))
  | .alloc el =>
    match P.info? el with
    | some i => match i.zero with
      | some z => if z.cells.toList.all ground then some (el, z.cells.toList, fun b => .pointer (some ⟨b, 0, none⟩)) else none
      | none => none
    | none => none
  | .box el x =>
    match e x with
    | some v => some (el, v.cells.toList, fun b => .pointer (some ⟨b, 0, none⟩))
    | none => none
  | .buildSlice t len parts =>
    match P.underlying t with
    | some (.slice el) =>
      match P.info? el, evps e parts.toList with
      | some i, some ps =>
        match i.zero with
        | some z =>
          if len * i.size ≤ 2 ^ 24 ∧ len ≠ unk ∧ z.cells.toList.all ground = true ∧ z.cells.size = i.size then
            match Instr.fill (fun j => some (j * i.size, i.size)) (madeCells z.cells (len * i.size)) ps with
            | some cs => some (el, cs.toList, fun b => .slice (some ⟨b, 0, none⟩) len len)
            | none => none
          else none
        | none => none
      | _, _ => none
    | _ => none
  | .makeSlice t l c =>
    match P.underlying t, e l, e c with
    | some (.slice el), some (.int _ n), some (.int _ m) =>
      match P.info? el with
      | some i =>
        match i.zero with
        | some z =>
          if 0 ≤ n ∧ n ≤ m ∧ m ≤ 9223372036854775807 ∧ (i.bytes : Int) * m ≤ 281474976710656 ∧ z.cells.toList.all ground = true ∧ z.cells.size = i.size then
            some (el, (madeCells z.cells (m.toNat * i.size)).toList, fun b => .slice (some ⟨b, 0, none⟩) n.toNat m.toNat)
          else none
        | none => none
      | none => none
    | _, _, _ => none
  | _ => none

theorem made_all_ground {z : Array Value} {n : Nat} (hz : z.toList.all ground = true) (hs : n = 0 ∨ 0 < z.size) : (madeCells z n).toList.all ground = true := by
  rw [List.all_eq_true]
  intro v hv
  simp only [madeCells, Array.toList_map, List.mem_map] at hv
  obtain ⟨j, hj, rfl⟩ := hv
  simp at hj
  have hp : 0 < z.size := by omega
  rw [List.all_eq_true] at hz
  apply hz
  rw [getElem!_pos z (j % z.size) (Nat.mod_lt _ hp)]
  simp

theorem mem_ops2 {x y : Operand} : x ∈ [x, y] ∧ y ∈ [x, y] := by simp

theorem run_value {P : Program} {s : Sem Value} {v : Value} {w w' : World} (h : s.run P w = .ok v w') : (do pure (.value (← s)) : Sem Next).run P w = .ok (.value v) w' := by
  rw [Sem.run_bind, h, Result.andThen_ok, Sem.run_pure]

theorem aNew_run {P : Program} {e : Env} {op : Op} {el : TypeId} {cells : List Value} {f : Nat → Value} (h : aNew P e op = some (el, cells, f)) {o : Oper} (ho : o.op = op)
    {ρ : Ren} {c : Operand → Value} (hr : ERel ρ op.operands.toList e c) (w : World) :
    ∃ cs : Array Value, (execOp c o).run P w = .ok (.value (f w.heap.size)) (w.alloc (.cells cs el)) ∧ VRels ρ cells cs.toList := by
  unfold aNew at h
  split at h
  · -- alloc
    rename_i t
    split at h
    · rename_i i hi
      split at h
      · rename_i z hz
        split at h
        · rename_i hg
          simp only [Option.some.injEq, Prod.mk.injEq] at h
          obtain ⟨rfl, rfl, rfl⟩ := h
          refine ⟨z.cells, ?_, VRels.ground _ hg⟩
          simp only [execOp, ho]
          refine run_value ?_
          simp [Instr.alloc, zeroValue, typeInfo, hi, hz, newVar, newRow]
        · cases h
      · cases h
    · cases h
  · -- box
    rename_i t x
    split at h
    · rename_i v hv
      simp only [Option.some.injEq, Prod.mk.injEq] at h
      obtain ⟨rfl, rfl, rfl⟩ := h
      have hx := hr x (by simp [Op.operands]) v hv
      refine ⟨(c x).cells, ?_, hx.cells⟩
      simp only [execOp, ho]
      refine run_value ?_
      simp [Instr.box, newVar, newRow]
    · cases h
  · -- buildSlice
    rename_i t len parts
    split at h
    · rename_i el' hu
      split at h
      · rename_i i ps hi hps
        split at h
        · rename_i z hz
          split at h
          · rename_i hc
            split at h
            · rename_i cs hf
              simp only [Option.some.injEq, Prod.mk.injEq] at h
              obtain ⟨rfl, rfl, rfl⟩ := h
              have hp := evps_rel (c := c) (by intro x hx; exact hr x (by simpa [Op.operands] using hx)) hps
              have hm : VRels ρ (madeCells z.cells (len * i.size)).toList (madeCells z.cells (len * i.size)).toList :=
                VRels.ground _ (made_all_ground hc.2.2.1 ((Nat.eq_zero_or_pos i.size).elim (fun h0 => .inl (by simp [h0])) (fun h0 => .inr (by omega))))
              obtain ⟨cs', h1, h2⟩ := fill_rel _ hp hm hf
              refine ⟨cs', ?_, h2⟩
              simp only [execOp, ho]
              refine run_value ?_
              have hpl : (parts.map fun (p : Nat × Operand) => (p.1, c p.2)).toList = parts.toList.map fun p => (p.1, c p.2) := by simp
              have h24 : ¬ len * i.size > 2 ^ 24 := by omega
              by_cases h0 : len * i.size = 0
              · have hm0 : madeCells z.cells (len * i.size) = #[] := by rw [h0]; simp [madeCells]
                rw [hm0] at h1
                simp [Instr.buildSlice, run_underlying hu, sizeOf, typeInfo, hi, h0]
                rw [show (Array.map (fun (_ : Nat) => (default : Value)) (Array.range 0)) = #[] by simp, h1]
                simp [newRow]
              · simp only [madeCells] at h1
                simp [Instr.buildSlice, run_underlying hu, sizeOf, typeInfo, zeroValue, hi, hz, h24, h0]
                rw [h1]
                simp [newRow]
            · cases h
          · cases h
        · cases h
      · cases h
    · cases h
  · -- makeSlice
    rename_i t l m
    split at h
    · rename_i el' kl n kc mm hu hl hm
      split at h
      · rename_i i hi
        split at h
        · rename_i z hz
          split at h
          · rename_i hc
            simp only [Option.some.injEq, Prod.mk.injEq] at h
            obtain ⟨rfl, rfl, rfl⟩ := h
            refine ⟨madeCells z.cells (mm.toNat * i.size), ?_, VRels.ground _ (made_all_ground hc.2.2.2.2.1 ((Nat.eq_zero_or_pos i.size).elim (fun h0 => .inl (by simp [h0])) (fun h0 => .inr (by omega))))⟩
            simp only [execOp, ho]
            rw [(hr l (by simp [Op.operands]) _ hl).int, (hr m (by simp [Op.operands]) _ hm).int]
            exact run_value (run_make w t el' i z hu hi hz kl kc n mm hc.1 hc.2.1 hc.2.2.2.1 hc.2.2.1)
          · cases h
        · cases h
      · cases h
    · cases h
  · cases h

theorem aNew_val {P : Program} {e : Env} {op : Op} {el : TypeId} {cells : List Value} {f : Nat → Value} (h : aNew P e op = some (el, cells, f))
    {ρ : Ren} {b : Nat} {L : Loc} (hb : ρ b = some L) (h0 : L.base = 0) : VRel ρ (f b) (f L.blk) := by
  have hp : ∀ x, x = L → VRel ρ (.pointer (some ⟨b, 0, none⟩)) (.pointer (some ⟨x.blk, 0, none⟩)) := fun x e => by
    subst e; have := VRel.ptr (ρ := ρ) (off := 0) hb; rwa [h0] at this
  have hs : ∀ n m : Nat, m ≠ unk → VRel ρ (.slice (some ⟨b, 0, none⟩) n m) (.slice (some ⟨L.blk, 0, none⟩) n m) := fun n m hm => by
    have := VRel.sl (ρ := ρ) (off := 0) (n := n) hb hm; rwa [h0] at this
  unfold aNew at h
  split at h
  · split at h
    · split at h
      · split at h
        · simp only [Option.some.injEq, Prod.mk.injEq] at h
          obtain ⟨_, _, rfl⟩ := h
          exact hp L rfl
        · cases h
      · cases h
    · cases h
  · split at h
    · simp only [Option.some.injEq, Prod.mk.injEq] at h
      obtain ⟨_, _, rfl⟩ := h
      exact hp L rfl
    · cases h
  · split at h
    · split at h
      · split at h
        · split at h
          · rename_i hc
            split at h
            · simp only [Option.some.injEq, Prod.mk.injEq] at h
              obtain ⟨_, _, rfl⟩ := h
              exact hs _ _ hc.2.1
            · cases h
          · cases h
        · cases h
      · cases h
    · cases h
  · split at h
    · split at h
      · split at h
        · split at h
          · rename_i hc
            simp only [Option.some.injEq, Prod.mk.injEq] at h
            obtain ⟨_, _, rfl⟩ := h
            refine hs _ _ ?_
            unfold unk; omega
          · cases h
        · cases h
      · cases h
    · cases h
  · cases h

end Go.Abs

/- Operations that read a row, and those that write one. -/
namespace Go.Abs
open Go

def aCell (H : Heap) (a : Addr) : Option Value :=
  match H.get a.block with
  | some (.row _ _ cs) => cs[a.off]?
  | _ => none

def aCells (H : Heap) (a : Addr) (n : Nat) : Option (List Value) :=
  match H.get a.block with
  | some (.row _ _ cs) => if a.off + n ≤ cs.length then some ((cs.drop a.off).take n) else none
  | _ => none

theorem aCell_run {P : Program} {ρ : Ren} {H : Heap} {w : World} (hR : HRel P ρ H w) {b off : Nat} {L : Loc} (hb : ρ b = some L) {v : Value} (h : aCell H ⟨b, off, none⟩ = some v) :
    ∃ v', w.cell? ⟨L.blk, L.base + off, none⟩ = some v' ∧ VRel ρ v v' := by
  unfold aCell at h
  split at h
  · rename_i own el cs hg
    obtain ⟨cs', fr, h1, h2, _⟩ := hR.rows b L own el cs hb hg
    obtain ⟨v', k1, k2⟩ := h2 off v h
    exact ⟨v', by simp [World.cell?, h1, k1], k2⟩
  · cases h

theorem aCells_run {P : Program} {ρ : Ren} {H : Heap} {w : World} (hR : HRel P ρ H w) {b off n : Nat} {L : Loc} (hb : ρ b = some L) {vs : List Value} (h : aCells H ⟨b, off, none⟩ n = some vs) :
    ∃ vs', vs'.length = n ∧ VRels ρ vs vs' ∧ (∀ (j : Nat) (v : Value), vs'[j]? = some v → w.cell? ⟨L.blk, L.base + off + j, none⟩ = some v) ∧ (loadCells ⟨L.blk, L.base + off, none⟩ n).run P w = .ok ⟨vs'⟩ w := by
  unfold aCells at h
  split at h
  · rename_i own el cs hg
    split at h
    · rename_i hle
      injection h with h; subst h
      obtain ⟨cs', fr, h1, h2, _⟩ := hR.rows b L own el cs hb hg
      simp only at hle
      have hsz : n = 0 ∨ L.base + off + n ≤ cs'.size := by
        rcases Nat.eq_zero_or_pos n with h0 | h0
        · exact .inl h0
        · right
          obtain ⟨v', k1, _⟩ := h2 (off + n - 1) (cs[off + n - 1]'(by omega)) (List.getElem?_eq_getElem _)
          rcases Nat.lt_or_ge (L.base + (off + n - 1)) cs'.size with hlt | hge
          · omega
          · rw [Array.getElem?_eq_none hge] at k1; cases k1
      have hlen : ((cs'.toList.drop (L.base + off)).take n).length = n := by
        simp; omega
      have hcell : ∀ (j : Nat) (v : Value), ((cs'.toList.drop (L.base + off)).take n)[j]? = some v → w.cell? ⟨L.blk, L.base + off + j, none⟩ = some v := by
        intro j v hv
        rw [List.getElem?_take] at hv
        split at hv
        · rw [List.getElem?_drop] at hv
          simp only [World.cell?, h1]
          simpa using hv
        · cases hv
      refine ⟨(cs'.toList.drop (L.base + off)).take n, hlen, ?_, hcell, ?_⟩
      · refine VRels.of_get (by rw [hlen]; simp; omega) ?_
        intro i v hv
        rw [List.getElem?_take] at hv
        split at hv
        · rename_i hi
          rw [List.getElem?_drop] at hv
          obtain ⟨v', k1, k2⟩ := h2 _ v hv
          refine ⟨v', ?_, k2⟩
          rw [List.getElem?_take, if_pos hi, List.getElem?_drop, Nat.add_assoc]
          simpa using k1
        · cases hv
      · have := run_loadCells_list (P := P) w ⟨L.blk, L.base + off, none⟩ ((cs'.toList.drop (L.base + off)).take n) (fun j v hv => by rw [add_eq]; exact hcell j v hv)
        rw [hlen] at this
        exact this
    · cases h
  · cases h

/-- What lies in frozen memory is there. -/
theorem frozen_run {P : Program} {ρ : Ren} {H : Heap} {w : World} (hR : HRel P ρ H w) {b off : Nat} {L : Loc} {cs cells : List Value} (hb : ρ b = some L) (hf : L.frz = some cs) (hl : L.base + off + cells.length ≤ cs.length) (hc : VRels ρ cells ((cs.drop (L.base + off)).take cells.length)) :
    ∃ vs', vs'.length = cells.length ∧ VRels ρ cells vs' ∧ (∀ (j : Nat) (v : Value), vs'[j]? = some v → w.cell? ⟨L.blk, L.base + off + j, none⟩ = some v) ∧ (loadCells ⟨L.blk, L.base + off, none⟩ cells.length).run P w = .ok ⟨vs'⟩ w := by
  obtain ⟨_, el, fr, h1⟩ := hR.frz b L cs hb hf
  have hlen : ((cs.drop (L.base + off)).take cells.length).length = cells.length := by simp; omega
  have hcell : ∀ (j : Nat) (v : Value), ((cs.drop (L.base + off)).take cells.length)[j]? = some v → w.cell? ⟨L.blk, L.base + off + j, none⟩ = some v := by
    intro j v hv
    rw [List.getElem?_take] at hv
    split at hv
    · rw [List.getElem?_drop] at hv
      simp only [World.cell?, h1]
      simpa using hv
    · cases hv
  refine ⟨_, hlen, hc, hcell, ?_⟩
  have := run_loadCells_list (P := P) w ⟨L.blk, L.base + off, none⟩ ((cs.drop (L.base + off)).take cells.length) (fun j v hv => by rw [add_eq]; exact hcell j v hv)
  rw [hlen] at this
  exact this

def aLoad (P : Program) (H : Heap) (t : TypeId) (x : Value) : Option Value :=
  match x with
  | .pointer (some a) =>
    match isRowT P t with
    | some true => if sized P t = true then (aCells H a (szOf P t)).map fun l => .agg ⟨l⟩ else none
    | some false => aCell H a
    | none => none
  | .iface f (.agg l) =>
    if f = fpT then
      match isRowT P t with
      | some true => if sized P t = true ∧ l.toList.length = szOf P t then some (.agg ⟨l.toList⟩) else none
      | some false => l.toList[0]?
      | none => none
    else none
  | _ => none

theorem aLoad_run {P : Program} {ρ : Ren} {H : Heap} {w : World} (hR : HRel P ρ H w) {t : TypeId} {x x' v : Value} (h : aLoad P H t x = some v) (hx : VRel ρ x x') :
    ∃ v', (Instr.loadAt t x').run P w = .ok v' w ∧ VRel ρ v v' := by
  unfold aLoad at h
  split at h
  · rename_i a
    obtain ⟨b, off, L, rfl, hb, rfl⟩ := hx.psome
    split at h
    · rename_i hr
      split at h
      · rename_i hs
        cases hc : aCells H ⟨b, off, none⟩ (szOf P t) with
        | none => rw [hc] at h; cases h
        | some l =>
          rw [hc] at h
          injection h with h; subst h
          obtain ⟨vs', h1, h2, h3, h4⟩ := aCells_run hR hb hc
          refine ⟨.agg ⟨vs'⟩, ?_, .agg h2⟩
          simp only [Instr.loadAt, Instr.sureAddr, loadVar, Sem.run_bind, Sem.run_pure, Result.andThen_ok, run_isAgg hr, if_true, run_sizeOf' hs, h4]
      · cases h
    · rename_i hr
      obtain ⟨v', h1, h2⟩ := aCell_run hR hb h
      refine ⟨v', ?_, h2⟩
      simp only [Instr.loadAt, Instr.sureAddr, loadVar, Sem.run_bind, Sem.run_pure, Result.andThen_ok, run_isAgg hr, Bool.false_eq_true, if_false, run_load, h1]
    · cases h
  · rename_i f l
    split at h
    rotate_left
    · cases h
    rename_i hf
    subst hf
    obtain ⟨l⟩ := l
    obtain ⟨b, off, L, cs, hb, hfr, hl, hc, rfl⟩ := hx.frozenPtr
    obtain ⟨vs', h1, h2, h3, h4⟩ := frozen_run hR hb hfr hl hc
    split at h
    · rename_i hr
      split at h
      · rename_i hs
        injection h with h; subst h
        refine ⟨.agg ⟨vs'⟩, ?_, .agg h2⟩
        have hlen : l.length = szOf P t := hs.2
        rw [hlen] at h4
        simp only [Instr.loadAt, Instr.sureAddr, loadVar, Sem.run_bind, Sem.run_pure, Result.andThen_ok, run_isAgg hr, if_true, run_sizeOf' hs.1, h4]
      · cases h
    · rename_i hr
      obtain ⟨v', k1, k2⟩ := h2.get 0 v h
      refine ⟨v', ?_, k2⟩
      have := h3 0 v' k1
      rw [Nat.add_zero] at this
      simp only [Instr.loadAt, Instr.sureAddr, loadVar, Sem.run_bind, Sem.run_pure, Result.andThen_ok, run_isAgg hr, Bool.false_eq_true, if_false, run_load, this]
    · cases h
  · cases h

def u8s : List Value → Option (List Int)
  | [] => some []
  | .int .u8 n :: vs => (u8s vs).map (n :: ·)
  | _ :: _ => none

theorem u8s_rel {ρ : Ren} : ∀ {vs vs' : List Value} {ns : List Int}, VRels ρ vs vs' → u8s vs = some ns → vs' = ns.map (Value.int .u8)
  | [], _, ns, .nil, h => by simp [u8s] at h; subst h; rfl
  | v :: vs, _, ns, .cons hv hs, h => by
    cases v with
    | int k n =>
      cases k <;> simp only [u8s] at h <;> try (cases h; done)
      cases hu : u8s vs with
      | none => rw [hu] at h; cases h
      | some ms =>
        rw [hu] at h
        injection h with h; subst h
        rw [hv.int, u8s_rel hs hu]; rfl
    | _ => simp [u8s] at h

def aBytes (P : Program) (H : Heap) (src dst : TypeId) (x : Value) : Option Value :=
  match P.underlying src, P.underlying dst, x with
  | some (.slice e), some .string, .slice none _ _ =>
    match P.underlying e with
    | some (.int .u8) => some (.string .empty)
    | _ => none
  | some (.slice e), some .string, .slice (some a) n _ =>
    match P.underlying e with
    | some (.int .u8) => if n = 0 then some (.string .empty) else ((aCells H a n).bind u8s).map fun ns => .string (ns.foldl (fun r n => r.push (UInt8.ofNat n.toNat)) ByteArray.empty)
    | _ => none
  | some (.slice e), some .string, .iface f (.agg l) =>
    match P.underlying e, fzParts f l.toList with
    | some (.int .u8), some (n, cells) => if n = 0 then some (.string .empty) else if cells.length = n then (u8s cells).map fun ns => .string (ns.foldl (fun r n => r.push (UInt8.ofNat n.toNat)) ByteArray.empty) else none
    | _, _ => none
  | _, _, _ => none

theorem aBytes_run {P : Program} {ρ : Ren} {H : Heap} {w : World} (hR : HRel P ρ H w) {src dst : TypeId} {x x' v : Value} (h : aBytes P H src dst x = some v) (hx : VRel ρ x x') :
    ∃ v', (convert src dst x').run P w = .ok v' w ∧ VRel ρ v v' := by
  unfold aBytes at h
  split at h
  · rename_i e n c hs hd
    split at h
    · rename_i he
      injection h with h; subst h
      rw [hx.snone]
      refine ⟨_, ?_, .ground rfl⟩
      simp [convert, run_underlying hs, run_underlying hd, run_underlying he, Conv.bytesToString]
    · cases h
  · rename_i e a n c hs hd
    split at h
    · rename_i he
      split at h
      · rename_i hn0
        injection h with h; subst h; subst hn0
        obtain ⟨a', c', rfl⟩ := hx.sform
        refine ⟨_, ?_, .ground rfl⟩
        simp [convert, run_underlying hs, run_underlying hd, run_underlying he, Conv.bytesToString, loadCells, loadCellsFrom]
      rename_i hn0
      rcases hx.ssome with ⟨b, off, L, c', rfl, hb, rfl, _⟩ | ⟨_, hn1, _⟩
      rotate_left
      · exact absurd hn1 hn0
      cases hc : aCells H ⟨b, off, none⟩ n with
      | none => rw [hc] at h; cases h
      | some l =>
        rw [hc] at h
        cases hu : u8s l with
        | none => simp [hu] at h
        | some ns =>
          simp only [Option.bind_some, hu, Option.map_some, Option.some.injEq] at h
          subst h
          obtain ⟨vs', h1, h2, h3, h4⟩ := aCells_run hR hb hc
          rw [u8s_rel h2 hu] at h4
          refine ⟨_, ?_, .ground rfl⟩
          have hrun := run_bytesToString w ⟨L.blk, L.base + off, none⟩ n c' ns h4
          simp only [convert, Sem.run_bind, run_underlying hs, run_underlying hd, run_underlying he, Result.andThen_ok]
          exact hrun
    · cases h
  · rename_i e f l hs hd
    split at h
    rotate_left
    · cases h
    rename_i n cells he hp
    obtain ⟨rfl, hl⟩ := fzParts_some hp
    obtain ⟨l⟩ := l
    simp only at hl
    subst hl
    have hfr := hx.frozen
    split at h
    · rename_i hn0
      injection h with h; subst h; subst hn0
      refine ⟨_, ?_, .ground rfl⟩
      rcases hfr with ⟨b, off, L, cs, c', _, _, _, _, _, rfl⟩ | ⟨_, _, rfl⟩ | ⟨_, _, a, c, rfl⟩
      · simp [convert, run_underlying hs, run_underlying hd, run_underlying he, Conv.bytesToString, loadCells, loadCellsFrom]
      · simp [convert, run_underlying hs, run_underlying hd, run_underlying he, Conv.bytesToString]
      · simp [convert, run_underlying hs, run_underlying hd, run_underlying he, Conv.bytesToString, loadCells, loadCellsFrom]
    rename_i hn0
    split at h
    rotate_left
    · cases h
    rename_i hlen
    rcases hfr with ⟨b, off, L, cs, c', hb, hf, _, hl, hc, rfl⟩ | ⟨h0, _⟩ | ⟨h0, _⟩
    rotate_left
    · exact absurd h0 hn0
    · exact absurd h0 hn0
    cases hu : u8s cells with
    | none => simp [hu] at h
    | some ns =>
      simp only [hu, Option.map_some, Option.some.injEq] at h
      subst h
      obtain ⟨vs', h1, h2, h3, h4⟩ := frozen_run hR hb hf hl hc
      rw [u8s_rel h2 hu, hlen] at h4
      refine ⟨_, ?_, .ground rfl⟩
      have hrun := run_bytesToString w ⟨L.blk, L.base + off, none⟩ n c' ns h4
      simp only [convert, Sem.run_bind, run_underlying hs, run_underlying hd, run_underlying he, Result.andThen_ok]
      exact hrun
  · cases h

/-! ### writing -/
def splice : List Value → Nat → List Value → List Value
  | cs, _, [] => cs
  | cs, off, v :: vs => splice (cs.set off v) (off + 1) vs

@[simp] theorem length_splice : ∀ (vs : List Value) (cs : List Value) (off : Nat), (splice cs off vs).length = cs.length
  | [], _, _ => rfl
  | _ :: vs, cs, off => by simp [splice, length_splice vs]

theorem Ext.congr {P : Program} {ρ ρ' : Ren} {H H1 H2 : Heap} {w w' : World} (h : Ext P ρ H w ρ' H1 w') (hn : H2.next = H1.next) (hg : ∀ b, H2.get b = H1.get b) : Ext P ρ H w ρ' H2 w' :=
  ⟨h.le, fun b hb hn' => by rw [hg]; exact h.phant b hb hn', by rw [hn]; exact h.next, h.size, h.own, h.frame, h.os, h.output, h.tape,
   ⟨fun b L hb => by rw [hn]; exact h.rel.dom b L hb, fun b L own el cs hb hgb => h.rel.rows b L own el cs hb (by rw [← hg]; exact hgb), fun b L es cl hb hgb => h.rel.maps b L es cl hb (by rw [← hg]; exact hgb), fun b hb => by rw [hg]; exact h.rel.free b (by rw [← hn]; exact hb), ⟨h.rel.void.1, by rw [hg]; exact h.rel.void.2.1, by rw [hn]; exact h.rel.void.2.2⟩,
    fun b1 b2 L1 L2 o2 hne h1 h2 g1 g1' g2 => h.rel.inj b1 b2 L1 L2 o2 hne h1 h2 (by rw [← hg]; exact g1) (by rw [← hg]; exact g1') (by rw [← hg]; exact g2), h.rel.frz, fun b1 b2 L1 L2 fs h1 h2 hf g1 g1' => h.rel.frinj b1 b2 L1 L2 fs h1 h2 hf (by rw [← hg]; exact g1) (by rw [← hg]; exact g1'), h.rel.bnd⟩, h.blks⟩

theorem Ext.setCells {P : Program} {ρ : Ren} {b : Nat} {L : Loc} {elem : TypeId} (hb : ρ b = some L) : ∀ {vs vs' : List Value} (_ : VRels ρ vs vs') {H : Heap} {w : World} (_ : HRel P ρ H w) {cells : List Value}
    (_ : H.get b = some (.row true elem cells)) {off : Nat} (_ : off + vs.length ≤ cells.length),
    w.there L.blk (L.base + off) vs'.length ∧ Ext P ρ H w ρ (H.set b (.row true elem (splice cells off vs))) (w.setCells L.blk (L.base + off) vs')
  | _, _, .nil, H, w, hR, cells, hg, off, _ => by
    refine ⟨fun j hj => by simp at hj, ?_⟩
    refine (Ext.refl hR).congr rfl fun c => ?_
    rw [Heap.get_set]; split
    · rename_i e; subst e; rw [hg]; rfl
    · rfl
  | v :: vs, v' :: vs', .cons hv hs, H, w, hR, cells, hg, off, hle => by
    simp only [List.length_cons] at hle
    obtain ⟨⟨u, h1⟩, h2, h3⟩ := Ext.setCell hR hb hg (off := off) (by omega) hv
    have hg' : (H.set b (.row true elem (cells.set off v))).get b = some (.row true elem (cells.set off v)) := by rw [Heap.get_set, if_pos rfl]
    obtain ⟨k1, k2⟩ := Ext.setCells hb hs h3.rel hg' (off := off + 1) (by simp; omega)
    refine ⟨?_, ?_⟩
    · intro j hj
      rcases Nat.eq_zero_or_pos j with h0 | h0
      · subst h0; exact ⟨by simp [h1], by simpa using h2⟩
      · have := k1 (j - 1) (by simp at hj; omega)
        rw [show L.base + (off + 1) + (j - 1) = L.base + off + j by omega] at this
        rw [World.cell?_setCell_other _ _ _ _ (by simp; omega), World.frozen?_setCell] at this
        exact this
    · simp only [splice, World.setCells]
      rw [show L.base + off + 1 = L.base + (off + 1) by omega]
      refine (h3.trans k2).congr rfl fun c => ?_
      rw [Heap.get_set, Heap.get_set, Heap.get_set]
      split <;> rfl

/-- A value goes into a variable. -/
def aStore (P : Program) (H : Heap) (t : TypeId) (x v : Value) : Option Heap :=
  match x with
  | .pointer (some a) =>
    match H.get a.block with
    | some (.row true el cs) =>
      if sized P t = true ∧ v.cells.size = szOf P t ∧ a.off + v.cells.size ≤ cs.length ∧ v.cells.toList.all (·.oneCell') = true then some (H.set a.block (.row true el (splice cs a.off v.cells.toList))) else none
    | _ => none
  | _ => none

theorem run_storeVar' {P : Program} {w : World} {b o : Nat} {t : TypeId} {v : Value} (hs : sized P t = true) (hsz : v.cells.size = szOf P t) (ht : w.there b o v.cells.size) (h1 : ∀ x ∈ v.cells.toList, x.oneCell' = true) :
    (storeVar t ⟨b, o, none⟩ v).run P w = .ok () (w.setCells b o v.cells.toList) := by
  have := run_storeCells_cells (P := P) b o v.cells.toList 0 w (fun j hj => by simpa using (ht j (by simpa using hj)).1) (fun j hj => by simpa using (ht j (by simpa using hj)).2) h1
  simp only [Nat.add_zero] at this
  simp [storeVar, run_sizeOf' hs, hsz, this]

theorem aStore_run {P : Program} {ρ : Ren} {H H' : Heap} {w : World} (hR : HRel P ρ H w) {t : TypeId} {x x' v v' : Value} (h : aStore P H t x v = some H') (hx : VRel ρ x x') (hv : VRel ρ v v') :
    ∃ w', (Instr.storeAt t x' v').run P w = .ok () w' ∧ Ext P ρ H w ρ H' w' := by
  unfold aStore at h
  split at h
  · rename_i a
    split at h
    · rename_i el cs hg
      split at h
      · rename_i hc
        injection h with h; subst h
        obtain ⟨b, off, L, rfl, hb, rfl⟩ := hx.psome
        have hcl := hv.cells
        have hl := hcl.length
        simp at hl
        obtain ⟨k1, k2⟩ := Ext.setCells (P := P) (elem := el) hb hcl hR hg (off := off) (by simpa using hc.2.2.1)
        refine ⟨_, ?_, k2⟩
        have h1 := hcl.oneCell hc.2.2.2
        simp only [Instr.storeAt, Instr.sureAddr, Sem.run_bind, Sem.run_pure, Result.andThen_ok]
        exact run_storeVar' hc.1 (by omega) (by simpa using k1) h1
      · cases h
    · cases h
  · cases h

end Go.Abs

/- Slicing, append. -/
namespace Go.Abs
open Go

/-- A bound of a slice expression. -/
def aBound (d : Nat) (y : Nat) : Option Value → Option Nat
  | none => some d
  | some (.int _ i) => if 0 ≤ i ∧ i ≤ y then some i.toNat else none
  | some _ => none

def aSlice (P : Program) (H : Heap) (t : TypeId) (x : Value) (lo hi mx : Option Value) : Option Value :=
  match P.underlying t, x, mx with
  | some .string, .string _, none => if (lo.map gr).getD true && (hi.map gr).getD true then scal P (Instr.sliceAt t x lo hi none) else none
  | some (.slice e), .slice base n c, none =>
    if sized P e = true then
      if c = unk then
        match base with
        | some a =>
          match aBound n n hi with
          | some h =>
            match aBound 0 h lo with
            | some 0 => some (.slice (some a) h unk)
            | some (l + 1) =>
              if l + 1 < n then
                match H.get a.block with
                | some (.row own el _) => if own = false ∨ szOf P el = szOf P e then some (.slice (some ⟨a.block, a.off + (l + 1) * szOf P e, none⟩) (h - (l + 1)) unk) else none
                | _ => none
              else none
            | none => none
          | none => none
        | none => none
      else if c < unk then
        match aBound n c hi with
        | some h =>
          match aBound 0 h lo with
          | some l => some (.slice (if c = l then base else base.map fun a => ⟨a.block, a.off + l * szOf P e, none⟩) (h - l) (c - l))
          | none => none
        | none => none
      else none
    else none
  | some (.slice e), .iface f (.agg q), none =>
    match fzParts f q.toList with
    | some (n, cells) =>
      if sized P e = true ∧ cells.length = n * szOf P e then
        match aBound n n hi with
        | some h =>
          match aBound 0 h lo with
          | some l => some (fzv (h - l) ((cells.drop (l * szOf P e)).take ((h - l) * szOf P e)))
          | none => none
        | none => none
      else none
    | none => none
  | _, _, _ => none

def bRun (d y : Nat) (code : BoundsCode) (x : Option Value) : Sem Nat :=
  match x with
  | some v => Instr.sliceBound v y code
  | none => pure d

theorem aBound_run {P : Program} {y d b : Nat} {x x' : Option Value} (h : aBound d y x = some b) {ρ : Ren} (hx : ∀ v, x = some v → ∃ v', x' = some v' ∧ VRel ρ v v') (hn : x = none → x' = none) (w : World) (code : BoundsCode) {y' : Nat} (hy : y ≤ y') :
    (bRun d y' code x').run P w = .ok b w ∧ (x ≠ none → b ≤ y) ∧ (x = none → b = d) := by
  unfold aBound at h
  split at h
  · injection h with h; subst h
    rw [hn rfl]
    exact ⟨rfl, by simp, by simp⟩
  · rename_i k i
    split at h
    · rename_i hc
      injection h with h; subst h
      obtain ⟨v', rfl, hv⟩ := hx _ rfl
      rw [hv.int]
      refine ⟨?_, fun _ => by omega, by simp⟩
      exact run_sliceBound w k i y' code hc.1 (by omega)
    · cases h
  · cases h

theorem sliceBounds_run {P : Program} {w : World} {len cap l h : Nat} {lo hi : Option Value}
    (h1 : ∀ y, (bRun len cap y hi).run P w = .ok h w) (h2 : ∀ y, (bRun 0 h y lo).run P w = .ok l w) :
    (Instr.sliceBounds true len cap lo hi none).run P w = .ok (l, h, cap) w := by
  unfold Instr.sliceBounds
  unfold bRun at h1 h2
  cases hi with
  | none =>
    have := h1 .index
    simp at this
    subst this
    cases lo with
    | none => have := h2 .index; simp at this; subst this; simp
    | some v => have := h2 .sliceB; simp at this; simp [this]
  | some u =>
    have := h1 .sliceAcap
    simp at this
    cases lo with
    | none => have k := h2 .index; simp at k; subst k; simp [this]
    | some v => have k := h2 .sliceB; simp at k; simp [this, k]

theorem aSlice_run {P : Program} {ρ : Ren} {H : Heap} {w : World} (hR : HRel P ρ H w) {t : TypeId} {x x' v : Value} {lo hi mx lo' hi' mx' : Option Value} (h : aSlice P H t x lo hi mx = some v) (hx : VRel ρ x x')
    (hlo : (∀ v, lo = some v → ∃ v', lo' = some v' ∧ VRel ρ v v') ∧ (lo = none → lo' = none))
    (hhi : (∀ v, hi = some v → ∃ v', hi' = some v' ∧ VRel ρ v v') ∧ (hi = none → hi' = none)) (hmx : mx = none → mx' = none) :
    ∃ v', (Instr.sliceAt t x' lo' hi' mx').run P w = .ok v' w ∧ VRel ρ v v' := by
  unfold aSlice at h
  split at h
  · rename_i s hu
    rw [hmx rfl]
    split at h
    · rename_i hg
      simp only [Bool.and_eq_true] at hg
      rw [hx.string]
      have e1 : lo' = lo := by
        cases lo with
        | none => exact hlo.2 rfl
        | some u => obtain ⟨u', e, hv⟩ := hlo.1 u rfl; rw [e, hv.gr_eq (by simpa using hg.1)]
      have e2 : hi' = hi := by
        cases hi with
        | none => exact hhi.2 rfl
        | some u => obtain ⟨u', e, hv⟩ := hhi.1 u rfl; rw [e, hv.gr_eq (by simpa using hg.2)]
      rw [e1, e2]
      obtain ⟨h1, h2⟩ := scal_run h w
      exact ⟨v, h1, .of_gr h2⟩
    · cases h
  · rename_i e base n c hu
    rw [hmx rfl]
    have hsl : ∀ (a : Option Addr) (len cap l h : Nat), (Instr.sliceBounds true len cap lo' hi' none).run P w = .ok (l, h, cap) w → sized P e = true →
        (Instr.sliceAt t (.slice a len cap) lo' hi' none).run P w = .ok (.slice (if cap = l then a else a.map (·.add (l * szOf P e))) (h - l) (cap - l)) w := by
      intro a len cap l h hb hs
      simp [Instr.sliceAt, Instr.slice, run_underlying hu, hb, run_sizeOf' hs]
    split at h
    · rename_i hs
      split at h
      · rename_i hcu
        subst hcu
        split at h
        · rename_i a
          split at h
          · rename_i hh hbh
            rcases hx.ssome with ⟨b, off, L, c', rfl, hb, rfl, hor⟩ | ⟨rfl, rfl, _, a', c', rfl⟩
            rotate_left
            · have r1 := fun y => aBound_run (P := P) hbh hhi.1 hhi.2 w y (y' := c') (Nat.zero_le _)
              have hh0 : hh = 0 := by
                cases hi with
                | none => exact (r1 .index).2.2 rfl
                | some _ => exact Nat.le_zero.1 ((r1 .index).2.1 (by simp))
              subst hh0
              split at h
              · rename_i hbl
                injection h with h; subst h
                have r2 := fun y => aBound_run (P := P) hbl hlo.1 hlo.2 w y (y' := 0) (Nat.le_refl _)
                refine ⟨_, hsl _ _ _ _ _ (sliceBounds_run (fun y => (r1 y).1) (fun y => (r2 y).1)) hs, ?_⟩
                have : (if c' = 0 then some a' else (some a').map (·.add (0 * szOf P e))) = some a' := by
                  split <;> simp [Addr.add]
                rw [this]
                exact .void
              · split at h
                · rename_i hlt; omega
                · cases h
              · cases h
            obtain ⟨_, hn, hl⟩ := hor.resolve_left (fun h => h.1 rfl)
            have r1 := fun y => aBound_run (P := P) hbh hhi.1 hhi.2 w y (y' := c') hn
            have hhn : hh ≤ n := by
              cases hi with
              | none => rw [(r1 .index).2.2 rfl]; exact Nat.le_refl _
              | some _ => exact (r1 .index).2.1 (by simp)
            split at h
            · rename_i hbl
              injection h with h; subst h
              have r2 := fun y => aBound_run (P := P) hbl hlo.1 hlo.2 w y (y' := hh) (Nat.le_refl _)
              refine ⟨_, hsl _ _ _ _ _ (sliceBounds_run (fun y => (r1 y).1) (fun y => (r2 y).1)) hs, ?_⟩
              have : (if c' = 0 then some (⟨L.blk, L.base + off, none⟩ : Addr) else (some (⟨L.blk, L.base + off, none⟩ : Addr)).map (·.add (0 * szOf P e))) = some ⟨L.blk, L.base + off, none⟩ := by
                split <;> simp [Addr.add]
              rw [this]
              exact .slu hb (by omega) (by simpa using hl)
            · rename_i l hbl
              split at h
              · rename_i hln
                split at h
                · rename_i own el cs hg
                  split at h
                  · rename_i hes
                    injection h with h; subst h
                    have r2 := fun y => aBound_run (P := P) hbl hlo.1 hlo.2 w y (y' := hh) (Nat.le_refl _)
                    refine ⟨_, hsl _ _ _ _ _ (sliceBounds_run (fun y => (r1 y).1) (fun y => (r2 y).1)) hs, ?_⟩
                    rw [if_neg (by omega)]
                    simp only [Option.map_some, add_eq]
                    rw [Nat.add_assoc]
                    refine .slu hb (by omega) ?_
                    intro ho
                    obtain ⟨cs', fr, q1, q2, q3, q4⟩ := hR.rows b L own el cs hb hg
                    have hown : own = true := by rw [← q3]; exact ho
                    replace hes := hes.resolve_left (by rw [hown]; simp)
                    have q5 := (q4 hown).2.2
                    have q6 := hl ho
                    rw [q5, hes] at q6 ⊢
                    have hm : (c' - (l + 1)) * szOf P e + (l + 1) * szOf P e = c' * szOf P e := by
                      rw [← Nat.add_mul]; congr 1; omega
                    show L.base + (off + (l + 1) * szOf P e) + (c' - (l + 1)) * szOf P e ≤ L.lim
                    omega
                  · cases h
                · cases h
              · cases h
            · cases h
          · cases h
        · cases h
      · rename_i hcu
        split at h
        rotate_left
        · cases h
        rename_i hlt
        split at h
        · rename_i hh hbh
          split at h
          · rename_i l hbl
            injection h with h; subst h
            have r1 := fun y => aBound_run (P := P) hbh hhi.1 hhi.2 w y (y' := c) (Nat.le_refl _)
            have r2 := fun y => aBound_run (P := P) hbl hlo.1 hlo.2 w y (y' := hh) (Nat.le_refl _)
            cases base with
            | none =>
              rw [hx.snone]
              refine ⟨_, hsl _ _ _ _ _ (sliceBounds_run (fun y => (r1 y).1) (fun y => (r2 y).1)) hs, ?_⟩
              simp only [Option.map_none, ite_self]
              exact .ground rfl
            | some a =>
              rcases hx.ssome with ⟨b, off, L, c', rfl, hb, rfl, hor⟩ | ⟨_, _, e, _⟩
              rotate_left
              · exact absurd e hcu
              have hc' : c' = c := by
                rcases hor with ⟨_, e⟩ | ⟨e, _⟩
                · exact e
                · exact absurd e hcu
              subst hc'
              refine ⟨_, hsl _ _ _ _ _ (sliceBounds_run (fun y => (r1 y).1) (fun y => (r2 y).1)) hs, ?_⟩
              have hne : c' - l ≠ unk := by omega
              split
              · exact .sl hb hne
              · simp only [Option.map_some, add_eq]
                rw [Nat.add_assoc]
                exact .sl hb hne
          · cases h
        · cases h
    · cases h
  · rename_i e f q hu
    rw [hmx rfl]
    have hsl : ∀ (a : Option Addr) (len cap l h : Nat), (Instr.sliceBounds true len cap lo' hi' none).run P w = .ok (l, h, cap) w → sized P e = true →
        (Instr.sliceAt t (.slice a len cap) lo' hi' none).run P w = .ok (.slice (if cap = l then a else a.map (·.add (l * szOf P e))) (h - l) (cap - l)) w := by
      intro a len cap l h hb hs
      simp [Instr.sliceAt, Instr.slice, run_underlying hu, hb, run_sizeOf' hs]
    split at h
    rotate_left
    · cases h
    rename_i n cells hp
    obtain ⟨rfl, hq⟩ := fzParts_some hp
    obtain ⟨q⟩ := q
    simp only at hq
    subst hq
    split at h
    rotate_left
    · cases h
    rename_i hs
    split at h
    rotate_left
    · cases h
    rename_i hh hbh
    split at h
    rotate_left
    · cases h
    rename_i l hbl
    injection h with h; subst h
    have empty : ∀ a' c', x' = .slice a' 0 c' → n = 0 → (a' = none → c' = 0) → ∃ v', (Instr.sliceAt t x' lo' hi' none).run P w = .ok v' w ∧ VRel ρ (fzv (hh - l) ((cells.drop (l * szOf P e)).take ((hh - l) * szOf P e))) v' := by
      rintro a' c' rfl rfl h0
      have r1 := fun y => aBound_run (P := P) hbh hhi.1 hhi.2 w y (y' := c') (Nat.zero_le _)
      have hh0 : hh = 0 := by
        cases hi with
        | none => exact (r1 .index).2.2 rfl
        | some _ => exact Nat.le_zero.1 ((r1 .index).2.1 (by simp))
      subst hh0
      have r2 := fun y => aBound_run (P := P) hbl hlo.1 hlo.2 w y (y' := 0) (Nat.le_refl _)
      have hl0 : l = 0 := by
        cases lo with
        | none => exact (r2 .index).2.2 rfl
        | some _ => exact Nat.le_zero.1 ((r2 .index).2.1 (by simp))
      subst hl0
      refine ⟨_, hsl _ _ _ _ _ (sliceBounds_run (fun y => (r1 y).1) (fun y => (r2 y).1)) hs.1, ?_⟩
      have : (fzv (0 - 0) ((cells.drop (0 * szOf P e)).take ((0 - 0) * szOf P e))) = .iface fzT (.agg ⟨.int .i64 (0 : Nat) :: []⟩) := by simp [fzv]
      rw [this]
      cases a' with
      | none =>
        have h00 := h0 rfl
        subst h00
        simpa using VRel.fznil
      | some a =>
        have : (if c' = 0 then some a else (some a).map (·.add (0 * szOf P e))) = some a := by split <;> simp [Addr.add]
        rw [this]
        simpa using VRel.fzvoid
    rcases hx.frozen with ⟨b, off, L, cs, c', hb, hf, hn, hlc, hc, rfl⟩ | ⟨h0, _, rfl⟩ | ⟨h0, _, a, c', rfl⟩
    rotate_left
    · exact empty _ _ rfl h0 (fun _ => rfl)
    · exact empty _ _ rfl h0 (fun h => by cases h)
    have r1 := fun y => aBound_run (P := P) hbh hhi.1 hhi.2 w y (y' := c') hn
    have hhn : hh ≤ n := by
      cases hi with
      | none => rw [(r1 .index).2.2 rfl]; exact Nat.le_refl _
      | some _ => exact (r1 .index).2.1 (by simp)
    have r2 := fun y => aBound_run (P := P) hbl hlo.1 hlo.2 w y (y' := hh) (Nat.le_refl _)
    have hll : l ≤ hh := by
      cases lo with
      | none => rw [(r2 .index).2.2 rfl]; exact Nat.zero_le _
      | some _ => exact (r2 .index).2.1 (by simp)
    refine ⟨_, hsl _ _ _ _ _ (sliceBounds_run (fun y => (r1 y).1) (fun y => (r2 y).1)) hs.1, ?_⟩
    have hm : (hh - l) * szOf P e + l * szOf P e ≤ n * szOf P e := by rw [← Nat.add_mul]; exact Nat.mul_le_mul_right _ (by omega)
    have hs2 := hs.2
    split
    · rename_i hcl
      have : hh - l = 0 := by omega
      have e2 : (fzv (hh - l) ((cells.drop (l * szOf P e)).take ((hh - l) * szOf P e))) = .iface fzT (.agg ⟨.int .i64 (0 : Nat) :: []⟩) := by simp [fzv, this]
      rw [e2, this]
      exact .fzvoid
    · simp only [Option.map_some, add_eq]
      rw [Nat.add_assoc]
      refine .fz hb hf (by omega) ?_ ?_
      · simp only [List.length_take, List.length_drop]
        omega
      · rw [← Nat.add_assoc]
        exact hc.part (by omega)
  · cases h

end Go.Abs

/- append. -/
namespace Go.Abs
open Go

theorem growBy_le (n : Nat) : ∀ (r c : Nat), Builtin.growBy n r c ≤ max c (n + (n + 768) / 4)
  | 0, c => by simp [Builtin.growBy]; omega
  | r + 1, c => by
    simp only [Builtin.growBy]
    split
    · omega
    · have := growBy_le n r (c + (c + 768) / 4)
      omega

theorem nextslicecap_le {n c : Nat} (h : c < n) : Builtin.nextslicecap n c ≤ 2 * n + 200 := by
  unfold Builtin.nextslicecap
  have := growBy_le n 4 c
  split
  · omega
  · split <;> omega

def okSrc (P : Program) (t : TypeId) : Bool :=
  match P.underlying t with
  | some (.slice _) | some .string => true
  | _ => false

def lenV : Value → Option Nat
  | .slice _ n _ => some n
  | .string s => some s.size
  | .iface f (.agg l) => (fzParts f l.toList).map (·.1)
  | _ => none

def srcCells (H : Heap) (size : Nat) : Value → Option (List Value)
  | .slice (some a) n _ => if n = 0 then some [] else aCells H a (n * size)
  | .slice none n _ => if n = 0 then some [] else none
  | .string s => if size = 1 then some (s.data.toList.map fun b => .int .u8 b.toNat) else none
  | .iface f (.agg l) => match fzParts f l.toList with
    | some (n, cells) => if cells.length = n * size then some cells else none
    | none => none
  | _ => none

theorem src_run {P : Program} {ρ : Ren} {H : Heap} {w : World} (hR : HRel P ρ H w) {size n : Nat} {x x' : Value} {vs : List Value} (h : srcCells H size x = some vs) (hl : lenV x = some n) (hx : VRel ρ x x') :
    ∃ vs', (∀ w, (Builtin.lenOf x').run P w = .ok n w) ∧ (Builtin.firstCells size n x').run P w = .ok ⟨vs'⟩ w ∧ VRels ρ vs vs' ∧ vs.length = n * size := by
  unfold srcCells at h
  split at h
  · rename_i a m c
    simp only [lenV, Option.some.injEq] at hl
    subst hl
    split at h
    · rename_i h0
      injection h with h; subst h; subst h0
      obtain ⟨a', c', rfl⟩ := hx.sform
      refine ⟨[], fun w => rfl, ?_, .nil, by simp⟩
      simp [Builtin.firstCells, loadCells, loadCellsFrom]
    rename_i h0
    rcases hx.ssome with ⟨b, off, L, c', rfl, hb, rfl, _⟩ | ⟨_, e, _⟩
    rotate_left
    · exact absurd e h0
    obtain ⟨vs', h1, h2, h3, h4⟩ := aCells_run hR hb h
    exact ⟨vs', fun w => rfl, h4, h2, by rw [h2.length, h1]⟩
  · rename_i m c
    split at h
    · rename_i h0
      injection h with h; subst h; subst h0
      simp only [lenV, Option.some.injEq] at hl
      subst hl
      rw [hx.snone]
      exact ⟨[], fun w => rfl, rfl, .nil, by simp⟩
    · cases h
  · rename_i s
    split at h
    · rename_i h1
      injection h with h; subst h; subst h1
      simp only [lenV, Option.some.injEq] at hl
      subst hl
      rw [hx.string]
      refine ⟨s.data.toList.map fun b => .int .u8 b.toNat, fun w => rfl, ?_, VRels.ground _ ?_, ?_⟩
      · simp only [Builtin.firstCells, Sem.run_pure]
        congr 1
        apply Array.ext'
        simp
      · rw [List.all_eq_true]
        intro v hv
        simp only [List.mem_map] at hv
        obtain ⟨b, _, rfl⟩ := hv
        rfl
      · simp
    · cases h
  · rename_i f l
    split at h
    rotate_left
    · cases h
    rename_i m cells hp
    simp only [lenV, hp, Option.map_some, Option.some.injEq] at hl
    subst hl
    obtain ⟨rfl, hq⟩ := fzParts_some hp
    obtain ⟨l⟩ := l
    simp only at hq
    subst hq
    split at h
    rotate_left
    · cases h
    rename_i hlen
    injection h with h; subst h
    rcases hx.frozen with ⟨b, off, L, cs, c', hb, hf, hn, hlc, hc, rfl⟩ | ⟨rfl, rfl, rfl⟩ | ⟨rfl, rfl, a, c, rfl⟩
    · obtain ⟨vs', h1, h2, h3, h4⟩ := frozen_run hR hb hf hlc hc
      rw [hlen] at h4
      exact ⟨vs', fun w => rfl, h4, h2, hlen⟩
    · exact ⟨[], fun w => rfl, rfl, .nil, by simp⟩
    · refine ⟨[], fun w => rfl, ?_, .nil, by simp⟩
      simp [Builtin.firstCells, loadCells, loadCellsFrom]
  · cases h

section
variable {P : Program} {w : World}

theorem run_append_in {sT ty elem : TypeId} {ats : Array TypeId} {x : Value} {b o sLen sCap n : Nat} {news : List Value} (h0 : ats[0]? = some sT) (h1 : ∀ t, ats[1]? = some t → okSrc P t = true)
    (hu : P.underlying sT = some (.slice elem)) (hs : sized P elem = true) (hl : ∀ w, (Builtin.lenOf x).run P w = .ok n w) (hf : (Builtin.firstCells (szOf P elem) n x).run P w = .ok ⟨news⟩ w)
    (hc : sLen + n ≤ sCap) (hth : w.there b (o + sLen * szOf P elem) news.length) (hone : ∀ v ∈ news, v.oneCell' = true) :
    (Builtin.append_ ats ty #[.slice (some ⟨b, o, none⟩) sLen sCap, x]).run P w = .ok (.slice (some ⟨b, o, none⟩) (sLen + n) sCap) (w.setCells b (o + sLen * szOf P elem) news) := by
  have hst := run_storeCells_cells (P := P) b (o + sLen * szOf P elem) news 0 w (fun j hj => by simpa using (hth j hj).1) (fun j hj => by simpa using (hth j hj).2) hone
  simp only [Nat.add_zero] at hst
  cases h1' : ats[1]? with
  | none => simp [Builtin.append_, h0, h1', run_underlying hu, run_sizeOf' hs, hl, hf, hc, add_eq, hst]
  | some t =>
    have ht := h1 t h1'
    unfold okSrc at ht
    split at ht
    · rename_i e he; simp [Builtin.append_, h0, h1', run_underlying hu, run_underlying he, run_sizeOf' hs, hl, hf, hc, add_eq, hst]
    · rename_i he; simp [Builtin.append_, h0, h1', run_underlying hu, run_underlying he, run_sizeOf' hs, hl, hf, hc, add_eq, hst]
    · cases ht

theorem run_append_in0 {sT ty elem : TypeId} {ats : Array TypeId} {x : Value} {base : Option Addr} {sLen sCap : Nat} (h0 : ats[0]? = some sT) (h1 : ∀ t, ats[1]? = some t → okSrc P t = true)
    (hu : P.underlying sT = some (.slice elem)) (hs : sized P elem = true) (hl : ∀ w, (Builtin.lenOf x).run P w = .ok 0 w) (hf : (Builtin.firstCells (szOf P elem) 0 x).run P w = .ok ⟨[]⟩ w)
    (hc : sLen ≤ sCap) :
    (Builtin.append_ ats ty #[.slice base sLen sCap, x]).run P w = .ok (.slice base sLen sCap) w := by
  have hst : ∀ a : Addr, (storeCells a []).run P w = .ok () w := fun a => rfl
  cases h1' : ats[1]? with
  | none => cases base <;> simp [Builtin.append_, h0, h1', run_underlying hu, run_sizeOf' hs, hl, hf, hc, hst]
  | some t =>
    have ht := h1 t h1'
    unfold okSrc at ht
    split at ht
    · rename_i e he; cases base <;> simp [Builtin.append_, h0, h1', run_underlying hu, run_underlying he, run_sizeOf' hs, hl, hf, hc, hst]
    · rename_i he; cases base <;> simp [Builtin.append_, h0, h1', run_underlying hu, run_underlying he, run_sizeOf' hs, hl, hf, hc, hst]
    · cases ht

theorem run_append_new {sT ty elem : TypeId} {ats : Array TypeId} {x : Value} {base : Option Addr} {sLen sCap n : Nat} {olds news : List Value} {i : TypeInfo} {z : Value} (h0 : ats[0]? = some sT) (h1 : ∀ t, ats[1]? = some t → okSrc P t = true)
    (hu : P.underlying sT = some (.slice elem)) (hi : P.info? elem = some i) (hz : i.zero = some z) (hl : ∀ w, (Builtin.lenOf x).run P w = .ok n w)
    (hfo : (Builtin.firstCells (szOf P elem) sLen (.slice base sLen sCap)).run P w.drew = .ok ⟨olds⟩ w.drew) (hf : (Builtin.firstCells (szOf P elem) n x).run P w.drew = .ok ⟨news⟩ w.drew)
    (hc : sCap < sLen + n) (h63 : sLen + n ≤ 9223372036854775807) (hfit : (2 * (sLen + n) + 200) * i.bytes ≤ 281474976710656) :
    (Builtin.append_ ats ty #[.slice base sLen sCap, x]).run P w = .ok (.slice (some ⟨w.heap.size, 0, none⟩) (sLen + n) (grownCap w (sLen + n) sCap elem))
      (w.drew.alloc (.cells (⟨olds⟩ ++ ⟨news⟩ ++ Builtin.zeroCells z.cells (grownCap w (sLen + n) sCap elem - (sLen + n))) elem)) := by
  have hs : sized P elem = true := by simp [sized, hi]
  have hn : ¬ (sLen + n ≤ sCap) := by omega
  have h63' : ¬ (9223372036854775807 < ((sLen : Int) + (n : Int))) := by omega
  have h48 : Builtin.nextslicecap (sLen + n) sCap * i.bytes ≤ 281474976710656 := Nat.le_trans (Nat.mul_le_mul_right _ (nextslicecap_le hc)) hfit
  have h48' : ¬ (281474976710656 < Builtin.nextslicecap (sLen + n) sCap * i.bytes) := by omega
  cases h1' : ats[1]? with
  | none => simp [Builtin.append_, h0, h1', run_underlying hu, run_sizeOf' hs, hl, hf, hfo, hn, h63', h48', typeInfo, zeroValue, hi, hz, Question.forced, newRow, grownCap, Array.append_assoc]; congr 2; rw [← Array.append_assoc]; congr 1; apply Array.ext'; simp
  | some t =>
    have ht := h1 t h1'
    unfold okSrc at ht
    split at ht
    · rename_i e he; simp [Builtin.append_, h0, h1', run_underlying hu, run_underlying he, run_sizeOf' hs, hl, hf, hfo, hn, h63', h48', typeInfo, zeroValue, hi, hz, Question.forced, newRow, grownCap, Array.append_assoc]; congr 2; rw [← Array.append_assoc]; congr 1; apply Array.ext'; simp
    · rename_i he; simp [Builtin.append_, h0, h1', run_underlying hu, run_underlying he, run_sizeOf' hs, hl, hf, hfo, hn, h63', h48', typeInfo, zeroValue, hi, hz, Question.forced, newRow, grownCap, Array.append_assoc]; congr 2; rw [← Array.append_assoc]; congr 1; apply Array.ext'; simp
    · cases ht
end

end Go.Abs

/- append, on the abstract heap. -/
namespace Go.Abs
open Go

theorem heap_setCells (b : Nat) (t : TypeId) (fr : Nat × Nat) : ∀ (vs : List Value) (o : Nat) (w : World) (cs : Array Value), w.heap[b]? = some (.cells cs t fr) →
    ∃ cs', (w.setCells b o vs).heap[b]? = some (.cells cs' t fr) ∧ cs'.size = cs.size ∧ (∀ i, i < o ∨ o + vs.length ≤ i → cs'[i]? = cs[i]?) ∧
      (∀ (j : Nat) (v : Value), vs[j]? = some v → o + j < cs.size → cs'[o + j]? = some v)
  | [], o, w, cs, h => ⟨cs, h, rfl, fun _ _ => rfl, fun j v hv => by simp at hv⟩
  | v :: vs, o, w, cs, h => by
    obtain ⟨cs', h1, h2, h3, h4⟩ := heap_setCells b t fr vs (o + 1) (w.setCell ⟨b, o, none⟩ v) _ (heap_setCell_row w b o v cs t fr h)
    refine ⟨cs', h1, by simpa using h2, ?_, ?_⟩
    · intro i hi
      simp only [List.length_cons] at hi
      rw [h3 i (by omega), Array.getElem?_setIfInBounds_ne (by omega)]
    · intro j x hx hlt
      cases j with
      | zero =>
        simp at hx; subst hx
        rw [Nat.add_zero, h3 o (by omega)]
        simp at hlt
        simp [hlt]
      | succ j =>
        simp at hx
        have := h4 j x hx (by simp; omega)
        rw [show o + (j + 1) = o + 1 + j by omega]
        exact this

theorem heap_setCells_other (b : Nat) : ∀ (vs : List Value) (o : Nat) (w : World) (k : Nat), k ≠ b → (w.setCells b o vs).heap[k]? = w.heap[k]?
  | [], _, _, _, _ => rfl
  | v :: vs, o, w, k, h => by
    simp only [World.setCells]
    rw [heap_setCells_other b vs (o + 1) _ k h, RowKit.Below.heap_setCell w ⟨b, o, none⟩ v k (by simpa using h)]

theorem setCells_rest (b : Nat) : ∀ (vs : List Value) (o : Nat) (w : World), (w.setCells b o vs).heap.size = w.heap.size ∧ (w.setCells b o vs).os = w.os ∧ (w.setCells b o vs).output = w.output ∧ (w.setCells b o vs).tape = w.tape
  | [], _, _ => ⟨rfl, rfl, rfl, rfl⟩
  | v :: vs, o, w => by
    obtain ⟨h1, h2, h3, h4⟩ := setCells_rest b vs (o + 1) (w.setCell ⟨b, o, none⟩ v)
    simp only [World.setCells]
    exact ⟨by rw [h1]; simp [World.setCell], h2, h3, h4⟩

/-- A row that is appended to at its end, in place: it goes on under a new number. -/
theorem Ext.moved {P : Program} {ρ : Ren} {H : Heap} {w : World} (h : HRel P ρ H w) {b : Nat} {L : Loc} {elem : TypeId} {cells : List Value} (hb : ρ b = some L) (hg : H.get b = some (.row true elem cells))
    {off k : Nat} (hoff : off + k ≤ cells.length) {vs vs' : List Value} (hv : VRels ρ vs vs') (hlim : L.base + (off + k) + vs.length ≤ L.lim) :
    w.there L.blk (L.base + (off + k)) vs'.length ∧
    Ext P ρ H w (ρ.add H.next ⟨L.blk, L.base + off, true, L.es, L.lim, none⟩) ((H.kill b).push (.row true elem ((cells.drop off).take k ++ vs))) (w.setCells L.blk (L.base + (off + k)) vs') := by
  obtain ⟨cs, fr, h1, h2, h3, h4⟩ := h.rows b L true elem cells hb hg
  obtain ⟨h5, h6, h7⟩ := h4 rfl
  have hlt := And.intro (h.dom b L hb) (h.lt hb hg)
  have hvl := hv.length
  obtain ⟨cs', k1, k2, k3, k4⟩ := heap_setCells L.blk elem fr vs' (L.base + (off + k)) w cs h1
  obtain ⟨r1, r2, r3, r4⟩ := setCells_rest L.blk vs' (L.base + (off + k)) w
  have hle := h.le_add ⟨L.blk, L.base + off, true, L.es, L.lim, none⟩
  have hget : ∀ c, ((H.kill b).push (.row true elem ((cells.drop off).take k ++ vs))).get c = if c = H.next then some (.row true elem ((cells.drop off).take k ++ vs)) else if c = b then none else H.get c := by
    intro c; rw [Heap.get_push, Heap.get_kill]; rfl
  have hbk : ∀ c L', (ρ.add H.next ⟨L.blk, L.base + off, true, L.es, L.lim, none⟩) c = some L' → (∃ b0 L0, ρ b0 = some L0 ∧ L0.blk = L'.blk) ∨ w.heap.size ≤ L'.blk := by
    intro c L' hc
    simp only [Ren.add] at hc
    split at hc
    · injection hc with hc; subst hc; exact .inl ⟨b, L, hb, rfl⟩
    · exact .inl ⟨c, L', hc, rfl⟩
  refine ⟨?_, hle, ?_, by simp, by rw [r1]; exact Nat.le_refl _, ?_, ?_, r2, r3, r4, ⟨?_, ?_, ?_, ?_, ?_, ?_, ?_, ?_, fun c L' hc => by
    rw [r1]
    simp only [Ren.add] at hc
    split at hc
    · injection hc with hc; subst hc; exact h.bnd b L hb
    · exact h.bnd c L' hc⟩, hbk⟩
  · intro j hj
    have hjs : L.base + (off + k) + j < cs.size := by omega
    refine ⟨?_, by simp [World.frozen?, h1, h5]⟩
    simp [World.cell?, h1]; omega
  · intro c hc hn
    refine ⟨by simp only [Ren.add]; rw [if_neg (by omega)]; exact hn, ?_⟩
    rw [hget, if_neg (by omega), if_neg]
    intro e; subst e; rw [hb] at hn; cases hn
  · intro c L' hc ho
    simp only [Ren.add] at hc
    split at hc
    · injection hc with hc; subst hc; exact .inl ⟨b, L, hb, h3, rfl⟩
    · exact .inl ⟨c, L', hc, ho, rfl⟩
  · intro i hi hn
    exact heap_setCells_other _ _ _ _ _ (fun e => hn b L hb h3 e.symm)
  · intro c L' hc
    simp only [Ren.add] at hc
    split at hc
    · injection hc with hc; subst hc; rename_i e; subst e; simp
    · have := h.dom c L' hc; simp; omega
  · intro c L' own el ce hc hgc
    rw [hget] at hgc
    simp only [Ren.add] at hc
    by_cases e : c = H.next
    · rw [if_pos e] at hgc hc
      injection hc with hc; injection hgc with hgc; injection hgc with g1 g2 g3
      subst hc; subst g1; subst g2; subst g3
      refine ⟨cs', fr, k1, ?_, rfl, fun _ => ⟨h5, by simp [k2, h6], h7⟩⟩
      intro i v hi
      simp only
      rw [List.getElem?_append] at hi
      split at hi
      · rename_i hil
        rw [List.getElem?_take] at hi
        split at hi
        rotate_left
        · cases hi
        rename_i hik
        rw [List.getElem?_drop] at hi
        obtain ⟨v', q1, q2⟩ := h2 _ v hi
        refine ⟨v', ?_, q2.mono hle⟩
        rw [Nat.add_assoc, k3 _ (by left; omega)]; exact q1
      · rename_i hil
        have htl : ((cells.drop off).take k).length = k := by simp; omega
        rw [htl] at hil hi
        obtain ⟨v', q1, q2⟩ := hv.get _ v hi
        refine ⟨v', ?_, q2.mono hle⟩
        have hlt' : i - k < vs'.length := by
          rcases Nat.lt_or_ge (i - k) vs'.length with h' | h'
          · exact h'
          · rw [List.getElem?_eq_none h'] at q1; cases q1
        have := k4 _ _ q1 (by omega)
        rw [show L.base + off + i = L.base + (off + k) + (i - k) by omega]
        exact this
    · rw [if_neg e] at hgc hc
      by_cases e2 : c = b
      · rw [if_pos e2] at hgc; cases hgc
      · rw [if_neg e2] at hgc
        obtain ⟨cs2, fr2, q1, q2, q3⟩ := h.rows c L' own el ce hc hgc
        have hne : L.blk ≠ L'.blk := h.inj b c L L' _ (fun e' => e2 e'.symm) hb hc (fun _ _ => by rw [hg]; simp) (by rw [hg]; rfl) hgc
        refine ⟨cs2, fr2, ?_, ?_, q3⟩
        · rw [heap_setCells_other _ _ _ _ _ (fun e' => hne e'.symm)]; exact q1
        · intro i v hi
          obtain ⟨v', s1, s2⟩ := q2 i v hi
          exact ⟨v', s1, s2.mono hle⟩
  · intro c L' es clock hc hgc
    rw [hget] at hgc
    simp only [Ren.add] at hc
    by_cases e : c = H.next
    · rw [if_pos e] at hgc; cases hgc
    · rw [if_neg e] at hgc hc
      by_cases e2 : c = b
      · rw [if_pos e2] at hgc; cases hgc
      · rw [if_neg e2] at hgc
        obtain ⟨es', q1, q2, q3, q4, q5⟩ := h.maps c L' es clock hc hgc
        have hne : L.blk ≠ L'.blk := h.inj b c L L' _ (fun e' => e2 e'.symm) hb hc (fun _ _ => by rw [hg]; simp) (by rw [hg]; rfl) hgc
        refine ⟨es', ?_, q2, q3, q4, ?_⟩
        · rw [heap_setCells_other _ _ _ _ _ (fun e' => hne e'.symm)]; exact q1
        · intro i x hx
          obtain ⟨x', s1, s2, s3, s4, s5⟩ := q5 i x hx
          exact ⟨x', s1, s2, s3, s4, s5.mono hle⟩
  · intro c hc
    simp only [Heap.next_push, Heap.next_kill] at hc
    rw [hget, if_neg (by omega)]
    split
    · rfl
    · exact h.free c (by omega)
  · obtain ⟨v1, v2, v3⟩ := h.void
    refine ⟨by simp only [Ren.add]; rw [if_neg (by omega)]; exact v1, ?_, by simp⟩
    rw [hget, if_neg (by omega)]
    split
    · rfl
    · exact v2
  · intro b1 b2 L1 L2 o2 hne e1 e2 g1 g1' g2
    rw [hget] at g1 g1' g2
    simp only [Ren.add] at e1 e2
    by_cases x1 : b1 = H.next
    · have x2 : b2 ≠ H.next := fun e => hne (x1.trans e.symm)
      rw [if_pos x1] at e1; rw [if_neg x2] at e2 g2
      injection e1 with e1; subst e1
      by_cases y2 : b2 = b
      · rw [if_pos y2] at g2; cases g2
      · rw [if_neg y2] at g2
        exact h.inj b b2 L L2 _ (fun e => y2 e.symm) hb e2 (fun _ _ => by rw [hg]; simp) (by rw [hg]; rfl) g2
    · rw [if_neg x1] at e1 g1 g1'
      by_cases y1 : b1 = b
      · rw [if_pos y1] at g1'; cases g1'
      · rw [if_neg y1] at g1 g1'
        by_cases x2 : b2 = H.next
        · rw [if_pos x2] at e2
          injection e2 with e2; subst e2
          exact h.inj b1 b L1 L _ y1 e1 hb g1 g1' hg
        · rw [if_neg x2] at e2 g2
          by_cases y2 : b2 = b
          · rw [if_pos y2] at g2; cases g2
          · rw [if_neg y2] at g2
            exact h.inj b1 b2 L1 L2 _ hne e1 e2 g1 g1' g2
  · intro c L' fs hc hf
    simp only [Ren.add] at hc
    split at hc
    · injection hc with hc; subst hc; cases hf
    · obtain ⟨q1, el, fr2, q2⟩ := h.frz c L' fs hc hf
      have hne : L.blk ≠ L'.blk := h.frinj b c L L' fs hb hc hf (fun _ _ => by rw [hg]; simp) (by rw [hg]; rfl)
      exact ⟨q1, el, fr2, by rw [heap_setCells_other _ _ _ _ _ (fun e' => hne e'.symm)]; exact q2⟩
  · intro b1 b2 L1 L2 fs e1 e2 hf g1 g1'
    rw [hget] at g1 g1'
    simp only [Ren.add] at e1 e2
    by_cases x2 : b2 = H.next
    · rw [if_pos x2] at e2; injection e2 with e2; subst e2; cases hf
    · rw [if_neg x2] at e2
      by_cases x1 : b1 = H.next
      · rw [if_pos x1] at e1
        injection e1 with e1; subst e1
        exact h.frinj b b2 L L2 fs hb e2 hf (fun _ _ => by rw [hg]; simp) (by rw [hg]; rfl)
      · rw [if_neg x1] at e1 g1 g1'
        by_cases y1 : b1 = b
        · rw [if_pos y1] at g1'; cases g1'
        · rw [if_neg y1] at g1 g1'
          exact h.frinj b1 b2 L1 L2 fs e1 e2 hf g1 g1'

/-- What append does once its source is read: 'news' are 'm' elements. -/
def aApp (P : Program) (H : Heap) (el : TypeId) (bytes : Nat) (news : List Value) (m : Nat) (base : Option Addr) (n c : Nat) : Option (Value × Heap) :=
  match base with
  | none =>
    if n = 0 ∧ c = 0 then
      if m = 0 then some (.slice none 0 0, H)
      else if m ≤ 9223372036854775807 ∧ (2 * m + 200) * bytes ≤ 281474976710656 then some (.slice (some ⟨H.next, 0, none⟩) m unk, H.push (.row true el news)) else none
    else none
  | some a =>
    if m = 0 then if c = unk ∨ n ≤ c then some (.slice (some a) n c, H) else none
    else if c = unk then
      match H.get a.block with
      | some (.row true el' cs) =>
        if el' = el ∧ a.off + n * szOf P el ≤ cs.length ∧ n + m ≤ 9223372036854775807 ∧ (2 * (n + m) + 200) * bytes ≤ 281474976710656 then
          some (.slice (some ⟨H.next, 0, none⟩) (n + m) unk, (H.kill a.block).push (.row true el ((cs.drop a.off).take (n * szOf P el) ++ news)))
        else none
      | _ => none
    else if n + m ≤ c then
      match H.get a.block with
      | some (.row true el' cs) =>
        if a.off + n * szOf P el + news.length ≤ cs.length then some (.slice (some a) (n + m) c, H.set a.block (.row true el' (splice cs (a.off + n * szOf P el) news))) else none
      | _ => none
    else
      match aCells H a (n * szOf P el) with
      | some olds => if n + m ≤ 9223372036854775807 ∧ (2 * (n + m) + 200) * bytes ≤ 281474976710656 then some (.slice (some ⟨H.next, 0, none⟩) (n + m) unk, H.push (.row true el (olds ++ news))) else none
      | none => none

def okArgs (P : Program) (ats : Array TypeId) : Bool := (ats[1]?.map (okSrc P)).getD true

/-- append of made zeros. -/
def aMade (P : Program) (H : Heap) (sT : TypeId) (ats : Array TypeId) (base : Option Addr) (n c : Nat) (x : Value) : Option (Value × Heap) :=
  match ats[1]?, x with
  | some xT, .int _ l =>
    match P.underlying xT, P.underlying sT with
    | some (.int _), some (.slice el) =>
      match P.info? el with
      | some i =>
        match i.zero with
        | some z => if z.cells.size = i.size ∧ 0 ≤ l ∧ l ≤ 9223372036854775807 ∧ l * i.bytes ≤ 281474976710656 ∧ z.cells.toList.all ground = true ∧ z.cells.toList.all (·.oneCell') = true then aApp P H el i.bytes (Builtin.zeroCells z.cells l.toNat).toList l.toNat base n c else none
        | none => none
      | none => none
    | _, _ => none
  | _, _ => none

/-- append. -/
def aAppend (P : Program) (H : Heap) (ats : Array TypeId) (s x : Value) : Option (Value × Heap) :=
  match ats[0]?, s, lenV x with
  | some sT, .slice base n c, some m =>
    match P.underlying sT with
    | some (.slice el) =>
      match P.info? el with
      | some i =>
        if okArgs P ats = true then
          match i.zero, srcCells H (szOf P el) x with
          | some z, some news => if z.cells.size = i.size ∧ news.all (·.oneCell') = true then aApp P H el i.bytes news m base n c else none
          | _, _ => none
        else none
      | none => none
    | _ => none
  | some sT, .slice base n c, none => aMade P H sT ats base n c x
  | _, _, _ => none

theorem cells_new {ρ : Ren} {olds news olds' news' : List Value} (ho : VRels ρ olds olds') (hn : VRels ρ news news') (rest : Array Value) :
    ∀ (i : Nat) (v : Value), (olds ++ news)[i]? = some v → ∃ v', ((⟨olds'⟩ : Array Value) ++ ⟨news'⟩ ++ rest)[i]? = some v' ∧ VRel ρ v v' := by
  intro i v hv
  obtain ⟨v', h1, h2⟩ := (ho.append hn).get i v hv
  refine ⟨v', ?_, h2⟩
  have hlt : i < (olds' ++ news').length := by
    rcases Nat.lt_or_ge i (olds' ++ news').length with h | h
    · exact h
    · rw [List.getElem?_eq_none h] at h1; cases h1
  rw [Array.getElem?_append_left (by simpa using hlt)]
  simpa using h1

theorem size_zeroCells (z : Array Value) (n : Nat) : (Builtin.zeroCells z n).size = n * z.size := by simp [Builtin.zeroCells]

/-- What append does, over any source: 'hin', 'hin0', 'hnew' tell the run. -/
theorem aApp_run {P : Program} {ρ : Ren} {H H' : Heap} {w : World} (hR : HRel P ρ H w) {ats : Array TypeId} {ty el : TypeId} {s' x' v : Value} {news vs' vs2 : List Value} {m n c : Nat} {base : Option Addr} {i : TypeInfo} {z : Value}
    (hi : P.info? el = some i) (hz0 : z.cells.size = i.size) (h : aApp P H el i.bytes news m base n c = some (v, H')) (hs : VRel ρ (.slice base n c) s')
    (k3 : VRels ρ news vs') (k4 : news.length = m * szOf P el) (q3 : VRels ρ news vs2)
    (hin : ∀ (b o sLen sCap : Nat), sLen + m ≤ sCap → w.there b (o + sLen * szOf P el) vs'.length → (Builtin.append_ ats ty #[.slice (some ⟨b, o, none⟩) sLen sCap, x']).run P w = .ok (.slice (some ⟨b, o, none⟩) (sLen + m) sCap) (w.setCells b (o + sLen * szOf P el) vs'))
    (hin0 : m = 0 → vs' = [] → ∀ (base : Option Addr) (sLen sCap : Nat), sLen ≤ sCap → (Builtin.append_ ats ty #[.slice base sLen sCap, x']).run P w = .ok (.slice base sLen sCap) w)
    (hnew : ∀ (base : Option Addr) (sLen sCap : Nat) (olds : List Value), (Builtin.firstCells (szOf P el) sLen (.slice base sLen sCap)).run P w.drew = .ok ⟨olds⟩ w.drew → sCap < sLen + m → sLen + m ≤ 9223372036854775807 → (2 * (sLen + m) + 200) * i.bytes ≤ 281474976710656 →
      (Builtin.append_ ats ty #[.slice base sLen sCap, x']).run P w = .ok (.slice (some ⟨w.heap.size, 0, none⟩) (sLen + m) (grownCap w (sLen + m) sCap el)) (w.drew.alloc (.cells (⟨olds⟩ ++ ⟨vs2⟩ ++ Builtin.zeroCells z.cells (grownCap w (sLen + m) sCap el - (sLen + m))) el))) :
    ∃ ρ' w' v', (Builtin.append_ ats ty #[s', x']).run P w = .ok v' w' ∧ Ext P ρ H w ρ' H' w' ∧ VRel ρ' v v' := by
  have hsz : szOf P el = i.size := by simp [szOf, hi]
  have hD : HRel P ρ H w.drew := (Ext.drawn hR (w.drawn + 1)).rel
  have hED := Ext.drawn hR (w.drawn + 1)
  have hl := k3.length
  have q4 := k4
  -- the new row
  have grow : ∀ (base' : Option Addr) (n' c' : Nat) (olds olds' : List Value), (Builtin.firstCells (szOf P el) n' (.slice base' n' c')).run P w.drew = .ok ⟨olds'⟩ w.drew → VRels ρ olds olds' → olds.length = n' * szOf P el →
      c' < n' + m → n' + m ≤ 9223372036854775807 → (2 * (n' + m) + 200) * i.bytes ≤ 281474976710656 →
      ∃ ρ' w' v', (Builtin.append_ ats ty #[.slice base' n' c', x']).run P w = .ok v' w' ∧ Ext P ρ H w ρ' (H.push (.row true el (olds ++ news))) w' ∧ VRel ρ' (.slice (some ⟨H.next, 0, none⟩) (n' + m) unk) v' := by
    intro base' n' c' olds olds' f1 f2 f3 f4 f5 f6
    have hrun := hnew base' n' c' olds' f1 f4 f5 f6
    have hE := Ext.alloc hD el (olds ++ news) (⟨olds'⟩ ++ ⟨vs2⟩ ++ Builtin.zeroCells z.cells (grownCap w (n' + m) c' el - (n' + m))) _ rfl (cells_new f2 q3 _)
    refine ⟨_, _, _, hrun, hED.trans hE, ?_⟩
    have hg := grownCap_ge w (n' + m) c' el
    refine VRel.slu (Ren.add_self _ _ _) hg ?_
    intro _
    have e1 := f2.length
    have e2 := q3.length
    simp only [Array.size_append, List.size_toArray, size_zeroCells, hz0, ← e1, ← e2, f3, q4, hsz]
    have hm : grownCap w (n' + m) c' el * i.size = n' * i.size + m * i.size + (grownCap w (n' + m) c' el - (n' + m)) * i.size := by
      rw [← Nat.add_mul, ← Nat.add_mul]; congr 1; omega
    omega
  unfold aApp at h
  split at h
  · -- a nil slice
    split at h
    rotate_left
    · cases h
    rename_i hnc
    obtain ⟨rfl, rfl⟩ := hnc
    rw [hs.snone]
    split at h
    · rename_i hm0
      subst hm0
      simp only [Option.some.injEq, Prod.mk.injEq] at h
      obtain ⟨rfl, rfl⟩ := h
      have hv0 : vs' = [] := by
        rw [k4] at hl; simp at hl; exact List.length_eq_zero_iff.1 hl.symm
      subst hv0
      exact ⟨ρ, w, _, hin0 rfl rfl _ _ _ (Nat.le_refl _), Ext.refl hR, .ground rfl⟩
    · split at h
      rotate_left
      · cases h
      rename_i hc
      simp only [Option.some.injEq, Prod.mk.injEq] at h
      obtain ⟨rfl, rfl⟩ := h
      have := grow none 0 0 [] [] rfl .nil (by simp) (by omega) (by omega) (by simpa using hc.2)
      simpa using this
  · rename_i a
    rcases hs.ssome with ⟨b, off, L, c', rfl, hb, rfl, hor⟩ | ⟨rfl, rfl, rfl, a', c', rfl⟩
    rotate_left
    · split at h
      · rename_i hm0
        subst hm0
        split at h
        rotate_left
        · cases h
        simp only [Option.some.injEq, Prod.mk.injEq] at h
        obtain ⟨rfl, rfl⟩ := h
        have hv0 : vs' = [] := by
          rw [k4] at hl; simp at hl; exact List.length_eq_zero_iff.1 hl.symm
        subst hv0
        exact ⟨ρ, w, _, hin0 rfl rfl _ _ _ (Nat.zero_le _), Ext.refl hR, .void⟩
      · rw [if_pos rfl] at h
        simp only [hR.void.2.1] at h
        cases h
    have hlec : c = unk ∨ n ≤ c → n ≤ c' := by
      intro hh
      rcases hor with ⟨e1, e2⟩ | ⟨_, e2, _⟩
      · subst e2; exact hh.resolve_left e1
      · exact e2
    split at h
    · rename_i hm0
      subst hm0
      split at h
      rotate_left
      · cases h
      rename_i hc
      simp only [Option.some.injEq, Prod.mk.injEq] at h
      obtain ⟨rfl, rfl⟩ := h
      have hv0 : vs' = [] := by
        rw [k4] at hl; simp at hl; exact List.length_eq_zero_iff.1 hl.symm
      subst hv0
      exact ⟨ρ, w, _, hin0 rfl rfl _ _ _ (hlec hc), Ext.refl hR, hs⟩
    · rename_i hm0
      split at h
      · -- of a capacity that nobody knows
        rename_i hcu
        obtain ⟨_, hn, hlim⟩ := hor.resolve_left (fun e => e.1 hcu)
        split at h
        rotate_left
        · cases h
        rename_i el' cs hg
        split at h
        rotate_left
        · cases h
        rename_i hc
        simp only [Option.some.injEq, Prod.mk.injEq] at h
        obtain ⟨rfl, rfl⟩ := h
        obtain ⟨rfl, hend, hb1, hb2⟩ := hc
        simp only at hg hend
        obtain ⟨cs0, fr, r1, r2, r3, r4⟩ := hR.rows b L true el' cs hb hg
        have hes := (r4 rfl).2.2
        have hlim' := hlim r3
        by_cases hfit : n + m ≤ c'
        · have hroom : L.base + (off + n * szOf P el') + news.length ≤ L.lim := by
            rw [k4]
            have : (n + m) * szOf P el' ≤ c' * szOf P el' := Nat.mul_le_mul_right _ hfit
            rw [Nat.add_mul] at this
            rw [hes] at hlim'
            omega
          obtain ⟨t1, t2⟩ := Ext.moved hR hb hg (off := off) (k := n * szOf P el') (by omega) k3 hroom
          have hplace : L.base + off + n * szOf P el' = L.base + (off + n * szOf P el') := by omega
          have hrun := hin L.blk (L.base + off) n c' hfit (by rw [hplace]; exact t1)
          rw [hplace] at hrun
          refine ⟨_, _, _, hrun, t2, ?_⟩
          have := VRel.slu (ρ := ρ.add H.next ⟨L.blk, L.base + off, true, L.es, L.lim, none⟩) (b := H.next) (off := 0) (n := n + m) (c := c') (Ren.add_self _ _ _) hfit (by intro _; simpa using hlim')
          simpa using this
        · have hag : aCells H ⟨b, off, none⟩ (n * szOf P el') = some ((cs.drop off).take (n * szOf P el')) := by
            simp only [aCells, hg]
            rw [if_pos (by omega)]
          obtain ⟨os', s1, s2, s3, s4⟩ := aCells_run hD hb hag
          obtain ⟨ρ', w', v', g1, g2, g3⟩ := grow (some ⟨L.blk, L.base + off, none⟩) n c' ((cs.drop off).take (n * szOf P el')) os' s4 s2 (by simp; omega) (by omega) hb1 hb2
          refine ⟨ρ', w', v', g1, ?_, g3⟩
          -- the elder row is given up
          have hE := g2
          refine ⟨hE.le, ?_, by simp, hE.size, hE.own, hE.frame, hE.os, hE.output, hE.tape, ⟨by simpa using hE.rel.dom, ?_, ?_, ?_, ?_, ?_, hE.rel.frz, ?_, hE.rel.bnd⟩, hE.blks⟩
          · intro x hx hxn
            obtain ⟨p1, p2⟩ := hE.phant x hx hxn
            refine ⟨p1, ?_⟩
            rw [Heap.get_push, Heap.get_kill, if_neg (by simp; omega), if_neg]
            intro e; subst e; rw [hb] at hxn; cases hxn
          · intro x Lx own ex cx hx hgx
            rw [Heap.get_push, Heap.get_kill] at hgx
            by_cases e : x = H.next
            · rw [if_pos (by simpa using e)] at hgx
              exact hE.rel.rows x Lx own ex cx hx (by rw [Heap.get_push, if_pos e]; exact hgx)
            · rw [if_neg (by simpa using e)] at hgx
              split at hgx
              · cases hgx
              · exact hE.rel.rows x Lx own ex cx hx (by rw [Heap.get_push, if_neg e]; exact hgx)
          · intro x Lx ex cx hx hgx
            rw [Heap.get_push, Heap.get_kill] at hgx
            by_cases e : x = H.next
            · rw [if_pos (by simpa using e)] at hgx; cases hgx
            · rw [if_neg (by simpa using e)] at hgx
              split at hgx
              · cases hgx
              · exact hE.rel.maps x Lx ex cx hx (by rw [Heap.get_push, if_neg e]; exact hgx)
          · intro c hc
            simp only [Heap.next_push, Heap.next_kill] at hc
            rw [Heap.get_push, Heap.get_kill, if_neg (by simp; omega)]
            split
            · rfl
            · exact hR.free c (by omega)
          · obtain ⟨v1, v2, v3⟩ := hR.void
            refine ⟨hE.rel.void.1, ?_, by simp⟩
            rw [Heap.get_push, Heap.get_kill, if_neg (by simp; omega)]
            split
            · rfl
            · exact v2
          · intro b1 b2 L1 L2 o2 hne e1 e2 p1 p1' p2
            have hk : ∀ c, ((H.kill b).push (.row true el' ((cs.drop off).take (n * szOf P el') ++ news))).get c = if c = H.next then some (.row true el' ((cs.drop off).take (n * szOf P el') ++ news)) else if c = b then none else H.get c := by
              intro c; rw [Heap.get_push, Heap.get_kill]; rfl
            simp only [hk] at p1 p1' p2
            have f1 : (∀ e c, (H.push (.row true el' ((cs.drop off).take (n * szOf P el') ++ news))).get b1 ≠ some (.row false e c)) ∧ ((H.push (.row true el' ((cs.drop off).take (n * szOf P el') ++ news))).get b1).isSome = true := by
              rw [Heap.get_push]
              split
              · exact ⟨fun _ _ => by simp, rfl⟩
              · rename_i e; simp only [if_neg e] at p1 p1'
                split at p1'
                · cases p1'
                · rename_i e'; simp only [if_neg e'] at p1; exact ⟨p1, p1'⟩
            have f2 : (H.push (.row true el' ((cs.drop off).take (n * szOf P el') ++ news))).get b2 = some o2 := by
              rw [Heap.get_push]
              split
              · rename_i e; rw [if_pos e] at p2; exact p2
              · rename_i e; rw [if_neg e] at p2
                split at p2
                · cases p2
                · exact p2
            exact hE.rel.inj b1 b2 L1 L2 o2 hne e1 e2 f1.1 f1.2 f2
          · intro b1 b2 L1 L2 fs e1 e2 hf p1 p1'
            have hk : ∀ c, ((H.kill b).push (.row true el' ((cs.drop off).take (n * szOf P el') ++ news))).get c = if c = H.next then some (.row true el' ((cs.drop off).take (n * szOf P el') ++ news)) else if c = b then none else H.get c := by
              intro c; rw [Heap.get_push, Heap.get_kill]; rfl
            simp only [hk] at p1 p1'
            have f1 : (∀ e c, (H.push (.row true el' ((cs.drop off).take (n * szOf P el') ++ news))).get b1 ≠ some (.row false e c)) ∧ ((H.push (.row true el' ((cs.drop off).take (n * szOf P el') ++ news))).get b1).isSome = true := by
              rw [Heap.get_push]
              split
              · exact ⟨fun _ _ => by simp, rfl⟩
              · rename_i e; simp only [if_neg e] at p1 p1'
                split at p1'
                · cases p1'
                · rename_i e'; simp only [if_neg e'] at p1; exact ⟨p1, p1'⟩
            exact hE.rel.frinj b1 b2 L1 L2 fs e1 e2 hf f1.1 f1.2
      · rename_i hcu
        have hc' : c' = c := by
          rcases hor with ⟨_, e⟩ | ⟨e, _⟩
          · exact e
          · exact absurd e hcu
        subst hc'
        split at h
        · rename_i hfit
          split at h
          rotate_left
          · cases h
          rename_i el' cs hg
          split at h
          rotate_left
          · cases h
          rename_i hc
          simp only [Option.some.injEq, Prod.mk.injEq] at h
          obtain ⟨rfl, rfl⟩ := h
          simp only at hg hc ⊢
          obtain ⟨t1, t2⟩ := Ext.setCells (P := P) (elem := el') hb k3 hR hg (off := off + n * szOf P el) hc
          rw [← Nat.add_assoc] at t1 t2
          exact ⟨_, _, _, hin _ _ _ _ hfit t1, t2, .sl hb hcu⟩
        · rename_i hfit
          split at h
          rotate_left
          · cases h
          rename_i olds hag
          split at h
          rotate_left
          · cases h
          rename_i hc
          simp only [Option.some.injEq, Prod.mk.injEq] at h
          obtain ⟨rfl, rfl⟩ := h
          obtain ⟨os', s1, s2, s3, s4⟩ := aCells_run hD hb hag
          exact grow (some ⟨L.blk, L.base + off, none⟩) n c' olds os' s4 s2 (by rw [s2.length, s1]) (by omega) hc.1 hc.2

section
variable {P : Program} {w : World} {sT xT ty elem : TypeId} {ats : Array TypeId} {k k2 : IntKind} {l : Int} {i : TypeInfo} {z : Value}
theorem wrap_made (h0 : 0 ≤ l) (h1 : l ≤ 9223372036854775807) : IntKind.i64.wrap l = l := by
  simp [IntKind.wrap, IntKind.bits, IntKind.signed]
  omega
theorem run_made_new {base : Option Addr} {sLen sCap : Nat} {olds : List Value} {m : Nat} (h0 : ats[0]? = some sT) (h1 : ats[1]? = some xT) (hx : P.underlying xT = some (.int k)) (hu : P.underlying sT = some (.slice elem))
    (hi : P.info? elem = some i) (hz : i.zero = some z) (hz0 : z.cells.size = i.size) (hl2 : m ≤ 9223372036854775807) (hl3 : m * i.bytes ≤ 281474976710656)
    (hfo : (Builtin.firstCells (szOf P elem) sLen (.slice base sLen sCap)).run P w.drew = .ok ⟨olds⟩ w.drew)
    (hc : sCap < sLen + m) (h63 : sLen + m ≤ 9223372036854775807) (hfit : (2 * (sLen + m) + 200) * i.bytes ≤ 281474976710656) :
    (Builtin.append_ ats ty #[.slice base sLen sCap, .int k2 (m : Int)]).run P w = .ok (.slice (some ⟨w.heap.size, 0, none⟩) (sLen + m) (grownCap w (sLen + m) sCap elem))
      (w.drew.alloc (.cells (⟨olds⟩ ++ ⟨(Builtin.zeroCells z.cells m).toList⟩ ++ Builtin.zeroCells z.cells (grownCap w (sLen + m) sCap elem - (sLen + m))) elem)) := by
  have hs : sized P elem = true := by simp [sized, hi]
  have hsz : szOf P elem = i.size := by simp [szOf, hi]
  have hn : ¬ (sLen + m ≤ sCap) := by omega
  have h63' : ¬ (9223372036854775807 < ((sLen : Int) + (m : Int))) := by omega
  have h48 : Builtin.nextslicecap (sLen + m) sCap * i.bytes ≤ 281474976710656 := Nat.le_trans (Nat.mul_le_mul_right _ (nextslicecap_le hc)) hfit
  have h48' : ¬ (281474976710656 < Builtin.nextslicecap (sLen + m) sCap * i.bytes) := by omega
  have hw : IntKind.i64.wrap (m : Int) = m := wrap_made (by omega) (by omega)
  have hai : ∀ w, (asIntOf (.int k2 (m : Int))).run P w = .ok (k2, (m : Int)) w := fun w => rfl
  have hl0 : ¬ (m : Int) < 0 := by omega
  have hl3' : ¬ (281474976710656 : Int) < (m : Int) * (i.bytes : Int) := by rw [← Int.natCast_mul]; omega
  have hb : ¬ i.bytes = 0 ∨ i.bytes = 0 := by omega
  by_cases he : m * szOf P elem = 0
  · have hemp : Builtin.zeroCells z.cells m = #[] := by
      apply Array.eq_empty_of_size_eq_zero
      rw [size_zeroCells, hz0, ← hsz, he]
    simp [Builtin.append_, h0, h1, run_underlying hu, run_underlying hx, run_sizeOf' hs, hw, hl0, hl3', he, hemp, asInt, hai, hfo, hn, h63', h48', typeInfo, zeroValue, hi, hz, Question.forced, newRow, grownCap, Array.append_assoc]
  · simp [Builtin.append_, h0, h1, run_underlying hu, run_underlying hx, run_sizeOf' hs, hw, hl0, hl3', he, asInt, hai, hfo, hn, h63', h48', typeInfo, zeroValue, hi, hz, Question.forced, newRow, grownCap, Array.append_assoc]
theorem run_made_in {b o sLen sCap m : Nat} (h0 : ats[0]? = some sT) (h1 : ats[1]? = some xT) (hx : P.underlying xT = some (.int k)) (hu : P.underlying sT = some (.slice elem))
    (hi : P.info? elem = some i) (hz : i.zero = some z) (hz0 : z.cells.size = i.size) (hl2 : m ≤ 9223372036854775807) (hl3 : m * i.bytes ≤ 281474976710656)
    (hc : sLen + m ≤ sCap) (hth : w.there b (o + sLen * szOf P elem) (Builtin.zeroCells z.cells m).toList.length) (hone : ∀ v ∈ (Builtin.zeroCells z.cells m).toList, v.oneCell' = true) :
    (Builtin.append_ ats ty #[.slice (some ⟨b, o, none⟩) sLen sCap, .int k2 (m : Int)]).run P w = .ok (.slice (some ⟨b, o, none⟩) (sLen + m) sCap) (w.setCells b (o + sLen * szOf P elem) (Builtin.zeroCells z.cells m).toList) := by
  have hst := run_storeCells_cells (P := P) b (o + sLen * szOf P elem) (Builtin.zeroCells z.cells m).toList 0 w (fun j hj => by simpa using (hth j hj).1) (fun j hj => by simpa using (hth j hj).2) hone
  simp only [Nat.add_zero] at hst
  have hs : sized P elem = true := by simp [sized, hi]
  have hsz : szOf P elem = i.size := by simp [szOf, hi]
  have hw : IntKind.i64.wrap (m : Int) = m := wrap_made (by omega) (by omega)
  have hai : ∀ w, (asIntOf (.int k2 (m : Int))).run P w = .ok (k2, (m : Int)) w := fun w => rfl
  have hl0 : ¬ (m : Int) < 0 := by omega
  have hl3' : ¬ (281474976710656 : Int) < (m : Int) * (i.bytes : Int) := by rw [← Int.natCast_mul]; omega
  by_cases he : m * szOf P elem = 0
  · have hemp : Builtin.zeroCells z.cells m = #[] := by
      apply Array.eq_empty_of_size_eq_zero
      rw [size_zeroCells, hz0, ← hsz, he]
    rw [hemp] at hst ⊢
    simp [Builtin.append_, h0, h1, run_underlying hu, run_underlying hx, run_sizeOf' hs, hw, hl0, hl3', he, asInt, hai, hc, typeInfo, hi, add_eq] at hst ⊢
    simp [hst]
  · simp [Builtin.append_, h0, h1, run_underlying hu, run_underlying hx, run_sizeOf' hs, hw, hl0, hl3', he, asInt, hai, hc, typeInfo, zeroValue, hi, hz, add_eq, hst]
theorem run_made_in0 {base : Option Addr} {sLen sCap : Nat} (h0 : ats[0]? = some sT) (h1 : ats[1]? = some xT) (hx : P.underlying xT = some (.int k)) (hu : P.underlying sT = some (.slice elem))
    (hi : P.info? elem = some i) (hc : sLen ≤ sCap) :
    (Builtin.append_ ats ty #[.slice base sLen sCap, .int k2 ((0 : Nat) : Int)]).run P w = .ok (.slice base sLen sCap) w := by
  have hst : ∀ a : Addr, (storeCells a []).run P w = .ok () w := fun a => rfl
  have hs : sized P elem = true := by simp [sized, hi]
  have hw : IntKind.i64.wrap (0 : Int) = 0 := wrap_made (by omega) (by omega)
  have hai : ∀ w, (asIntOf (.int k2 0)).run P w = .ok (k2, 0) w := fun w => rfl
  cases base <;> simp [Builtin.append_, h0, h1, run_underlying hu, run_underlying hx, run_sizeOf' hs, hw, asInt, hai, hc, typeInfo, hi, hst]
end

theorem mem_zeroCells {z : Array Value} {m : Nat} (x : Value) (hx : x ∈ (Builtin.zeroCells z m).toList) : x ∈ z.toList := by
  rw [Array.mem_toList_iff] at hx ⊢
  unfold Builtin.zeroCells at hx
  obtain ⟨i, hi, rfl⟩ := Array.mem_map.1 hx
  have h1 : i < m * z.size := Array.mem_range.1 hi
  have h2 : 0 < z.size := by
    rcases Nat.eq_zero_or_pos z.size with h | h
    · rw [h] at h1; omega
    · exact h
  have h3 : i % z.size < z.size := Nat.mod_lt _ h2
  rw [getElem!_pos z (i % z.size) h3]
  exact Array.getElem_mem h3

theorem aMade_run {P : Program} {ρ : Ren} {H H' : Heap} {w : World} (hR : HRel P ρ H w) {ats : Array TypeId} {ty sT : TypeId} {base : Option Addr} {n c : Nat} {x s' x' v : Value} (h0 : ats[0]? = some sT) (h : aMade P H sT ats base n c x = some (v, H')) (hs : VRel ρ (.slice base n c) s') (hx : VRel ρ x x') :
    ∃ ρ' w' v', (Builtin.append_ ats ty #[s', x']).run P w = .ok v' w' ∧ Ext P ρ H w ρ' H' w' ∧ VRel ρ' v v' := by
  unfold aMade at h
  split at h
  rotate_left
  · cases h
  rename_i xT k2 l h1
  split at h
  rotate_left
  · cases h
  rename_i k el hux hu
  split at h
  rotate_left
  · cases h
  rename_i i hi
  split at h
  rotate_left
  · cases h
  rename_i z hz
  split at h
  rotate_left
  · cases h
  rename_i hc
  obtain ⟨hz0, hl, hl2, hl3, hg, ho⟩ := hc
  obtain ⟨m, rfl⟩ : ∃ m : Nat, l = m := ⟨l.toNat, by omega⟩
  have e := hx.gr_eq rfl
  subst e
  simp only [Int.toNat_natCast] at h
  have hl3 : m * i.bytes ≤ 281474976710656 := by rw [← Int.natCast_mul] at hl3; omega
  have hsz : szOf P el = i.size := by simp [szOf, hi]
  have hmem : ∀ x, x ∈ (Builtin.zeroCells z.cells m).toList → x ∈ z.cells.toList := fun x hx => mem_zeroCells x hx
  have hone : ∀ v ∈ (Builtin.zeroCells z.cells m).toList, v.oneCell' = true := fun v hv => List.all_eq_true.1 ho v (hmem v hv)
  have hrel : VRels ρ (Builtin.zeroCells z.cells m).toList (Builtin.zeroCells z.cells m).toList := VRels.ground (ρ := ρ) _ (List.all_eq_true.2 fun v hv => List.all_eq_true.1 hg v (hmem v hv))
  exact aApp_run hR hi hz0 h hs hrel (by rw [Array.length_toList, size_zeroCells, hz0, hsz]) hrel
    (fun b o sLen sCap hc ht => run_made_in h0 h1 hux hu hi hz hz0 (by omega) hl3 hc ht hone)
    (fun e1 _ base sLen sCap hc => by subst e1; exact run_made_in0 h0 h1 hux hu hi hc)
    (fun base sLen sCap olds f1 f4 f5 f6 => run_made_new h0 h1 hux hu hi hz hz0 (by omega) hl3 f1 f4 f5 f6)

theorem aAppend_run {P : Program} {ρ : Ren} {H H' : Heap} {w : World} (hR : HRel P ρ H w) {ats : Array TypeId} {ty : TypeId} {s x s' x' v : Value} (h : aAppend P H ats s x = some (v, H')) (hs : VRel ρ s s') (hx : VRel ρ x x') :
    ∃ ρ' w' v', (Builtin.append_ ats ty #[s', x']).run P w = .ok v' w' ∧ Ext P ρ H w ρ' H' w' ∧ VRel ρ' v v' := by
  unfold aAppend at h
  split at h
  rotate_left
  · rename_i sT base n c h0 _
    exact aMade_run hR h0 h hs hx
  · cases h
  rename_i sT base n c m h0 hlen
  split at h
  rotate_left
  · cases h
  rename_i el hu
  split at h
  rotate_left
  · cases h
  rename_i i hi
  split at h
  rotate_left
  · cases h
  rename_i hok
  have h1 : ∀ t, ats[1]? = some t → okSrc P t = true := fun t ht => by simpa [okArgs, ht] using hok
  split at h
  rotate_left
  · cases h
  rename_i z news hz hsrc
  split at h
  rotate_left
  · cases h
  rename_i hc0
  have hsized : sized P el = true := by simp [sized, hi]
  have hsz : szOf P el = i.size := by simp [szOf, hi]
  have hD : HRel P ρ H w.drew := (Ext.drawn hR (w.drawn + 1)).rel
  have hED := Ext.drawn hR (w.drawn + 1)
  obtain ⟨vs', k1, k2, k3, k4⟩ := src_run hR hsrc hlen hx
  have hl := k3.length
  have hone := k3.oneCell hc0.2
  obtain ⟨vs2, q1, q2, q3, q4⟩ := src_run hD hsrc hlen hx
  exact aApp_run hR hi hc0.1 h hs k3 k4 q3 (fun b o sLen sCap hc ht => run_append_in h0 h1 hu hsized k1 k2 hc ht hone)
    (fun e1 e2 base sLen sCap hc => by subst e1; subst e2; exact run_append_in0 h0 h1 hu hsized k1 k2 hc)
    (fun base sLen sCap olds f1 f4 f5 f6 => run_append_new h0 h1 hu hi hz q1 f1 q2 f4 f5 f6)

end Go.Abs

/- Maps. -/
namespace Go.Abs
open Go
/-! ### maps -/
theorem Ext.allocMap {P : Program} {ρ : Ren} {H : Heap} {w : World} (h : HRel P ρ H w) (L : Loc) (hL : L = ⟨w.heap.size, 0, true, 0, 0, none⟩) :
    Ext P ρ H w (ρ.add H.next L) (H.push (.map [] 0)) (w.alloc (.map #[] 0)) := by
  have hle := h.le_add L
  have hbk : ∀ c L', (ρ.add H.next L) c = some L' → (∃ b0 L0, ρ b0 = some L0 ∧ L0.blk = L'.blk) ∨ w.heap.size ≤ L'.blk := by
    intro c L' hc
    simp only [Ren.add] at hc
    split at hc
    · injection hc with hc; subst hc; subst hL; exact .inr (Nat.le_refl _)
    · exact .inl ⟨c, L', hc, rfl⟩
  refine ⟨hle, ?_, by simp, by simp, ?_, ?_, rfl, rfl, rfl, ⟨?_, ?_, ?_, ?_, ?_, ?_, ?_, ?_, fun c L' hc => by
    simp only [Ren.add] at hc
    split at hc
    · injection hc with hc; subst hc; subst hL; simp
    · have := h.bnd c L' hc; simp; omega⟩, hbk⟩
  · intro b hb hn
    refine ⟨?_, ?_⟩
    · simp only [Ren.add]; rw [if_neg (by omega)]; exact hn
    · rw [Heap.get_push, if_neg (by omega)]
  · intro b L' hb ho
    simp only [Ren.add] at hb
    split at hb
    · injection hb with hb; subst hb; subst hL; exact .inr (Nat.le_refl _)
    · exact .inl ⟨b, L', hb, ho, rfl⟩
  · intro i hi _
    exact RowKit.Below.heap_alloc w _ i hi
  · intro b L' hb
    simp only [Ren.add] at hb
    split at hb
    · injection hb with hb; subst hb; subst hL; rename_i e; subst e; simp
    · have := h.dom b L' hb
      simp; omega
  · intro b L' own el ce hb hg
    rw [Heap.get_push] at hg
    simp only [Ren.add] at hb
    split at hb
    · rename_i e; rw [if_pos e] at hg; cases hg
    · rename_i e; rw [if_neg e] at hg
      obtain ⟨cs', fr, h1, h2, h3⟩ := h.rows b L' own el ce hb hg
      refine ⟨cs', fr, ?_, ?_, h3⟩
      · rw [RowKit.Below.heap_alloc w _ _ (h.lt hb hg)]; exact h1
      · intro i v hv
        obtain ⟨v', k1, k2⟩ := h2 i v hv
        exact ⟨v', k1, k2.mono hle⟩
  · intro b L' es clock hb hg
    rw [Heap.get_push] at hg
    simp only [Ren.add] at hb
    split at hb
    · rename_i e; rw [if_pos e] at hg
      injection hb with hb; injection hg with hg; injection hg with g1 g2
      subst g1; subst g2; subst hb; subst hL
      refine ⟨#[], heap_alloc_new w _, rfl, rfl, rfl, ?_⟩
      intro i v hv
      simp at hv
    · rename_i e; rw [if_neg e] at hg
      obtain ⟨es', h1, h2, h3, h4, h5⟩ := h.maps b L' es clock hb hg
      refine ⟨es', ?_, h2, h3, h4, ?_⟩
      · rw [RowKit.Below.heap_alloc w _ _ (h.lt hb hg)]; exact h1
      · intro i e he
        obtain ⟨e', k1, k2, k3, k4, k5⟩ := h5 i e he
        exact ⟨e', k1, k2, k3, k4, k5.mono hle⟩
  · intro b hb
    simp only [Heap.next_push] at hb
    rw [Heap.get_push, if_neg (by omega)]
    exact h.free b (by omega)
  · obtain ⟨v1, v2, v3⟩ := h.void
    refine ⟨by simp only [Ren.add]; rw [if_neg (by omega)]; exact v1, ?_, by simp⟩
    rw [Heap.get_push, if_neg (by omega)]; exact v2
  · intro b1 b2 L1 L2 o2 hne h1 h2 g1 g1' g2
    rw [Heap.get_push] at g1 g1' g2
    simp only [Ren.add] at h1 h2
    by_cases e1 : b1 = H.next
    · have e2 : b2 ≠ H.next := fun e => hne (e1.trans e.symm)
      rw [if_pos e1] at h1; rw [if_neg e2] at h2
      injection h1 with h1; subst h1; subst hL
      have := h.lt h2 (by rw [if_neg e2] at g2; exact g2)
      simp only; omega
    · rw [if_neg e1] at h1
      by_cases e2 : b2 = H.next
      · rw [if_pos e2] at h2
        injection h2 with h2; subst h2; subst hL
        have := h.lt' h1 (by rw [if_neg e1] at g1'; exact g1')
        simp only; omega
      · rw [if_neg e2] at h2
        rw [if_neg e1] at g1 g1'; rw [if_neg e2] at g2
        exact h.inj b1 b2 L1 L2 o2 hne h1 h2 g1 g1' g2
  · intro b L' fs hb hf
    simp only [Ren.add] at hb
    split at hb
    · injection hb with hb; subst hb; subst hL; cases hf
    · obtain ⟨q1, el, fr, q2⟩ := h.frz b L' fs hb hf
      exact ⟨q1, el, fr, by rw [RowKit.Below.heap_alloc w _ _ (lt_of_heap q2)]; exact q2⟩
  · intro b1 b2 L1 L2 fs h1 h2 hf g1 g1'
    rw [Heap.get_push] at g1 g1'
    simp only [Ren.add] at h1 h2
    by_cases e2 : b2 = H.next
    · rw [if_pos e2] at h2; injection h2 with h2; subst h2; subst hL; cases hf
    · rw [if_neg e2] at h2
      by_cases e1 : b1 = H.next
      · rw [if_pos e1] at h1
        injection h1 with h1; subst h1; subst hL
        obtain ⟨_, el, fr, q2⟩ := h.frz b2 L2 fs h2 hf
        have := lt_of_heap q2
        simp only; omega
      · rw [if_neg e1] at h1 g1 g1'
        exact h.frinj b1 b2 L1 L2 fs h1 h2 hf g1 g1'

/-- The entries of two maps. -/
def MRel (ρ : Ren) (es : List MapEntry) (es' : Array MapEntry) : Prop :=
  es.length = es'.size ∧ ∀ (i : Nat) (e : MapEntry), es[i]? = some e → ∃ e' : MapEntry, es'[i]? = some e' ∧ ground e.key = true ∧ e'.key = e.key ∧ e'.born = e.born ∧ VRel ρ e.val e'.val

/-- A map of the run's own is written. -/
theorem Ext.setMap {P : Program} {ρ : Ren} {H : Heap} {w : World} (h : HRel P ρ H w) {b : Nat} {L : Loc} {es : List MapEntry} {clock : Nat}
    (hb : ρ b = some L) (hg : H.get b = some (.map es clock)) {es2 : List MapEntry} {es2' : Array MapEntry} {clock2 : Nat} (hm : MRel ρ es2 es2') :
    Ext P ρ H w ρ (H.set b (.map es2 clock2)) (w.putObj L.blk (.map es2' clock2)) := by
  obtain ⟨es', h1, h3, h4, h5, h6⟩ := h.maps b L es clock hb hg
  have hlt := lt_of_heap h1
  refine ⟨Ren.le.rfl, ?_, by simp, by rw [World.putObj_size]; exact Nat.le_refl _, ?_, ?_, rfl, rfl, rfl, ⟨?_, ?_, ?_, ?_, ?_, ?_, ?_, ?_, fun c L' hc => by rw [World.putObj_size]; exact h.bnd c L' hc⟩, fun b L h1 => .inl ⟨b, L, h1, rfl⟩⟩
  · intro c hc hn
    refine ⟨hn, ?_⟩
    rw [Heap.get_set, if_neg]
    intro e; subst e; rw [hb] at hn; cases hn
  · intro c L' hc ho'; exact .inl ⟨c, L', hc, ho', rfl⟩
  · intro i hi hn
    exact World.putObj_heap_other (fun e => hn b L hb h3 e.symm)
  · intro c L' hc
    have := h.dom c L' hc
    simp; omega
  · intro c L' own el ce hc hgc
    rw [Heap.get_set] at hgc
    by_cases e : c = b
    · rw [if_pos e] at hgc; cases hgc
    · rw [if_neg e] at hgc
      obtain ⟨cs', fr', q1, q2, q3⟩ := h.rows c L' own el ce hc hgc
      have hne : L.blk ≠ L'.blk := h.inj b c L L' _ (fun e' => e e'.symm) hb hc (fun _ _ => by rw [hg]; simp) (by rw [hg]; rfl) hgc
      exact ⟨cs', fr', (World.putObj_heap_other (fun e' => hne e'.symm)).trans q1, q2, q3⟩
  · intro c L' es3 clock3 hc hgc
    rw [Heap.get_set] at hgc
    by_cases e : c = b
    · subst e
      rw [if_pos rfl] at hgc
      rw [hb] at hc; injection hc with hc; subst hc
      injection hgc with hgc; injection hgc with g1 g2
      subst g1; subst g2
      exact ⟨es2', World.putObj_heap_same hlt, h3, h4, hm.1, hm.2⟩
    · rw [if_neg e] at hgc
      obtain ⟨es', q1, q2⟩ := h.maps c L' es3 clock3 hc hgc
      have hne : L.blk ≠ L'.blk := h.inj b c L L' _ (fun e' => e e'.symm) hb hc (fun _ _ => by rw [hg]; simp) (by rw [hg]; rfl) hgc
      exact ⟨es', (World.putObj_heap_other (fun e' => hne e'.symm)).trans q1, q2⟩
  · intro c hc
    simp only [Heap.next_set] at hc
    have := h.dom b L hb
    rw [Heap.get_set, if_neg (by omega)]
    exact h.free c hc
  · obtain ⟨v1, v2, v3⟩ := h.void
    refine ⟨v1, ?_, v3⟩
    rw [Heap.get_set, if_neg]
    · exact v2
    · intro e; subst e; rw [hb] at v1; cases v1
  · intro b1 b2 L1 L2 o2 hne k1 k2 g1 g1' g2
    rw [Heap.get_set] at g1 g1' g2
    by_cases e1 : b1 = b
    · subst e1
      rw [if_neg (fun e => hne e.symm)] at g2
      exact h.inj b1 b2 L1 L2 o2 hne k1 k2 (fun _ _ => by rw [hg]; simp) (by rw [hg]; rfl) g2
    · rw [if_neg e1] at g1 g1'
      by_cases e2 : b2 = b
      · subst e2
        exact h.inj b1 b2 L1 L2 _ hne k1 k2 g1 g1' hg
      · rw [if_neg e2] at g2
        exact h.inj b1 b2 L1 L2 o2 hne k1 k2 g1 g1' g2
  · intro c L' fs hc hf
    obtain ⟨q1, el, fr, q2⟩ := h.frz c L' fs hc hf
    refine ⟨q1, el, fr, (World.putObj_heap_other ?_).trans q2⟩
    intro e
    rw [e, h1] at q2; cases q2
  · intro b1 b2 L1 L2 fs k1 k2 hf g1 g1'
    rw [Heap.get_set] at g1 g1'
    by_cases e1 : b1 = b
    · subst e1
      exact h.frinj b1 b2 L1 L2 fs k1 k2 hf (fun _ _ => by rw [hg]; simp) (by rw [hg]; rfl)
    · rw [if_neg e1] at g1 g1'
      exact h.frinj b1 b2 L1 L2 fs k1 k2 hf g1 g1'

def plainK : TypeDesc → Bool
  | .int _ | .string | .bool => true
  | _ => false
theorem bytes_beq (a b : ByteArray) : (a == b) = true ↔ a = b := by
  show ByteArray.beq a b = true ↔ a = b
  unfold ByteArray.beq
  rw [beq_iff_eq]
  exact ⟨ByteArray.ext, fun e => by rw [e]⟩
theorem sameNow_true {d : TypeDesc} {k e : Value} (h : Instr.sameNow d k e = some true) : k = e ∧ Instr.sameBits 10000 e k = true := by
  unfold Instr.sameNow at h
  split at h
  · rename_i k a k' b
    split at h
    · rename_i e; subst e
      simp only [Option.some.injEq, beq_iff_eq] at h
      subst h
      exact ⟨rfl, by simp [Instr.sameBits]⟩
    · cases h
  · simp only [Option.some.injEq] at h
    rw [bytes_beq] at h
    subst h
    exact ⟨rfl, by simp only [Instr.sameBits]; exact (bytes_beq _ _).2 rfl⟩
  · simp only [Option.some.injEq, beq_iff_eq] at h
    subst h
    exact ⟨rfl, by simp [Instr.sameBits]⟩
  · cases h
theorem findNow_at {d : TypeDesc} {k : Value} : ∀ {es : List MapEntry} {i0 i : Nat} {v : Value}, Instr.findNow d k es i0 = some (some (i, v)) → ∃ j e, i = i0 + j ∧ es[j]? = some e ∧ Instr.sameNow d k e.key = some true ∧ e.val = v
  | [], i0, i, v, h => by simp [Instr.findNow] at h
  | e :: es, i0, i, v, h => by
    simp only [Instr.findNow] at h
    split at h
    · rename_i hs
      simp only [Option.some.injEq, Prod.mk.injEq] at h
      obtain ⟨rfl, rfl⟩ := h
      exact ⟨0, e, rfl, rfl, hs, rfl⟩
    · obtain ⟨j, e', h1, h2, h3⟩ := findNow_at h
      exact ⟨j + 1, e', by omega, h2, h3⟩
    · cases h
theorem findNow_rel {ρ : Ren} {d : TypeDesc} {k : Value} : ∀ {es es' : List MapEntry} {i0 : Nat}, es.length = es'.length → (∀ (i : Nat) (e : MapEntry), es[i]? = some e → ∃ e' : MapEntry, es'[i]? = some e' ∧ e'.key = e.key ∧ VRel ρ e.val e'.val) →
    ∀ {r}, Instr.findNow d k es i0 = some r → ∃ r', Instr.findNow d k es' i0 = some r' ∧ (r = none → r' = none) ∧ (∀ i v, r = some (i, v) → ∃ v', r' = some (i, v') ∧ VRel ρ v v')
  | [], es', i0, hl, he, r, h => by
    have : es' = [] := List.length_eq_zero_iff.1 hl.symm
    subst this
    simp only [Instr.findNow, Option.some.injEq] at h ⊢
    subst h
    exact ⟨none, rfl, fun _ => rfl, fun i v e => by cases e⟩
  | e :: es, [], i0, hl, he, r, h => by simp at hl
  | e :: es, e2 :: es', i0, hl, he, r, h => by
    obtain ⟨e', h1, h2, h3⟩ := he 0 e rfl
    simp only [List.getElem?_cons_zero, Option.some.injEq] at h1
    subst h1
    simp only [Instr.findNow, h2] at h ⊢
    split at h
    · simp only [Option.some.injEq] at h
      subst h
      exact ⟨_, rfl, (fun e => by cases e), (fun i v e => by
        simp only [Option.some.injEq, Prod.mk.injEq] at e
        obtain ⟨rfl, rfl⟩ := e
        exact ⟨_, rfl, h3⟩)⟩
    · exact findNow_rel (by simpa using hl) (fun i e hi => he (i + 1) e hi) h
    · cases h
variable {P : Program} {ρ : Ren} {H : Heap} {w : World}
theorem run_checkKey {kt : TypeId} {d : TypeDesc} (hu : P.underlying kt = some d) (hp : plainK d = true) (em : Bool) (k : Value) (w : World) : (Instr.checkKey em 10000 kt k).run P w = .ok () w := by
  generalize hn : 10000 = n
  cases n with
  | zero => cases hn
  | succ n =>
    cases d <;> simp [plainK] at hp <;> simp [Instr.checkKey, run_underlying hu]
theorem run_findKey {kt : TypeId} {d : TypeDesc} (hu : P.underlying kt = some d) {k : Value} {es : List MapEntry} {r} (h : Instr.findNow d k es 0 = some r) (w : World) : (Instr.findKey kt k es).run P w = .ok r w := by
  simp [Instr.findKey, run_underlying hu, h]
/-- Reading a map. -/
def aFound (P : Program) (elem : TypeId) (ok : Bool) : Option (Option (Nat × Value)) → Option Value
  | some (some (_, v)) => some (if ok then .tuple ⟨[v, .bool true]⟩ else v)
  | some none => match P.info? elem with
    | some i => match i.zero with
      | some z => if gr z then some (if ok then .tuple ⟨[z, .bool false]⟩ else z) else none
      | none => none
    | none => none
  | none => none
def aMapGet (P : Program) (H : Heap) (t : TypeId) (x ix : Value) (ok : Bool) : Option Value :=
  match P.underlying t, x with
  | some (.map kt elem), .map (some b) =>
    match P.underlying kt, H.get b with
    | some d, some (.map es _) => if plainK d = true ∧ ground ix = true then aFound P elem ok (Instr.findNow d ix es 0) else none
    | _, _ => none
  | some (.map kt elem), .map none =>
    match P.underlying kt with
    | some d => if plainK d = true ∧ ground ix = true then aFound P elem ok (some none) else none
    | none => none
  | _, _ => none
theorem aFound_run {elem : TypeId} {ok : Bool} {r : Option (Nat × Value)} {v : Value} (h : aFound P elem ok (some r) = some v) {r' : Option (Nat × Value)} (h1 : r = none → r' = none) (h2 : ∀ i v, r = some (i, v) → ∃ v', r' = some (i, v') ∧ VRel ρ v v') (w : World) :
    ∃ v', (do
      let (v, ok') ← match r' with
        | some (_, v) => pure (v, true)
        | none => pure (← zeroValue elem, false)
      pure (if ok then .tuple #[v, .bool ok'] else v) : Sem Value).run P w = .ok v' w ∧ VRel ρ v v' := by
  cases r with
  | none =>
    rw [h1 rfl]
    simp only [aFound] at h
    split at h
    · rename_i i hi
      split at h
      · rename_i z hz
        split at h
        · rename_i hg
          injection h with h
          subst h
          cases ok
          · exact ⟨z, by simp [zeroValue, typeInfo, hi, hz], .of_gr hg⟩
          · exact ⟨.tuple ⟨[z, .bool false]⟩, by simp [zeroValue, typeInfo, hi, hz], .tuple (.cons (.of_gr hg) (.cons (.ground rfl) .nil))⟩
        · cases h
      · cases h
    · cases h
  | some p =>
    obtain ⟨i, u⟩ := p
    obtain ⟨v', e, hv⟩ := h2 i u rfl
    subst e
    simp only [aFound, Option.some.injEq] at h
    subst h
    cases ok
    · exact ⟨v', by simp, hv⟩
    · exact ⟨.tuple ⟨[v', .bool true]⟩, by simp, .tuple (.cons hv (.cons (.ground rfl) .nil))⟩
theorem aMapGet_run (hR : HRel P ρ H w) {t : TypeId} {x ix x' ix' v : Value} {ok : Bool} (h : aMapGet P H t x ix ok = some v) (hx : VRel ρ x x') (hi : VRel ρ ix ix') :
    ∃ v', (Instr.lookup t x' ix' ok).run P w = .ok v' w ∧ VRel ρ v v' := by
  unfold aMapGet at h
  split at h
  · rename_i kt elem b hu
    split at h
    · rename_i d es cl hk hg
      split at h
      · rename_i hp
        obtain ⟨L, hb, h0, rfl⟩ := hx.msome
        obtain ⟨es', h1, h2, h3, h4, h5⟩ := hR.maps b L es cl hb hg
        have e := hi.ground_eq hp.2
        subst e
        cases hf : Instr.findNow d ix' es 0 with
        | none => rw [hf] at h; cases h
        | some r =>
          rw [hf] at h
          obtain ⟨r', k1, k2, k3⟩ := findNow_rel (ρ := ρ) (es' := es'.toList) (by simpa using h4) (fun i e he => by
            obtain ⟨e', q1, q2, q3, q4, q5⟩ := h5 i e he
            exact ⟨e', by rw [Array.getElem?_toList]; exact q1, q3, q5⟩) hf
          obtain ⟨v', q1, q2⟩ := aFound_run h k2 k3 w
          refine ⟨v', ?_, q2⟩
          have c1 := run_checkKey (P := P) hk hp.1 es'.isEmpty ix' w
          have c2 := run_findKey (P := P) hk k1 w
          have c3 : (getObj L.blk).run P w = .ok (.map es' cl) w := by simp [getObj, Sem.run, h1]
          cases r' <;> simpa [Instr.lookup, run_underlying hu, c1, c2, c3] using q1
      · cases h
    · cases h
  · rename_i kt elem hu
    have e := hx.mnone
    subst e
    split at h
    · rename_i d hk
      split at h
      · rename_i hp
        have e := hi.ground_eq hp.2
        subst e
        obtain ⟨v', q1, q2⟩ := aFound_run (ρ := ρ) (r' := none) h (fun _ => rfl) (fun i v e => by cases e) w
        refine ⟨v', ?_, q2⟩
        have c1 := run_checkKey (P := P) hk hp.1 true ix' w
        have c2 := run_findKey (P := P) (k := ix') (es := []) hk (r := none) rfl w
        simpa [Instr.lookup, run_underlying hu, c1, c2] using q1
      · cases h
    · cases h
  · cases h
/-- Writing one. -/
def aMapSet (P : Program) (H : Heap) (t : TypeId) (x k v : Value) : Option Heap :=
  match P.underlying t, x with
  | some (.map kt _), .map (some b) =>
    match P.underlying kt, H.get b with
    | some d, some (.map es clock) =>
      if plainK d = true ∧ ground k = true then
        match Instr.findNow d k es 0 with
        | some (some (i, _)) => some (H.set b (.map (es.modify i fun e => { e with key := k, val := v }) clock))
        | some none => some (H.set b (.map (es ++ [{ key := k, val := v, born := clock }]) (clock + 1)))
        | none => none
      else none
    | _, _ => none
  | _, _ => none
theorem aMapSet_run (hR : HRel P ρ H w) {H' : Heap} {t : TypeId} {x k y x' k' y' : Value} (h : aMapSet P H t x k y = some H') (hx : VRel ρ x x') (hk' : VRel ρ k k') (hy : VRel ρ y y') :
    ∃ w', (Instr.mapUpdate t x' k' y').run P w = .ok () w' ∧ Ext P ρ H w ρ H' w' := by
  unfold aMapSet at h
  split at h
  · rename_i kt elem b hu
    split at h
    · rename_i d es cl hk hg
      split at h
      · rename_i hp
        obtain ⟨L, hb, h0, rfl⟩ := hx.msome
        obtain ⟨es', h1, h2, h3, h4, h5⟩ := hR.maps b L es cl hb hg
        have e := hk'.ground_eq hp.2
        subst e
        have c1 := run_checkKey (P := P) hk hp.1 false k' w
        have c3 : (getObj L.blk).run P w = .ok (.map es' cl) w := by simp [getObj, Sem.run, h1]
        have c4 : ∀ o, (setObj L.blk o).run P w = .ok () (w.putObj L.blk o) := fun o => by simp [setObj, Sem.run, h1, World.putObj]
        have hl : es.length = es'.toList.length := by simpa using h4
        have he : ∀ (i : Nat) (e : MapEntry), es[i]? = some e → ∃ e' : MapEntry, es'.toList[i]? = some e' ∧ e'.key = e.key ∧ VRel ρ e.val e'.val := fun i e he => by
          obtain ⟨e', q1, q2, q3, q4, q5⟩ := h5 i e he
          exact ⟨e', by rw [Array.getElem?_toList]; exact q1, q3, q5⟩
        split at h
        · rename_i i u hf
          injection h with h
          subst h
          obtain ⟨r', k1, k2, k3⟩ := findNow_rel (ρ := ρ) hl he hf
          obtain ⟨u', rfl, hu'⟩ := k3 i u rfl
          have c2 := run_findKey (P := P) hk k1 w
          obtain ⟨j, e, e0, ej, es1, _⟩ := findNow_at hf
          rw [Nat.zero_add] at e0
          subst e0
          obtain ⟨e', q1, q2, q3, q4, q5⟩ := h5 i e ej
          obtain ⟨rfl, sb⟩ := sameNow_true es1
          refine ⟨w.putObj L.blk (.map (es'.modify i fun e' => { e' with key := e.key, val := y' }) cl), ?_, ?_⟩
          · have c5 : (Instr.keyThatStays e.key e.key).run P w = .ok e.key w := by simp [Instr.keyThatStays, sb]
            simp [Instr.mapUpdate, run_underlying hu, c1, c2, c3, q1, q3, c5, c4]
          · refine Ext.setMap hR hb hg ⟨by simp [h4], fun j x hj => ?_⟩
            rw [List.getElem?_modify] at hj
            rw [Array.getElem?_modify]
            by_cases hij : i = j
            · subst hij
              rw [ej] at hj
              simp only [if_pos, Option.map_eq_map, Option.map_some, Option.some.injEq] at hj
              subst hj
              exact ⟨{ e' with key := e.key, val := y' }, by simp [q1], hp.2, rfl, q4, hy⟩
            · cases hx : es[j]? with
              | none => simp [hx] at hj
              | some x0 =>
                rw [hx] at hj
                simp only [if_neg hij, Option.map_eq_map, Option.map_some, Option.some.injEq] at hj
                subst hj
                obtain ⟨e2, p1, p2, p3, p4, p5⟩ := h5 j x0 hx
                exact ⟨e2, by rw [if_neg hij]; exact p1, p2, p3, p4, p5⟩
        · rename_i hf
          injection h with h
          subst h
          obtain ⟨r', k1, k2, k3⟩ := findNow_rel (ρ := ρ) hl he hf
          have := k2 rfl
          subst this
          have c2 := run_findKey (P := P) hk k1 w
          refine ⟨w.putObj L.blk (.map (es'.push { key := k', val := y', born := cl }) (cl + 1)), ?_, ?_⟩
          · simp [Instr.mapUpdate, run_underlying hu, c1, c2, c3, c4]
          · refine Ext.setMap hR hb hg ⟨by simp [h4], fun j x hj => ?_⟩
            rcases Nat.lt_trichotomy j es.length with hlt | heq | hgt
            · rw [List.getElem?_append_left hlt] at hj
              obtain ⟨e2, p1, p2, p3, p4, p5⟩ := h5 j x hj
              exact ⟨e2, by rw [Array.getElem?_push, if_neg (by omega)]; exact p1, p2, p3, p4, p5⟩
            · subst heq
              rw [List.getElem?_append_right (Nat.le_refl _), Nat.sub_self] at hj
              simp only [List.getElem?_cons_zero, Option.some.injEq] at hj
              subst hj
              exact ⟨{ key := k', val := y', born := cl }, by rw [Array.getElem?_push, if_pos h4], hp.2, rfl, rfl, hy⟩
            · rw [List.getElem?_eq_none (by simp; omega)] at hj
              cases hj
        · cases h
      · cases h
    · cases h
  · cases h
end Go.Abs

/- All operations that call no function. -/
namespace Go.Abs
open Go

inductive Kind where
  | pure | read | new | eff
  deriving DecidableEq

def isSliceT (P : Program) (t : TypeId) : Bool :=
  match P.underlying t with
  | some (.slice _) => true
  | _ => false

def kindOf (P : Program) : Op → Kind
  | .load .. | .slice .. | .lookup .. => .read
  | .convert src _ _ => if isSliceT P src then .read else .pure
  | .alloc _ | .box .. | .buildSlice .. | .makeSlice .. => .new
  | .store .. => .eff
  | .call { callee := .builtin .len, .. } | .call { callee := .builtin .max, .. } | .call { callee := .builtin .min, .. } => .pure
  | .call _ => .eff
  | .move _ | .assign _ | .pick .. | .nilCheck _ | .binOp .. | .unOp .. | .makeFunc .. | .fieldAddr .. | .field .. | .indexAddr .. | .index .. | .extract .. | .build .. => .pure
  | _ => .eff

/-- Is what a type's zero value holds free of addresses? -/
def zeroOk (P : Program) (t : TypeId) : Bool :=
  match P.info? t with
  | some i => match i.zero with
    | some z => z.cells.toList.all ground
    | none => true
  | none => true

/-- The value of an operation that looks at no memory. -/
def aPure (P : Program) (e : Env) (o : Oper) : Option Value :=
  match o.op with
  | .move x | .assign x => e x
  | .pick c a b => match e c with
    | some (.bool t) => e (if t then a else b)
    | _ => none
  | .nilCheck x => (e x).bind aNilCheck
  | .binOp op t x y _ => match e x, e y with
    | some a, some b => aBin P op t x y a b
    | _, _ => none
  | .unOp op _ x => match e x with
    | some a => if gr a then scal P (Op.unary op a) else none
    | none => none
  | .convert src dst x => match e x with
    | some a => if gr a then scal P (convert src dst a) else none
    | none => none
  | .makeFunc fn first cap => match evs e first.toList, evs e cap.toList with
    | some xs, some ys => some (.func fn ⟨xs⟩ ⟨ys⟩)
    | _, _ => none
  | .fieldAddr s x f => (e x).bind fun a => aFieldAddr P s a f
  | .field t x f => (e x).bind fun a => aField P t a f
  | .indexAddr t x i => match e x, e i with
    | some a, some b => aIndexAddr P t a b
    | _, _ => none
  | .index t x i => match e x, e i with
    | some a, some b => aIndex P t a b
    | _, _ => none
  | .extract t i => (e t).bind fun a => aExtract a i
  | .build t parts => match evps e parts.toList with
    | some ps => if zeroOk P t then (P.built t ps).map .agg else none
    | none => none
  | .call { callee := .builtin .len, args, argTypes } => match argTypes[0]?, evs e args.toList with
    | some t, some [.slice _ n _] => if isSliceT P t then some (goInt n) else none
    | some t, some [.string s] => match P.underlying t with
      | some .string => some (goInt s.size)
      | _ => none
    | some t, some [.iface f (.agg l)] => if isSliceT P t then (fzParts f l.toList).map fun p => goInt p.1 else none
    | _, _ => none
  | .call { callee := .builtin .max, args, argTypes } => match evs e args.toList with
    | some vs => if vs.all gr then scal P (Builtin.max_ argTypes o.type ⟨vs⟩) else none
    | none => none
  | .call { callee := .builtin .min, args, argTypes } => match evs e args.toList with
    | some vs => if vs.all gr then scal P (Builtin.min_ argTypes o.type ⟨vs⟩) else none
    | none => none
  | _ => none

/-- The value of an operation that reads memory. -/
def aRead (P : Program) (e : Env) (H : Heap) (o : Oper) : Option Value :=
  match o.op with
  | .load t x => (e x).bind fun a => aLoad P H t a
  | .slice t x lo hi mx => match e x, lo.mapM e, hi.mapM e with
    | some a, some l, some h => if mx.isNone then aSlice P H t a l h none else none
    | _, _, _ => none
  | .convert src dst x => (e x).bind fun a => aBytes P H src dst a
  | .lookup t x ix ok => match e x, e ix with
    | some a, some b => aMapGet P H t a b ok
    | _, _ => none
  | _ => none

/-- What an operation that writes memory leaves. -/
def aEff (P : Program) (e : Env) (H : Heap) (o : Oper) : Option (Value × Heap) :=
  match o.op with
  | .store t x y => match e x, e y with
    | some a, some b => (aStore P H t a b).map fun H' => (undef, H')
    | _, _ => none
  | .call { callee := .builtin .append, args, argTypes } => match evs e args.toList with
    | some [s, x] => aAppend P H argTypes s x
    | _ => none
  | .makeMap _ none => some (.map (some H.next), H.push (.map [] 0))
  | .makeMap t (some q) => match P.underlying t, e q with
    | some (.map _ _), some (.int _ _) => some (.map (some H.next), H.push (.map [] 0))
    | _, _ => none
  | .insert t m k x | .mapUpdate t m k x => match e m, e k, e x with
    | some a, some b, some c => (aMapSet P H t a b c).map fun H' => (undef, H')
    | _, _, _ => none
  | _ => none

theorem VRels.gr_eq {ρ : Ren} : ∀ {vs vs' : List Value}, VRels ρ vs vs' → vs.all gr = true → vs' = vs
  | _, _, .nil, _ => rfl
  | _, _, .cons h hs, hg => by
    simp at hg
    rw [h.gr_eq hg.1, VRels.gr_eq hs (by simpa using hg.2)]

theorem built_rel {P : Program} {ρ : Ren} {t : TypeId} {ps ps' : List (Nat × Value)} {cs : Array Value} (h : P.built t ps = some cs) (hp : PRel ρ ps ps')
    (hz : ∀ i, P.info? t = some i → ∀ z, i.zero = some z → z.cells.toList.all ground = true) : ∃ cs', P.built t ps' = some cs' ∧ VRels ρ cs.toList cs'.toList := by
  unfold Program.built at h ⊢
  cases hi : P.info? t with
  | none => simp [hi] at h
  | some it =>
    cases hu : P.underlying t with
    | none => simp [hi, hu] at h
    | some d =>
      cases hz' : it.zero with
      | none => cases d <;> simp [hi, hu, hz'] at h
      | some z =>
        have hzg := VRels.ground (ρ := ρ) _ (hz it hi z hz')
        cases d with
        | array n e =>
          cases hie : P.info? e with
          | none => simp [hi, hu, hz', hie] at h
          | some ie =>
            simp only [hi, hu, hz', hie] at h ⊢
            exact fill_rel _ hp hzg h
        | struct fields =>
          cases hpl : fields.toList.mapM (fun f => (P.info? f.type).map fun i => (f.offset, i.size)) with
          | none => simp [hi, hu, hz', hpl] at h
          | some places =>
            simp only [hi, hu, hz', hpl] at h ⊢
            exact fill_rel _ hp hzg h
        | _ => simp [hi, hu] at h

theorem zeroOk_spec {P : Program} {t : TypeId} (h : zeroOk P t = true) : ∀ i, P.info? t = some i → ∀ z, i.zero = some z → z.cells.toList.all ground = true := by
  intro i hi z hz
  simpa [zeroOk, hi, hz] using h

theorem aNilCheck_run {P : Program} {x v : Value} (h : aNilCheck x = some v) {ρ : Ren} {x' : Value} (hx : VRel ρ x x') (w : World) {o : Oper} {y : Operand} (ho : o.op = .nilCheck y) {c : Operand → Value} (hc : c y = x') :
    (execOp c o).run P w = .ok (.value x') w ∧ VRel ρ v x' := by
  unfold aNilCheck at h
  split at h
  · injection h with h; subst h
    obtain ⟨b, off, L, rfl, h1, rfl⟩ := hx.psome
    exact ⟨by simp [execOp, ho, hc], hx⟩
  · cases h
  · rename_i f xs ys hne
    injection h with h; subst h
    obtain ⟨xs', ys', rfl, _, _⟩ := hx.func
    refine ⟨?_, hx⟩
    cases f <;> first | (exact (hne _ rfl).elim) | simp [execOp, ho, hc]
  · split at h
    · cases h
    rename_i hne
    injection h with h; subst h
    cases hx with
    | ground h => simp [Abs.ground] at h
    | iface h1 h2 h => exact ⟨by simp [execOp, ho, hc], .iface h1 h2 h⟩
    | fz => exact absurd rfl hne
    | fznil => exact absurd rfl hne
    | fzvoid => exact absurd rfl hne
    | fp h hf hb hcc => exact ⟨by simp [execOp, ho, hc], .fp h hf hb hcc⟩
  · cases h

/-- The machine's answer to an operation that looks at no memory. -/
theorem aPure_run {P : Program} {e : Env} {o : Oper} {v : Value} (h : aPure P e o = some v) {ρ : Ren} {c : Operand → Value} (hr : ERel ρ o.op.operands.toList e c) (w : World) :
    ∃ v', (execOp c o).run P w = .ok (.value v') w ∧ VRel ρ v v' := by
  unfold aPure at h
  split at h
  · rename_i x ho
    exact ⟨c x, by simp [execOp, ho], hr x (by simp [ho, Op.operands]) v h⟩
  · rename_i x ho
    exact ⟨c x, by simp [execOp, ho], hr x (by simp [ho, Op.operands]) v h⟩
  · rename_i q a b ho
    split at h
    · rename_i t hq
      have hb := (hr q (by simp [ho, Op.operands]) _ hq).bool
      cases t
      · exact ⟨c b, by simp [execOp, ho, hb, asBool], hr b (by simp [ho, Op.operands]) v (by simpa using h)⟩
      · exact ⟨c a, by simp [execOp, ho, hb, asBool], hr a (by simp [ho, Op.operands]) v (by simpa using h)⟩
    · cases h
  · rename_i x ho
    cases hx : e x with
    | none => rw [hx] at h; cases h
    | some a =>
      rw [hx] at h
      obtain ⟨h1, h2⟩ := aNilCheck_run (P := P) h (hr x (by simp [ho, Op.operands]) a hx) w ho rfl
      exact ⟨_, h1, h2⟩
  · rename_i op t x y yt ho
    split at h
    · rename_i a b ha hb
      obtain ⟨v', h1, h2⟩ := aBin_run h (hr x (by simp [ho, Op.operands]) a ha) (hr y (by simp [ho, Op.operands]) b hb) w
      exact ⟨v', by simp only [execOp, ho]; exact run_value h1, h2⟩
    · cases h
  · rename_i op t x ho
    split at h
    · rename_i a ha
      split at h
      · rename_i hg
        obtain ⟨h1, h2⟩ := scal_run h w
        refine ⟨v, ?_, .of_gr h2⟩
        simp only [execOp, ho]
        rw [(hr x (by simp [ho, Op.operands]) a ha).gr_eq hg]
        exact run_value h1
      · cases h
    · cases h
  · rename_i src dst x ho
    split at h
    · rename_i a ha
      split at h
      · rename_i hg
        obtain ⟨h1, h2⟩ := scal_run h w
        refine ⟨v, ?_, .of_gr h2⟩
        simp only [execOp, ho]
        rw [(hr x (by simp [ho, Op.operands]) a ha).gr_eq hg]
        exact run_value h1
      · cases h
    · cases h
  · rename_i fn first cap ho
    split at h
    · rename_i xs ys hx hy
      injection h with h; subst h
      have h1 := evs_rel (ρ := ρ) (c := c) (fun x hx => hr x (by simp only [ho, Op.operands, Array.toList_append, List.mem_append]; exact .inl hx)) hx
      have h2 := evs_rel (ρ := ρ) (c := c) (fun x hx => hr x (by simp only [ho, Op.operands, Array.toList_append, List.mem_append]; exact .inr hx)) hy
      refine ⟨.func fn (first.map c) (cap.map c), ?_, ?_⟩
      · simp only [execOp, ho]; exact run_value rfl
      · obtain ⟨l1⟩ := first; obtain ⟨l2⟩ := cap
        simp only [List.map_toArray]
        exact .fn h1 h2
    · cases h
  · rename_i s x f ho
    cases hx : e x with
    | none => rw [hx] at h; cases h
    | some a =>
      rw [hx] at h
      obtain ⟨v', h1, h2⟩ := aFieldAddr_run h (hr x (by simp [ho, Op.operands]) a hx) w
      exact ⟨v', by simp only [execOp, ho]; exact run_value h1, h2⟩
  · rename_i t x f ho
    cases hx : e x with
    | none => rw [hx] at h; cases h
    | some a =>
      rw [hx] at h
      obtain ⟨v', h1, h2⟩ := aField_run h (hr x (by simp [ho, Op.operands]) a hx) w
      exact ⟨v', by simp only [execOp, ho]; exact run_value h1, h2⟩
  · rename_i t x i ho
    split at h
    · rename_i a b ha hb
      obtain ⟨v', h1, h2⟩ := aIndexAddr_run h (hr x (by simp [ho, Op.operands]) a ha) (hr i (by simp [ho, Op.operands]) b hb) w
      exact ⟨v', by simp only [execOp, ho]; exact run_value h1, h2⟩
    · cases h
  · rename_i t x i ho
    split at h
    · rename_i a b ha hb
      obtain ⟨v', h1, h2⟩ := aIndex_run h (hr x (by simp [ho, Op.operands]) a ha) (hr i (by simp [ho, Op.operands]) b hb) w
      exact ⟨v', by simp only [execOp, ho]; exact run_value h1, h2⟩
    · cases h
  · rename_i t i ho
    cases hx : e t with
    | none => rw [hx] at h; cases h
    | some a =>
      rw [hx] at h
      obtain ⟨v', h1, h2⟩ := aExtract_run (P := P) h (hr t (by simp [ho, Op.operands]) a hx) w
      exact ⟨v', by simp only [execOp, ho]; exact run_value h1, h2⟩
  · rename_i t parts ho
    split at h
    · rename_i ps hps
      split at h
      · rename_i hz
        cases hb : P.built t ps with
        | none => rw [hb] at h; cases h
        | some cs =>
          rw [hb] at h
          injection h with h; subst h
          have hp := evps_rel (ρ := ρ) (c := c) (by intro x hx; exact hr x (by simpa [ho, Op.operands] using hx)) hps
          obtain ⟨cs', h1, h2⟩ := built_rel hb hp (zeroOk_spec hz)
          refine ⟨.agg cs', ?_, ?_⟩
          · simp only [execOp, ho]
            refine run_value (run_build w t _ cs' ?_)
            simpa using h1
          · obtain ⟨l⟩ := cs; obtain ⟨l'⟩ := cs'; exact .agg h2
      · cases h
    · cases h
  · rename_i args ats ho
    have hvs : ∀ vs, evs e args.toList = some vs → VRels ρ vs (args.toList.map c) := fun vs hv =>
      evs_rel (fun x hx => hr x (by simp only [ho, Op.operands, Call.operands, Array.toList_append, List.mem_append]; exact .inr hx)) hv
    have hmap : args.map c = ⟨args.toList.map c⟩ := by obtain ⟨l⟩ := args; simp
    split at h
    · rename_i t a n cc ht hv
      split at h
      · rename_i hs
        injection h with h; subst h
        have hv' := hvs _ hv
        generalize args.toList.map c = l at hv' hmap
        cases hv' with
        | cons h1 h2 =>
          cases h2
          rename_i x'
          have hx : ∃ a' c', x' = .slice a' n c' := by
            cases a with
            | none => exact ⟨_, _, h1.snone⟩
            | some a => obtain ⟨a', c', e⟩ := h1.sform; exact ⟨_, _, e⟩
          obtain ⟨a', c', rfl⟩ := hx
          refine ⟨goInt n, ?_, .ground rfl⟩
          simp only [execOp, ho, resolve, hmap, Sem.run_bind, Sem.run_pure, Result.andThen_ok, invoke, builtin]
          have hu : ∃ e, P.underlying t = some (.slice e) := by
            unfold isSliceT at hs
            split at hs
            · exact ⟨_, ‹_›⟩
            · cases hs
          obtain ⟨e', hu⟩ := hu
          simp [Builtin.len_, ht, run_underlying hu]
      · cases h
    · rename_i t s ht hv
      split at h
      · rename_i hu
        injection h with h; subst h
        have hv' := hvs _ hv
        generalize args.toList.map c = l at hv' hmap
        cases hv' with
        | cons h1 h2 =>
          cases h2
          rw [h1.string] at hmap
          refine ⟨goInt s.size, ?_, .ground rfl⟩
          simp only [execOp, ho, resolve, hmap, Sem.run_bind, Sem.run_pure, Result.andThen_ok, invoke, builtin]
          simp [Builtin.len_, ht, run_underlying hu]
      · cases h
    · rename_i t f l ht hv
      split at h
      · rename_i hs
        cases hp : fzParts f l.toList with
        | none => rw [hp] at h; cases h
        | some p =>
          obtain ⟨n, cells⟩ := p
          rw [hp] at h
          simp only [Option.map_some, Option.some.injEq] at h
          subst h
          obtain ⟨rfl, hq⟩ := fzParts_some hp
          obtain ⟨l⟩ := l
          simp only at hq
          subst hq
          have hv' := hvs _ hv
          generalize args.toList.map c = l at hv' hmap
          cases hv' with
          | cons h1 h2 =>
            cases h2
            rename_i x'
            have hx : ∃ a' c', x' = .slice a' n c' := by
              rcases h1.frozen with ⟨b, off, L, cs, c', _, _, _, _, _, rfl⟩ | ⟨rfl, _, rfl⟩ | ⟨rfl, _, a, c, rfl⟩ <;> exact ⟨_, _, rfl⟩
            obtain ⟨a', c', rfl⟩ := hx
            refine ⟨goInt n, ?_, .ground rfl⟩
            simp only [execOp, ho, resolve, hmap, Sem.run_bind, Sem.run_pure, Result.andThen_ok, invoke, builtin]
            have hu : ∃ e, P.underlying t = some (.slice e) := by
              unfold isSliceT at hs
              split at hs
              · exact ⟨_, ‹_›⟩
              · cases hs
            obtain ⟨e', hu⟩ := hu
            simp [Builtin.len_, ht, run_underlying hu]
      · cases h
    · cases h
  · rename_i args ats ho
    have hvs : ∀ vs, evs e args.toList = some vs → VRels ρ vs (args.toList.map c) := fun vs hv =>
      evs_rel (fun x hx => hr x (by simp only [ho, Op.operands, Call.operands, Array.toList_append, List.mem_append]; exact .inr hx)) hv
    have hmap : args.map c = ⟨args.toList.map c⟩ := by obtain ⟨l⟩ := args; simp
    split at h
    · rename_i vs hv
      split at h
      · rename_i hg
        obtain ⟨h1, h2⟩ := scal_run h w
        refine ⟨v, ?_, .of_gr h2⟩
        rw [(hvs vs hv).gr_eq hg] at hmap
        simp only [execOp, ho, resolve, hmap, Sem.run_bind, Sem.run_pure, Result.andThen_ok, invoke, builtin, h1]
      · cases h
    · cases h
  · rename_i args ats ho
    have hvs : ∀ vs, evs e args.toList = some vs → VRels ρ vs (args.toList.map c) := fun vs hv =>
      evs_rel (fun x hx => hr x (by simp only [ho, Op.operands, Call.operands, Array.toList_append, List.mem_append]; exact .inr hx)) hv
    have hmap : args.map c = ⟨args.toList.map c⟩ := by obtain ⟨l⟩ := args; simp
    split at h
    · rename_i vs hv
      split at h
      · rename_i hg
        obtain ⟨h1, h2⟩ := scal_run h w
        refine ⟨v, ?_, .of_gr h2⟩
        rw [(hvs vs hv).gr_eq hg] at hmap
        simp only [execOp, ho, resolve, hmap, Sem.run_bind, Sem.run_pure, Result.andThen_ok, invoke, builtin, h1]
      · cases h
    · cases h
  · cases h

theorem mapM_rel {ρ : Ren} {e : Env} {c : Operand → Value} : ∀ {x : Option Operand} {v : Option Value}, x.mapM e = some v → (∀ y, x = some y → ∀ u, e y = some u → VRel ρ u (c y)) →
    (∀ u, v = some u → ∃ u', x.map c = some u' ∧ VRel ρ u u') ∧ (v = none → x.map c = none)
  | none, v, h, _ => by
    simp at h; subst h
    exact ⟨(fun u h => by cases h), fun _ => rfl⟩
  | some y, v, h, hr => by
    cases hy : e y with
    | none => simp [Option.mapM, hy] at h
    | some u =>
      simp [Option.mapM, hy] at h
      subst h
      exact ⟨(fun u' h => by injection h with h; subst h; exact ⟨_, rfl, hr y rfl _ hy⟩), (fun h => by cases h)⟩

/-- The machine's answer to an operation that reads memory. -/
theorem aRead_run {P : Program} {e : Env} {o : Oper} {v : Value} {H : Heap} (h : aRead P e H o = some v) {ρ : Ren} {w : World} (hR : HRel P ρ H w) {c : Operand → Value} (hr : ERel ρ o.op.operands.toList e c) :
    ∃ v', (execOp c o).run P w = .ok (.value v') w ∧ VRel ρ v v' := by
  unfold aRead at h
  split at h
  · rename_i t x ho
    cases hx : e x with
    | none => rw [hx] at h; cases h
    | some a =>
      rw [hx] at h
      obtain ⟨v', h1, h2⟩ := aLoad_run hR h (hr x (by simp [ho, Op.operands]) a hx)
      exact ⟨v', by simp only [execOp, ho]; exact run_value h1, h2⟩
  · rename_i t x lo hi mx ho
    split at h
    · rename_i a l u hx hl hh
      split at h
      · rename_i hm
        have hmx : mx = none := by simpa using hm
        subst hmx
        have r1 := mapM_rel (c := c) (ρ := ρ) hl (fun y hy u' hu => hr y (by simp [ho, Op.operands, hy]) u' hu)
        have r2 := mapM_rel (c := c) (ρ := ρ) hh (fun y hy u' hu => hr y (by simp [ho, Op.operands, hy]) u' hu)
        obtain ⟨v', h1, h2⟩ := aSlice_run hR h (hr x (by simp [ho, Op.operands]) a hx) r1 r2 (mx' := none) (fun _ => rfl)
        exact ⟨v', by simp only [execOp, ho]; exact run_value h1, h2⟩
      · cases h
    · cases h
  · rename_i src dst x ho
    cases hx : e x with
    | none => rw [hx] at h; cases h
    | some a =>
      rw [hx] at h
      obtain ⟨v', h1, h2⟩ := aBytes_run hR h (hr x (by simp [ho, Op.operands]) a hx)
      exact ⟨v', by simp only [execOp, ho]; exact run_value h1, h2⟩
  · rename_i t x ix ok ho
    split at h
    · rename_i a b ha hb
      obtain ⟨v', h1, h2⟩ := aMapGet_run hR h (hr x (by simp [ho, Op.operands]) a ha) (hr ix (by simp [ho, Op.operands]) b hb)
      exact ⟨v', by simp only [execOp, ho]; exact run_value h1, h2⟩
    · cases h
  · cases h

/-- The machine's answer to an operation that writes memory. -/
theorem aEff_run {P : Program} {e : Env} {o : Oper} {v : Value} {H H' : Heap} (h : aEff P e H o = some (v, H')) {ρ : Ren} {w : World} (hR : HRel P ρ H w) {c : Operand → Value} (hr : ERel ρ o.op.operands.toList e c) :
    ∃ ρ' w' n v', (execOp c o).run P w = .ok n w' ∧ (n = .value v' ∨ (n = .skip ∧ v' = undef)) ∧ Ext P ρ H w ρ' H' w' ∧ VRel ρ' v v' := by
  unfold aEff at h
  split at h
  · rename_i t x y ho
    split at h
    · rename_i a b ha hb
      cases hs : aStore P H t a b with
      | none => rw [hs] at h; cases h
      | some H1 =>
        rw [hs] at h
        simp only [Option.map_some, Option.some.injEq, Prod.mk.injEq] at h
        obtain ⟨rfl, rfl⟩ := h
        obtain ⟨w', h1, h2⟩ := aStore_run hR hs (hr x (by simp [ho, Op.operands]) a ha) (hr y (by simp [ho, Op.operands]) b hb)
        refine ⟨ρ, w', .skip, undef, ?_, .inr ⟨rfl, rfl⟩, h2, .tuple .nil⟩
        simp [execOp, ho, h1]
    · cases h
  · rename_i args ats ho
    split at h
    · rename_i s x hv
      have hv' := evs_rel (ρ := ρ) (c := c) (fun x hx => hr x (by simp only [ho, Op.operands, Call.operands, Array.toList_append, List.mem_append]; exact .inr hx)) hv
      have hmap : args.map c = ⟨args.toList.map c⟩ := by obtain ⟨l⟩ := args; simp
      generalize args.toList.map c = l at hv' hmap
      cases hv' with
      | cons h1 h2 =>
        cases h2 with
        | cons h2 h3 =>
          cases h3
          obtain ⟨ρ', w', v', g1, g2, g3⟩ := aAppend_run (ty := o.type) hR h h1 h2
          refine ⟨ρ', w', .value v', v', ?_, .inl rfl, g2, g3⟩
          simp only [execOp, ho, resolve, hmap, Sem.run_bind, Sem.run_pure, Result.andThen_ok, invoke, builtin]
          rw [show (⟨[_, _]⟩ : Array Value) = #[_, _] from rfl, g1]
          rfl
    · cases h
  · rename_i t ho
    simp only [Option.some.injEq, Prod.mk.injEq] at h
    obtain ⟨rfl, rfl⟩ := h
    refine ⟨_, _, .value (.map (some w.heap.size)), .map (some w.heap.size), ?_, .inl rfl, Ext.allocMap hR _ rfl, .mp (Ren.add_self _ _ _) rfl⟩
    simp [execOp, ho, Instr.makeMap, newObj, Sem.run]
  · rename_i t q ho
    split at h
    · rename_i ku eu k n hu hq
      simp only [Option.some.injEq, Prod.mk.injEq] at h
      obtain ⟨rfl, rfl⟩ := h
      have hq' := (hr q (by simp [ho, Op.operands]) _ hq).int
      refine ⟨_, _, .value (.map (some w.heap.size)), .map (some w.heap.size), ?_, .inl rfl, Ext.allocMap hR _ rfl, .mp (Ren.add_self _ _ _) rfl⟩
      simp [execOp, ho, Instr.makeMap, newObj, run_underlying hu, hq', asInt, asIntOf, Sem.run]
    · cases h
  · rename_i t m k x ho
    split at h
    · rename_i a b c' ha hb hc
      cases hs : aMapSet P H t a b c' with
      | none => rw [hs] at h; cases h
      | some H1 =>
        rw [hs] at h
        simp only [Option.map_some, Option.some.injEq, Prod.mk.injEq] at h
        obtain ⟨rfl, rfl⟩ := h
        obtain ⟨w', h1, h2⟩ := aMapSet_run hR hs (hr m (by simp [ho, Op.operands]) a ha) (hr k (by simp [ho, Op.operands]) b hb) (hr x (by simp [ho, Op.operands]) c' hc)
        refine ⟨ρ, w', .skip, undef, ?_, .inr ⟨rfl, rfl⟩, h2, .tuple .nil⟩
        simp [execOp, ho, h1]
    · cases h
  · rename_i t m k x ho
    split at h
    · rename_i a b c' ha hb hc
      cases hs : aMapSet P H t a b c' with
      | none => rw [hs] at h; cases h
      | some H1 =>
        rw [hs] at h
        simp only [Option.map_some, Option.some.injEq, Prod.mk.injEq] at h
        obtain ⟨rfl, rfl⟩ := h
        obtain ⟨w', h1, h2⟩ := aMapSet_run hR hs (hr m (by simp [ho, Op.operands]) a ha) (hr k (by simp [ho, Op.operands]) b hb) (hr x (by simp [ho, Op.operands]) c' hc)
        refine ⟨ρ, w', .skip, undef, ?_, .inr ⟨rfl, rfl⟩, h2, .tuple .nil⟩
        simp [execOp, ho, h1]
    · cases h
  · cases h

/-! ### loops under way stay -/
theorem aStore_gh {P : Program} {H H' : Heap} {t : TypeId} {x v : Value} (h : aStore P H t x v = some H') : H'.gh = H.gh := by
  unfold aStore at h
  repeat' split at h
  all_goals first
    | cases h; done
    | (injection h with h; subst h; rfl)
theorem aApp_gh {P : Program} {H H' : Heap} {el : TypeId} {bytes : Nat} {news : List Value} {m : Nat} {base : Option Addr} {n c : Nat} {v : Value} (h : aApp P H el bytes news m base n c = some (v, H')) : H'.gh = H.gh := by
  unfold aApp at h
  repeat' split at h
  all_goals first
    | cases h; done
    | (simp only [Option.some.injEq, Prod.mk.injEq] at h; obtain ⟨_, rfl⟩ := h; rfl)
theorem aAppend_gh {P : Program} {H H' : Heap} {ats : Array TypeId} {s x v : Value} (h : aAppend P H ats s x = some (v, H')) : H'.gh = H.gh := by
  unfold aAppend at h
  repeat' split at h
  all_goals first
    | cases h; done
    | exact aApp_gh h
    | (unfold aMade at h
       repeat' split at h
       all_goals first
         | cases h; done
         | exact aApp_gh h)
theorem aMapSet_gh {P : Program} {H H' : Heap} {t : TypeId} {x k v : Value} (h : aMapSet P H t x k v = some H') : H'.gh = H.gh := by
  unfold aMapSet at h
  repeat' split at h
  all_goals first
    | cases h; done
    | (injection h with h; subst h; rfl)
theorem aEff_gh {P : Program} {e : Env} {o : Oper} {v : Value} {H H' : Heap} (h : aEff P e H o = some (v, H')) : H'.gh = H.gh := by
  unfold aEff at h
  repeat' split at h
  all_goals first
    | cases h; done
    | (simp only [Option.map_eq_some_iff, Prod.mk.injEq] at h; obtain ⟨_, hs, _, rfl⟩ := h; first | exact aStore_gh hs | exact aMapSet_gh hs)
    | exact aAppend_gh h
    | (simp only [Option.some.injEq, Prod.mk.injEq] at h; obtain ⟨_, rfl⟩ := h; rfl)
/-- The loops' records lie where they lay. -/
def Pins (ρ : Ren) (w : World) (gs : List Pin) : Prop :=
  (gs.map (·.l)).Nodup ∧ ∀ p ∈ gs, w.heap[p.l]? = some (.loop p.r) ∧ VRels ρ p.T p.r.tmps.toList ∧ ∀ b L, ρ b = some L → L.own = true → L.blk ≠ p.l
theorem Pins.nil {ρ : Ren} {w : World} : Pins ρ w [] := ⟨List.nodup_nil, fun _ h => by cases h⟩
theorem Pins.ext {P : Program} {ρ ρ' : Ren} {H H' : Heap} {w w' : World} {gs : List Pin} (h : Pins ρ w gs) (hE : Ext P ρ H w ρ' H' w') : Pins ρ' w' gs :=
  ⟨h.1, fun p hp => by
    obtain ⟨a, b, c⟩ := h.2 p hp
    have hlt := lt_of_heap a
    refine ⟨(hE.frame _ hlt c).trans a, b.mono hE.le, fun b0 L k1 k2 e => ?_⟩
    rcases hE.own b0 L k1 k2 with ⟨b1, L1, q1, q2, q3⟩ | q
    · exact c b1 L1 q1 q2 (q3.trans e)
    · omega⟩
/-- What an activation has to do as it leaves: to shut the blocks of its loops over functions. -/
def Marks (n0 : Nat) (ρ : Ren) (w : World) (ds : List Deferred) : Prop :=
  ∃ Ds : List Nat, ds = Ds.map (fun D => { target := .collected D, args := #[] }) ∧ Ds.Nodup ∧ ∀ D ∈ Ds, n0 ≤ D ∧ w.heap[D]? = some (.deferred (some [])) ∧ ∀ b L, ρ b = some L → L.own = true → L.blk ≠ D
theorem Marks.nil {n0 : Nat} {ρ : Ren} {w : World} : Marks n0 ρ w [] := ⟨[], rfl, List.nodup_nil, fun _ h => by cases h⟩
theorem Marks.ext {P : Program} {n0 : Nat} {ρ ρ' : Ren} {H H' : Heap} {w w' : World} {ds : List Deferred} (h : Marks n0 ρ w ds) (hE : Ext P ρ H w ρ' H' w') : Marks n0 ρ' w' ds := by
  obtain ⟨Ds, h1, h2, h3⟩ := h
  refine ⟨Ds, h1, h2, fun D hD => ?_⟩
  obtain ⟨a, b, c⟩ := h3 D hD
  have hlt := lt_of_heap b
  refine ⟨a, (hE.frame _ hlt c).trans b, fun b0 L k1 k2 e => ?_⟩
  rcases hE.own b0 L k1 k2 with ⟨b1, L1, q1, q2, q3⟩ | q
  · exact c b1 L1 q1 q2 (q3.trans e)
  · omega
/-- The fence that lets all in: in a round of a loop, or in none. -/
def wideR (ro : Option Nat) : Fence := { fn := fun _ => True, depth := none, alive := false, round := ro }
end Go.Abs

/- Triples over abstract states: calls, code. -/
namespace Go.Abs
open Go

def ob {α : Type} : Option α → (α → Prop) → Prop
  | some a, k => k a
  | none, _ => False

@[simp] theorem ob_some {α : Type} (a : α) (k : α → Prop) : ob (some a) k = k a := rfl
@[simp] theorem ob_none {α : Type} (k : α → Prop) : ob none k = False := rfl
theorem ob_iff {α : Type} {x : Option α} {k : α → Prop} : ob x k ↔ ∃ a, x = some a ∧ k a := by
  cases x <;> simp

abbrev Tm := List Value

def env (T : Tm) : Env
  | .tmp t => T[t]?
  | .const v => if gr v then some v else none
  | .global _ => none
  | .func f => some (.func (.func f) #[] #[])

theorem env_rel {ρ : Ren} {T : Tm} {a : Act} (h : VRels ρ T a.tmps.toList) (xs : List Operand) : ERel ρ xs (env T) a.eval := by
  intro x _ v hv
  cases x with
  | tmp t =>
    obtain ⟨v', h1, h2⟩ := h.get t v hv
    have : a.tmps[t]? = some v' := by rw [← Array.getElem?_toList]; exact h1
    simp only [Act.eval, Array.getD_eq_getD_getElem?, this]
    exact h2
  | const u =>
    simp only [env] at hv
    split at hv
    · rename_i hg; injection hv with hv; subst hv; exact .of_gr hg
    · cases hv
  | global g => cases hv
  | func f =>
    simp only [env] at hv
    injection hv with hv; subst hv
    exact .fn .nil .nil

def aPut (T : Tm) (dst : Option Tmp) (v : Value) : Tm :=
  match dst with
  | some d => T.set d v
  | none => T

theorem put_rel {ρ : Ren} {T : Tm} {a : Act} (h : VRels ρ T a.tmps.toList) (dst : Option Tmp) {v v' : Value} (hv : VRel ρ v v') : VRels ρ (aPut T dst v) (a.put dst v').tmps.toList := by
  cases dst with
  | none => exact h
  | some d => simpa [aPut, Act.put] using h.set d hv

theorem put_defers (a : Act) (dst : Option Tmp) (v : Value) : (a.put dst v).defers = a.defers := by cases dst <;> rfl

def aWanted (ops : Array Oper) (o : Oper) (T : Tm) : Option Bool :=
  match o.guard with
  | none => some true
  | some (j, want) =>
    match (ops[j]?).bind (·.dst) with
    | none => some false
    | some d =>
      match T[d]? with
      | some (.bool b) => some (b == want)
      | some (.tuple _) => some false
      | none => some false
      | _ => none

theorem wanted_rel {ρ : Ren} {T : Tm} {a : Act} (h : VRels ρ T a.tmps.toList) {ops : Array Oper} {o : Oper} {b : Bool} (hw : aWanted ops o T = some b) : Region.wanted o (yielded ops a.tmps) = b := by
  unfold aWanted at hw
  unfold Region.wanted
  split at hw
  · rename_i hg; injection hw with hw; subst hw; simp [hg]
  · rename_i j want hg
    simp only [hg]
    split at hw
    · rename_i hd; injection hw with hw; subst hw; simp [yielded, hd]
    · rename_i d hd
      simp only [yielded, hd, Option.bind_some]
      split at hw
      · rename_i t ht
        injection hw with hw; subst hw
        obtain ⟨v', h1, h2⟩ := h.get d _ ht
        have : a.tmps[d]? = some v' := by rw [← Array.getElem?_toList]; exact h1
        rw [this, h2.bool]
        cases t <;> cases want <;> rfl
      · rename_i vs ht
        injection hw with hw; subst hw
        obtain ⟨v', h1, h2⟩ := h.get d _ ht
        have : a.tmps[d]? = some v' := by rw [← Array.getElem?_toList]; exact h1
        obtain ⟨xs', e, _⟩ := h2.tup
        rw [this, e]
        rfl
      · rename_i ht
        injection hw with hw; subst hw
        have hlen := h.length
        have : a.tmps[d]? = none := by
          rw [← Array.getElem?_toList]
          rw [List.getElem?_eq_none_iff] at ht ⊢
          omega
        rw [this]; rfl
      · cases hw

/-! ### calls -/
def goodFn (P : Program) (g : FuncId) : Prop := ∃ fn, P.funcs[g]? = some fn ∧ (fn.name == "runtime.NumGoroutine") = false ∧ fn.body.isNone = false

def CPost (P : Program) (ρ : Ren) (H : Heap) (w : World) (K : Value → Heap → Prop) : Ending → World → Prop :=
  fun e w' => ∃ v v' ρ' H', e = .returned v' ∧ Ext P ρ H w ρ' H' w' ∧ H'.gh = H.gh ∧ VRel ρ' v v' ∧ K v H'

theorem CPost.mono {P : Program} {ρ : Ren} {H : Heap} {w : World} {K K' : Value → Heap → Prop} (hk : ∀ v H', K v H' → K' v H') {e : Ending} {w' : World} (h : CPost P ρ H w K e w') : CPost P ρ H w K' e w' :=
  let ⟨v, v', ρ', H', e, h1, h2, h3, h4⟩ := h
  ⟨v, v', ρ', H', e, h1, h2, h3, hk _ _ h4⟩

/-- The call of a function on abstract values in an abstract heap: it returns, and what it returns and leaves meets K. -/
def ACalls (P : Program) (g : FuncId) (args : List Value) (H : Heap) (K : Value → Heap → Prop) : Prop :=
  goodFn P g ∧ ∀ (ρ : Ren) (w : World) (cargs : Array Value), HRel P ρ H w → Pins ρ w H.gh → VRels ρ args cargs.toList → Calls P g cargs w (CPost P ρ H w K)

theorem ACalls.mono {P : Program} {g : FuncId} {args : List Value} {H : Heap} {K K' : Value → Heap → Prop} (h : ACalls P g args H K) (hk : ∀ v H', K v H' → K' v H') : ACalls P g args H K' :=
  ⟨h.1, fun ρ w cargs hR hP ha => (h.2 ρ w cargs hR hP ha).mono fun _ _ k => k.mono hk⟩

/-- A round of a loop over a function that is under way: the loop's body is run. -/
def AYields (P : Program) (l : Nat) (args : List Value) (H : Heap) (K : Value → Heap → Prop) : Prop :=
  ∀ (ρ : Ren) (w : World) (cargs : Array Value), HRel P ρ H w → Pins ρ w H.gh → VRels ρ args cargs.toList → YieldAt Fence.wide 0 P l cargs w (CPost P ρ H w K)

theorem AYields.mono {P : Program} {l : Nat} {args : List Value} {H : Heap} {K K' : Value → Heap → Prop} (h : AYields P l args H K) (hk : ∀ v H', K v H' → K' v H') : AYields P l args H K' :=
  fun ρ w cargs hR hP ha => let ⟨fn, tmps, asg, body, h1, h2⟩ := h ρ w cargs hR hP ha; ⟨fn, tmps, asg, body, h1, h2.mono fun _ _ k => k.mono hk⟩

/-! ### one operation -/
def aStep (P : Program) (e : Env) (H : Heap) (o : Oper) (K : Value → Heap → Prop) : Prop :=
  match kindOf P o.op with
  | .pure => ob (aPure P e o) fun v => K v H
  | .read => ob (aRead P e H o) fun v => K v H
  | .new => ob (aNew P e o.op) fun r => K (r.2.2 H.next) (H.push (.row true r.1 r.2.1))
  | .eff =>
    match o.op with
    | .call { callee := .value f, args, .. } =>
      match e f, evs e args.toList with
      | some (.func (.func g) first cap), some vs => ACalls P g (first.toList ++ vs ++ cap.toList) H K
      | some (.func (.yield l) first cap), some vs => first.toList = [] ∧ cap.toList = [] ∧ AYields P l vs H K
      | _, _ => False
    | _ => ob (aEff P e H o) fun r => K r.1 r.2

theorem aStep_nodefer {P : Program} {e : Env} {H : Heap} {o : Oper} {K : Value → Heap → Prop} (h : aStep P e H o K) (c : Call) : o.op ≠ .defer c := by
  intro hc
  simp [aStep, kindOf, hc, aEff] at h

/-- What the machine does at one operation, where the abstract one comes to K. -/
theorem aStep_wp {P : Program} {e : Env} {H : Heap} {o : Oper} {K : Value → Heap → Prop} (h : aStep P e H o K) {ro : Option Nat} {ρ : Ren} {w : World} {a : Act} (hR : HRel P ρ H w) (hP : Pins ρ w H.gh) (hr : ERel ρ o.op.operands.toList e a.eval)
    {next : Act → World → Prop} {Q : Exit → Act → World → Prop} (hn : ∀ v v' ρ' H' w', Ext P ρ H w ρ' H' w' → H'.gh = H.gh → VRel ρ' v v' → K v H' → next (a.put o.dst v') w') : o.wpIn (wideR ro) 0 P a w next Q := by
  unfold Oper.wpIn
  refine ⟨fun _ _ => trivial, ?_⟩
  rw [Oper.semAt_eq _ _ _ (aStep_nodefer h)]
  unfold aStep at h
  split at h
  · rw [ob_iff] at h
    obtain ⟨v, hv, hk⟩ := h
    obtain ⟨v', h1, h2⟩ := aPure_run hv hr w
    rw [h1]
    exact hn v v' ρ H w (Ext.refl hR) rfl h2 hk
  · rw [ob_iff] at h
    obtain ⟨v, hv, hk⟩ := h
    obtain ⟨v', h1, h2⟩ := aRead_run hv hR hr
    rw [h1]
    exact hn v v' ρ H w (Ext.refl hR) rfl h2 hk
  · rw [ob_iff] at h
    obtain ⟨⟨el, cells, f⟩, hv, hk⟩ := h
    obtain ⟨cs, h1, h2⟩ := aNew_run hv (o := o) rfl hr w
    have hE := Ext.alloc hR el cells cs _ rfl (fun i v hi => by
      obtain ⟨v', k1, k2⟩ := h2.get i v hi
      exact ⟨v', by rw [← Array.getElem?_toList]; exact k1, k2⟩)
    rw [h1]
    exact hn _ _ _ _ _ hE rfl (aNew_val hv (Ren.add_self _ _ _) rfl) hk
  · split at h
    · rename_i f args ats ho
      split at h
      · rename_i g first cap vs hf hv
        obtain ⟨⟨fn, hfn, hname, hbody⟩, hc⟩ := h
        have h1 := hr f (by simp [ho, Op.operands, Call.operands]) _ hf
        obtain ⟨xs', ys', e1, e2, e3⟩ := h1.func
        have h2 := evs_rel (ρ := ρ) (c := a.eval) (fun x hx => hr x (by simp only [ho, Op.operands, Call.operands, Array.toList_append, List.mem_append]; exact .inr hx)) hv
        have hrun : (execOp a.eval o).run P w = .ok (.enter g (xs' ++ args.map a.eval ++ ys')) w := by
          have n1 : ¬ fn.name = "runtime.NumGoroutine" := by simpa using hname
          have n2 : ¬ fn.body = none := by intro e; rw [e] at hbody; cases hbody
          simp [execOp, ho, resolve, e1, Deferred.ofValue, invoke, callFunc, hfn, n1, n2]
        rw [hrun]
        have hargs : VRels ρ (first.toList ++ vs ++ cap.toList) (xs' ++ args.map a.eval ++ ys').toList := by
          simp only [Array.toList_append, Array.toList_map]
          exact (e2.append h2).append e3
        refine ⟨fun h => (by cases h), ?_⟩
        refine CallsIn.mono (callsIn_wide.2 (hc ρ w _ hR hP hargs)) ?_
        rintro en w' ⟨v, v', ρ', H', rfl, k1, k0, k2, k3⟩
        exact hn v v' ρ' H' w' k1 k0 k2 k3
      · rename_i l first cap vs hf hv
        obtain ⟨hx, hy, hc⟩ := h
        have h1 := hr f (by simp [ho, Op.operands, Call.operands]) _ hf
        obtain ⟨xs', ys', e1, e2, e3⟩ := h1.func
        rw [hx] at e2; rw [hy] at e3
        have h2 := evs_rel (ρ := ρ) (c := a.eval) (fun x hx => hr x (by simp only [ho, Op.operands, Call.operands, Array.toList_append, List.mem_append]; exact .inr hx)) hv
        have hx' : xs' = #[] := by
          cases xs' with | mk l => cases l with
            | nil => rfl
            | cons => cases e2
        have hy' : ys' = #[] := by
          cases ys' with | mk l => cases l with
            | nil => rfl
            | cons => cases e3
        subst hx'; subst hy'
        have hargs : VRels ρ vs (args.map a.eval).toList := by simpa using h2
        obtain ⟨fn, tmps, asg, body, q1, q2⟩ := hc ρ w _ hR hP hargs
        have hrun : (execOp a.eval o).run P w = .ok (.round l fn tmps asg body) w := by
          simp [execOp, ho, resolve, e1, Deferred.ofValue, invoke, q1]
        rw [hrun]
        refine ⟨fun h => (by cases h), ?_⟩
        refine RoundIn.mono q2 ?_
        rintro en w' ⟨v, v', ρ', H', rfl, k1, k0, k2, k3⟩
        exact hn v v' ρ' H' w' k1 k0 k2 k3
      · exact h.elim
    · rw [ob_iff] at h
      obtain ⟨⟨v, H'⟩, hv, hk⟩ := h
      obtain ⟨ρ', w', n, v', h1, h2, h3, h4⟩ := aEff_run hv hR hr
      rw [h1]
      rcases h2 with rfl | ⟨rfl, rfl⟩
      · exact hn v v' ρ' H' w' h3 (aEff_gh hv) h4 hk
      · exact hn v undef ρ' H' w' h3 (aEff_gh hv) h4 hk

theorem aStep.mono {P : Program} {e : Env} {H : Heap} {o : Oper} {K K' : Value → Heap → Prop} (h : aStep P e H o K) (hk : ∀ v H', K v H' → K' v H') : aStep P e H o K' := by
  unfold aStep at h ⊢
  split at h
  · rw [ob_iff] at h ⊢; obtain ⟨v, h1, h2⟩ := h; exact ⟨v, h1, hk _ _ h2⟩
  · rw [ob_iff] at h ⊢; obtain ⟨v, h1, h2⟩ := h; exact ⟨v, h1, hk _ _ h2⟩
  · rw [ob_iff] at h ⊢; obtain ⟨v, h1, h2⟩ := h; exact ⟨v, h1, hk _ _ h2⟩
  · split at h
    · split at h
      · exact h.mono hk
      · exact ⟨h.1, h.2.1, h.2.2.mono hk⟩
      · exact h
    · rw [ob_iff] at h ⊢; obtain ⟨v, h1, h2⟩ := h; exact ⟨v, h1, hk _ _ h2⟩

/-! ### a region in its order -/
def aOps (P : Program) (ops : Array Oper) (K : Tm → Heap → Prop) : List Oper → Tm → Heap → Prop
  | [], T, H => K T H
  | o :: os, T, H =>
    match aWanted ops o T with
    | some true => aStep P (env T) H o fun v H' => aOps P ops K os (aPut T o.dst v) H'
    | some false => aOps P ops K os (aPut T o.dst undef) H
    | none => False

/-- What a piece of code comes to, of the machine, from a state that an abstract one stands for. -/
def APost (n0 : Nat) (P : Program) (ρ : Ren) (H : Heap) (w : World) (Q : Exit → Tm → Heap → Prop) : Exit → Act → World → Prop :=
  fun x a' w' => ∃ T' ρ' H', Ext P ρ H w ρ' H' w' ∧ H'.gh = H.gh ∧ VRels ρ' T' a'.tmps.toList ∧ Marks n0 ρ' w' a'.defers ∧ Q x T' H'

theorem APost.trans {n0 : Nat} {P : Program} {ρ ρ1 : Ren} {H H1 : Heap} {w w1 : World} (hE : Ext P ρ H w ρ1 H1 w1) (hg : H1.gh = H.gh) {Q : Exit → Tm → Heap → Prop} {x : Exit} {a : Act} {w' : World} (h : APost n0 P ρ1 H1 w1 Q x a w') : APost n0 P ρ H w Q x a w' :=
  let ⟨T', ρ', H', h1, h0, h2, h3, h4⟩ := h
  ⟨T', ρ', H', hE.trans h1, h0.trans hg, h2, h3, h4⟩

theorem aOps_wp {n0 : Nat} {ro : Option Nat} {P : Program} {ops : Array Oper} {Q : Exit → Tm → Heap → Prop} {ρ0 : Ren} {H0 : Heap} {w0 : World} (hP : Pins ρ0 w0 H0.gh) : ∀ (os : List Oper) {T : Tm} {H : Heap} (_ : aOps P ops (Q .normal) os T H) {ρ : Ren} {w : World} {a : Act},
    Ext P ρ0 H0 w0 ρ H w → H.gh = H0.gh → VRels ρ T a.tmps.toList → Marks n0 ρ w a.defers → wpListIn (wideR ro) 0 P ops (APost n0 P ρ0 H0 w0 Q) os a w
  | [], T, H, h, ρ, w, a, hE, hg, hT, hd => ⟨T, ρ, H, hE, hg, hT, hd, h⟩
  | o :: os, T, H, h, ρ, w, a, hE, hg, hT, hd => by
    simp only [aOps] at h
    simp only [wpListIn]
    split at h
    · rename_i hw
      rw [wanted_rel hT hw, if_pos rfl]
      refine aStep_wp h hE.rel (hg ▸ hP.ext hE) (env_rel hT _) ?_
      intro v v' ρ' H' w' h1 h0 h2 h3
      exact aOps_wp hP os h3 (hE.trans h1) (h0.trans hg) (put_rel (hT.mono h1.le) _ h2) (by rw [put_defers]; exact hd.ext h1)
    · rename_i hw
      rw [wanted_rel hT hw, if_neg (by simp)]
      exact ⟨fun _ _ => trivial, aOps_wp hP os h hE hg (put_rel hT _ (.tuple .nil)) (by rw [put_defers]; exact hd)⟩
    · exact h.elim

end Go.Abs
