/- What laws on rows call beside. -/
import Derived.Test.YtoahhljnnjekiaaVc
import Derived.Test.YtoahhljnnjekiaaA31
set_option linter.unusedVariables false
set_option linter.unusedSimpArgs false
namespace Go.Abs
open Go Go.Proofs
set_option maxRecDepth 100000
set_option maxHeartbeats 4000000

theorem PK.peek1 {P : Program} {g : FuncId} {H : Heap} {K : Value → Heap → Prop} {b n c es : Nat} {own : Bool} {el : TypeId} {cells : List Value} {q : Value → Prop} (hg : H.get b = some (.row own el cells)) (hb : b < H.next) (hc : c = unk ∨ (n ≤ c ∧ c < unk)) (he : 0 < es) (hs : own = false ∨ szOf P el = es) (hl : cells.length = n * es)
    (h : PK P g [fzv n cells] q) (hr : ∀ r, q r → ground r = true) (k : ∀ r, q r → K r H) : ACalls P g [.slice (some ⟨b, 0, none⟩) n c] H K := by
  have hsl := Sl.row (P := P) (es := es) (off := 0) (n := n) (c := c) hg hb hs hc (by omega)
  rw [List.drop_zero, List.take_of_length_le (by omega)] at hsl
  exact h.peek hr (.cons (.sl he hsl .refl) .nil) k
/-- Great, of own rows. -/
theorem s83 {H : Heap} {K : Value → Heap → Prop} {ls : List (List RQ)} {b n : Nat} {cells : List Value} (hg : H.get b = some (.row true 46 cells)) (hb : b < H.next) (hc : cells = ls.flatMap eR.enc) (hn : n = ls.length) (hl : ls.length ≤ 9223372036854775807) (hr : ∀ j, (rwi ls j).length ≤ 9223372036854775807)
    (k : ∀ c, (c = false → Gd ls) → K (.bool c) H) : ACalls Try.prog 32 [.slice (some ⟨b, 0, none⟩) n n] H K := by
  subst hc hn
  refine PK.peek1 (es := 1) (n := ls.length) hg hb (.inr ⟨Nat.le_refl _, by unfold unk; omega⟩) (by decide) (.inr T.s70) (by rw [eR.flat_length]; rfl) (p83 hl hr) (fun r ⟨c, e, _⟩ => by rw [e]; rfl) ?_
  rintro r ⟨c, rfl, h⟩
  exact k c h
/-- What Great lets through. -/
def Rg (l : List RQ) : Prop := l.length ≤ 200 ∧ ∀ a ∈ l, LimQ a ∧ gq a = false
theorem gq_rz {a : RQ} (h : LimQ a) (k : gq a = false) : Rz a ∧ lq (vq a) ≤ 6 := by
  have h3 := lq_dq (pn := a.p.neg) (qn := a.q.neg) h.1 h.2
  unfold gq at k
  simp at k
  exact ⟨⟨h.1, h.2, by omega, by omega⟩, by unfold vq; omega⟩
theorem Rg.rw {l : List RQ} (h : Rg l) : Rw l := ⟨by have := h.1; omega, fun a ha => (gq_rz (h.2 a ha).1 (h.2 a ha).2).1⟩
theorem Rg.le {l : List RQ} (h : Rg l) (i : Nat) : lq (ev l i) ≤ 6 := by
  rcases Nat.lt_or_ge i l.length with hi | hi
  · rw [ev_lt hi]; exact (gq_rz (h.2 _ (List.getElem_mem hi)).1 (h.2 _ (List.getElem_mem hi)).2).2
  · rw [ev_ge hi, lq_zero]; omega
theorem rg_of {l : List RQ} (hl : ∀ a ∈ l, LimQ a) (h : l.length ≤ 200 ∧ l.any gq = false) : Rg l :=
  ⟨h.1, fun a ha => ⟨hl a ha, by
    have := List.any_eq_false.1 h.2 a ha
    simpa using this⟩⟩
theorem Gd.at {ls : List (List RQ)} (h : Gd ls) {j : Nat} (hj : j < ls.length) {l : List RQ} (e : rwi ls j = l) (hl : ∀ a ∈ l, LimQ a) : Rg l := rg_of hl (by rw [← e]; exact h.2 j hj)
theorem Rg.plus {a b : List RQ} {t : Rat} (ha : Rg a) (hb : Rg b) (ht : lq t ≤ 6) : Rw (plusV a t b) ∧ ∀ i, i < a.length → lq (ev (plusV a t b) i) ≤ 19 := by
  have hz (i : Nat) : lq (ev a i + t * ev b i) ≤ 19 := by
    have := lq_mul t (ev b i); have := lq_add (ev a i) (t * ev b i); have := ha.le i; have := hb.le i; omega
  exact ⟨Rw.tab (by have := ha.1; omega) fun i _ => by have := hz i; omega, fun i hi => by unfold plusV; rw [ev_tab hi]; exact hz i⟩
end Go.Abs
