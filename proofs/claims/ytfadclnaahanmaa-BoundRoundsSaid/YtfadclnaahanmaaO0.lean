/- Own slices: handed on, frozen; what of them stands. -/
import Derived.Test.YtfadclnaahanmaaY1
import Derived.Test.YtfadclnaahanmaaB9
import Derived.Test.YtfadclnaahanmaaQc
set_option linter.unusedVariables false
set_option linter.unusedSimpArgs false
namespace Go.Abs
open Go Go.Proofs
set_option maxRecDepth 100000
set_option maxHeartbeats 4000000
theorem PK.peekU {P : Program} {g : FuncId} {ps us : List Value} {q : Value → Prop} {H : Heap} {K : Value → Heap → Prop} (h : PK P g ps q) (hr : ∀ r, q r → ground r = true) (ha : FzRels P H ps us) (k : ∀ r, q r → K r H) : ACalls P g us H K :=
  (h.look hr ha).mono fun v H' ⟨h1, h2⟩ => by rw [h2]; exact k v h1
section
variable {P : Program} {H0 H : Heap} {g : FuncId} {K : Value → Heap → Prop}
theorem Gh.sliceOU {b off n c es : Nat} {own : Bool} {el : TypeId} {cells : List Value} (hg : H.get b = some (.row own el cells)) (hc : c = unk ∨ n ≤ c) (he : 0 < es) (hl : off + n * es ≤ cells.length) :
    Gh P [.slice (some ⟨b, off, none⟩) n c] H [fzv n ((cells.drop off).take (n * es))] ((H.kill b).bump (H.next + 1)) := ⟨rfl, fun ρ w cs hR hv => by
  cases hv with
  | cons h1 h2 =>
    cases h2
    rcases h1.ssome with ⟨b1, off1, L, c', e1, e2, rfl, hor⟩ | ⟨e1, rfl, _⟩
    rotate_left
    · injection e1 with e1
      subst e1
      rw [hR.void.2.1] at hg; cases hg
    have e1' := e1
    injection e1 with e1 e3
    subst e1; subst e3
    obtain ⟨fs, k1, k2⟩ := Ext.freeze (H' := (H.kill b).bump (H.next + 1)) hR e2 hg rfl (fun c hc => by rw [get_bump, get_kill_ne hc]) (.inr (by rw [get_bump, Heap.get_kill, if_pos rfl]))
    refine ⟨_, k1, .cons ?_ .nil⟩
    have hk : (n = 0 ∧ n * es = 0) ∨ (0 < n ∧ 0 < n * es) := by
      rcases Nat.eq_zero_or_pos n with h | h
      · left; subst h; exact ⟨rfl, Nat.zero_mul _⟩
      · right; exact ⟨h, Nat.mul_pos h he⟩
    exact VRel.fz_of (k := n * es) h1 e2 hc hl k2 k1.le (Ren.add_self _ _ _) rfl rfl rfl hk⟩
theorem Hle.deadU {b : Nat} {m : Nat} (h : Hle H0 H) (hb : H0.next ≤ b) (hm : H.next ≤ m) : Hle H0 ((H.kill b).bump m) := Hle.bump (Hle.kill h hb) (by rw [Heap.next_kill]; exact hm)
theorem Gh.voU {α : Type} {E : En α} {el : TypeId} {sl : Value} {l : List α} (h : VO P E el H0 H sl l) (hle : Hle H0 H) (he : 0 < E.es) : ∃ H', Gh P [sl] H [Vv E l] H' ∧ Hle H0 H' ∧ H.next ≤ H'.next := by
  unfold VO at h
  generalize hn : l.length = n at h
  generalize hcs : l.flatMap E.enc = cs at h
  cases h with
  | nil =>
    refine ⟨H, ⟨rfl, fun ρ w cs hR hv => ⟨ρ, Ext.refl hR, ?_⟩⟩, hle, Nat.le_refl _⟩
    cases hv with
    | cons h1 h2 =>
      cases h2
      have hl : l = [] := List.length_eq_zero_iff.1 hn
      subst hl
      exact .cons (Nz.rel .nil h1) .nil
  | @row b off n c rs hg hb0 hb hc hl =>
    refine ⟨_, ?_, Hle.deadU hle hb0 (Nat.le_succ _), by rw [next_bump]; exact Nat.le_succ _⟩
    have := Gh.sliceOU (P := P) (n := n) (c := c) (es := E.es) hg (hc.imp id fun h => h.1) he hl
    unfold Vv
    rw [hn, hcs]
    exact this
theorem Gh.preU {v v' : Value} {H' : Heap} (h : Gh P [v] H [v'] H') : ∀ ps, Gh P (ps ++ [v]) H (ps ++ [v']) H'
  | [] => h
  | _ :: ps => Gh.tail (Gh.preU h ps)
theorem ACalls.voU {α : Type} {E : En α} {el : TypeId} {sl : Value} {l : List α} {ps : List Value} (h : VO P E el H0 H sl l) (hle : Hle H0 H) (he : 0 < E.es) (k : ∀ H', Hle H0 H' → H.next ≤ H'.next → ACalls P g (ps ++ [Vv E l]) H' K) : ACalls P g (ps ++ [sl]) H K := by
  obtain ⟨H', h1, h2, h3⟩ := Gh.voU h hle he
  exact ACalls.gh (Gh.preU h1 ps) (k H' h2 h3)
theorem ix_ownU {t e : TypeId} {b off n c : Nat} {k : IntKind} {i : Int} {s : Nat} (ht : P.underlying t = some (.slice e)) (hz : sized P e = true) (hs : szOf P e = s) (h0 : 0 ≤ i) (h1 : i < n) :
    aIndexAddr P t (.slice (some ⟨b, off, none⟩) n c) (.int k i) = some (.pointer (some ⟨b, off + i.toNat * s, none⟩)) := by
  simp only [aIndexAddr, ht]
  rw [if_pos ⟨h0, h1, hz⟩, hs]
end
theorem len_ownU {P : Program} {t : TypeId} {a : Option Addr} {n c : Nat} (ht : isSliceT P t = true) : aLen P t (.slice a n c) = some (.int .i64 n) := by
  simp only [aLen, ht, if_true]; rfl
section
variable {α : Type} {E : En α} {P : Program} {H0 H H' : Heap} {el t : TypeId} {sl : Value} {l : List α}
end
end Go.Abs
