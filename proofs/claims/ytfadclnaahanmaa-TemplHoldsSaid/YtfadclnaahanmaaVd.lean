/- Joined: V12, V13, V14. -/
import Derived.Test.YtfadclnaahanmaaVc
import Derived.Test.YtfadclnaahanmaaA31
/- What laws on rows call beside. -/
set_option linter.unusedVariables false
set_option linter.unusedSimpArgs false
namespace Go.Abs
open Go Go.Proofs
set_option maxRecDepth 100000
set_option maxHeartbeats 4000000

def Rg (l : List RQ) : Prop := l.length ≤ 200 ∧ ∀ a ∈ l, LimQ a ∧ gq a = false
theorem gq_rz {a : RQ} (h : LimQ a) (k : gq a = false) : Rz a ∧ lq (vq a) ≤ 6 := by
  have h3 := lq_dq (pn := a.p.neg) (qn := a.q.neg) h.1 h.2
  unfold gq at k
  simp at k
  exact ⟨⟨h.1, h.2, by omega, by omega⟩, by unfold vq; omega⟩
theorem Rg.rw {l : List RQ} (h : Rg l) : Rw l := ⟨by have := h.1; omega, fun a ha => (gq_rz (h.2 a ha).1 (h.2 a ha).2).1⟩
theorem Rg.le {l : List RQ} (h : Rg l) (i : Nat) : lq (ev l i) ≤ 6 := by
  rcases Nat.lt_or_ge i l.length with hi | hi
  · rw [ev_lt hi]; exact (gq_rz (h.2 _ (List.getElem_mem hi)).1 (h.2 _ (List.getElem_mem hi)).2).2
  · rw [ev_ge hi, lq_zero]; omega
theorem rg_of {l : List RQ} (hl : ∀ a ∈ l, LimQ a) (h : l.length ≤ 200 ∧ l.any gq = false) : Rg l :=
  ⟨h.1, fun a ha => ⟨hl a ha, by
    have := List.any_eq_false.1 h.2 a ha
    simpa using this⟩⟩
theorem Gd.at {ls : List (List RQ)} (h : Gd ls) {j : Nat} (hj : j < ls.length) {l : List RQ} (e : rwi ls j = l) (hl : ∀ a ∈ l, LimQ a) : Rg l := rg_of hl (by rw [← e]; exact h.2 j hj)
end Go.Abs

/- Own slices handed on, frozen, wherever they stand; rows times tables. -/
set_option linter.unusedVariables false
set_option linter.unusedSimpArgs false
namespace Go.Abs
open Go Go.Proofs
set_option maxRecDepth 100000
set_option maxHeartbeats 4000000

section
variable {P : Program} {H0 H : Heap} {g : FuncId} {K : Value → Heap → Prop}
theorem Gh.sliceO {b off n c es : Nat} {own : Bool} {el : TypeId} {cells : List Value} (hg : H.get b = some (.row own el cells)) (hc : c = unk ∨ n ≤ c) (he : 0 < es) (hl : off + n * es ≤ cells.length) :
    Gh P [.slice (some ⟨b, off, none⟩) n c] H [fzv n ((cells.drop off).take (n * es))] ((H.kill b).bump (H.next + 1)) := ⟨rfl, fun ρ w cs hR hv => by
  cases hv with
  | cons h1 h2 =>
    cases h2
    rcases h1.ssome with ⟨b1, off1, L, c', e1, e2, rfl, hor⟩ | ⟨e1, rfl, _⟩
    rotate_left
    · injection e1 with e1
      subst e1
      rw [hR.void.2.1] at hg; cases hg
    have e1' := e1
    injection e1 with e1 e3
    subst e1; subst e3
    obtain ⟨fs, k1, k2⟩ := Ext.freeze (H' := (H.kill b).bump (H.next + 1)) hR e2 hg rfl (fun c hc => by rw [get_bump, get_kill_ne hc]) (.inr (by rw [get_bump, Heap.get_kill, if_pos rfl]))
    refine ⟨_, k1, .cons ?_ .nil⟩
    have hk : (n = 0 ∧ n * es = 0) ∨ (0 < n ∧ 0 < n * es) := by
      rcases Nat.eq_zero_or_pos n with h | h
      · left; subst h; exact ⟨rfl, Nat.zero_mul _⟩
      · right; exact ⟨h, Nat.mul_pos h he⟩
    exact VRel.fz_of (k := n * es) h1 e2 hc hl k2 k1.le (Ren.add_self _ _ _) rfl rfl rfl hk⟩
theorem Hle.dead {b : Nat} {m : Nat} (h : Hle H0 H) (hb : H0.next ≤ b) (hm : H.next ≤ m) : Hle H0 ((H.kill b).bump m) := Hle.bump (Hle.kill h hb) (by rw [Heap.next_kill]; exact hm)
theorem Gh.vo {α : Type} {E : En α} {el : TypeId} {sl : Value} {l : List α} (h : VO P E el H0 H sl l) (hle : Hle H0 H) (he : 0 < E.es) : ∃ H', Gh P [sl] H [Vv E l] H' ∧ Hle H0 H' ∧ H.next ≤ H'.next := by
  unfold VO at h
  generalize hn : l.length = n at h
  generalize hcs : l.flatMap E.enc = cs at h
  cases h with
  | nil =>
    refine ⟨H, ⟨rfl, fun ρ w cs hR hv => ⟨ρ, Ext.refl hR, ?_⟩⟩, hle, Nat.le_refl _⟩
    cases hv with
    | cons h1 h2 =>
      cases h2
      have hl : l = [] := List.length_eq_zero_iff.1 hn
      subst hl
      exact .cons (Nz.rel .nil h1) .nil
  | @row b off n c rs hg hb0 hb hc hl =>
    refine ⟨_, ?_, Hle.dead hle hb0 (Nat.le_succ _), by rw [next_bump]; exact Nat.le_succ _⟩
    have := Gh.sliceO (P := P) (n := n) (c := c) (es := E.es) hg (hc.imp id fun h => h.1) he hl
    unfold Vv
    rw [hn, hcs]
    exact this
theorem ACalls.vo1 {α : Type} {E : En α} {el : TypeId} {sl : Value} {l : List α} {ps : List Value} (h : VO P E el H0 H sl l) (hle : Hle H0 H) (he : 0 < E.es) (k : ∀ H', Hle H0 H' → H.next ≤ H'.next → ACalls P g (Vv E l :: ps) H' K) : ACalls P g (sl :: ps) H K := by
  obtain ⟨H', h1, h2, h3⟩ := Gh.vo h hle he
  exact ACalls.gh (Gh.head h1) (k H' h2 h3)
theorem Gh.pre {v v' : Value} {H' : Heap} (h : Gh P [v] H [v'] H') : ∀ ps, Gh P (ps ++ [v]) H (ps ++ [v']) H'
  | [] => h
  | _ :: ps => Gh.tail (Gh.pre h ps)
theorem ACalls.vo {α : Type} {E : En α} {el : TypeId} {sl : Value} {l : List α} {ps : List Value} (h : VO P E el H0 H sl l) (hle : Hle H0 H) (he : 0 < E.es) (k : ∀ H', Hle H0 H' → H.next ≤ H'.next → ACalls P g (ps ++ [Vv E l]) H' K) : ACalls P g (ps ++ [sl]) H K := by
  obtain ⟨H', h1, h2, h3⟩ := Gh.vo h hle he
  exact ACalls.gh (Gh.pre h1 ps) (k H' h2 h3)
theorem ix_own {t e : TypeId} {b off n c : Nat} {k : IntKind} {i : Int} {s : Nat} (ht : P.underlying t = some (.slice e)) (hz : sized P e = true) (hs : szOf P e = s) (h0 : 0 ≤ i) (h1 : i < n) :
    aIndexAddr P t (.slice (some ⟨b, off, none⟩) n c) (.int k i) = some (.pointer (some ⟨b, off + i.toNat * s, none⟩)) := by
  simp only [aIndexAddr, ht]
  rw [if_pos ⟨h0, h1, hz⟩, hs]
theorem st_at {b off : Nat} {vs cs cs' : List Value} {el : TypeId} (hg : H.get b = some (.row true el cs)) (hl : off + vs.length ≤ cs.length) (hs : splice cs off vs = cs') : stRow H b off vs (H.get b) = some (H.set b (.row true el cs')) := by
  rw [hg, stRow_row, if_pos hl, hs]
theorem En.splice {α : Type} (E : En α) {l : List α} {i : Nat} {x : α} (hi : i < l.length) : splice (l.flatMap E.enc) (i * E.es) (E.enc x) = (l.set i x).flatMap E.enc := by
  have hm : i * E.es + E.es ≤ l.length * E.es := by rw [← Nat.succ_mul]; exact Nat.mul_le_mul_right _ hi
  rw [splice_eq _ _ _ (by rw [E.len, E.flat_length]; exact hm), E.flat_take, List.set_eq_take_append_cons_drop, if_pos hi, List.flatMap_append, List.flatMap_cons, E.len]
  rw [show i * E.es + E.es = (i + 1) * E.es by rw [Nat.succ_mul], E.flat_drop]
  simp
end
def eQo : En (Option RQ) := ⟨fun o => match o with | none => [.bool false, .slice none 0 0, .bool false, .slice none 0 0] | some a => eQ.enc a, 4, none, fun o => by cases o <;> rfl⟩
theorem eQo_none {n : Nat} : repC n [.bool false, .slice none 0 0, .bool false, .slice none 0 0] = (List.replicate n none).flatMap eQo.enc := by
  induction n with
  | zero => rfl
  | succ n ih => rw [List.replicate_succ, List.flatMap_cons, ← ih]; simp [repC, List.replicate_succ]; rfl
theorem eQo_some {l : List RQ} : (l.map some).flatMap eQo.enc = l.flatMap eQ.enc := by
  induction l with
  | nil => rfl
  | cons a l ih => rw [List.map_cons, List.flatMap_cons, List.flatMap_cons, ih]; rfl
def zl (n k : Nat) : List (Option RQ) := (List.replicate k (rq 0)).map some ++ List.replicate (n - k) none
theorem zl_len {n k : Nat} (h : k ≤ n) : (zl n k).length = n := by unfold zl; simp; omega
theorem zl_set {n k : Nat} (h : k < n) : (zl n k).set k (some (rq 0)) = zl n (k + 1) := by
  unfold zl
  rw [List.set_append_right _ _ (by simp), List.length_map, List.length_replicate, Nat.sub_self, show n - k = n - (k + 1) + 1 by omega, List.replicate_succ, List.set_cons_zero, List.replicate_succ']
  simp
end Go.Abs

/- Rows times tables. -/
set_option linter.unusedVariables false
set_option linter.unusedSimpArgs false
namespace Go.Abs
open Go Go.Proofs
set_option maxRecDepth 100000
set_option maxHeartbeats 4000000

def plV14_95_13 : Plan := ⟨[0, 1, 2, 3, 4, 5, 6, 7, 8], [(9, [], [10, 11, 12, 13])]⟩
def lefP (y : List RQ) (m : List (List RQ)) (n i : Nat) : List RQ := tab n fun k => sumI i fun j => ev y j * ev (rwi m j) k
def leftV (y : List RQ) (m : List (List RQ)) (n : Nat) : List RQ := lefP y m n m.length
def OV (H0 H : Heap) (v : Value) (l : List RQ) : Prop := QO H0 H v l ∨ v = Vv eQ l
theorem OV.fz {H0 H : Heap} {v : Value} {l : List RQ} {e : Int} (h : OV H0 H v l) : FzRel Try.prog H (.tuple ⟨[Vv eQ l, .int .i64 e]⟩) (.tuple ⟨[v, .int .i64 e]⟩) := by
  rcases h with h | rfl
  · exact h.done
  · exact .rfl
theorem OV.call {H0 H : Heap} {v : Value} {l : List RQ} {g : FuncId} {ps : List Value} {r : Value} {K : Value → Heap → Prop} (h : OV H0 H v l) (hle : Hle H0 H) (hp : PC Try.prog g (Vv eQ l :: ps) r) (k : ∀ H', Hle H0 H' → K r H') : ACalls Try.prog g (v :: ps) H K := by
  rcases h with h | rfl
  · exact ACalls.vo1 h hle (by decide) fun H' h1 h2 => PC.step hp fun m hm => k _ (Hle.bump h1 hm)
  · exact PC.step hp fun m hm => k _ (Hle.bump hle hm)
theorem OV.mono {H0 H H' : Heap} {v : Value} {l : List RQ} (h : OV H0 H v l) (hle : Hle H H') : OV H0 H' v l := h.imp (fun h => h.mono hle) id

theorem len_own {P : Program} {t : TypeId} {a : Option Addr} {n c : Nat} (ht : isSliceT P t = true) : aLen P t (.slice a n c) = some (.int .i64 n) := by
  simp only [aLen, ht, if_true]; rfl
def okL (y : List RQ) (m : List (List RQ)) (n : Int) : Prop := 0 ≤ n ∧ n ≤ 1000 ∧ y.length = m.length ∧ ∀ j, j < m.length → ((rwi m j).length : Int) = n
end Go.Abs
