/- Own slices: handed on, frozen; what of them stands. -/
import Derived.Test.YtboekagofficpaaGreatYa
import Derived.Test.YtboekagofficpaaGreatB9
import Derived.Test.YtboekagofficpaaGreatQc
set_option linter.unusedVariables false
set_option linter.unusedSimpArgs false
namespace Go.Abs
open Go Go.Proofs
set_option maxRecDepth 100000
set_option maxHeartbeats 4000000
theorem PK.peekU {P : Program} {g : FuncId} {ps us : List Value} {q : Value → Prop} {H : Heap} {K : Value → Heap → Prop} (h : PK P g ps q) (hr : ∀ r, q r → ground r = true) (ha : FzRels P H ps us) (k : ∀ r, q r → K r H) : ACalls P g us H K :=
  (h.look hr ha).mono fun v H' ⟨h1, h2⟩ => by rw [h2]; exact k v h1
section
variable {P : Program} {H0 H : Heap} {g : FuncId} {K : Value → Heap → Prop}
theorem Gh.sliceOU {b off n c es : Nat} {own : Bool} {el : TypeId} {cells : List Value} (hg : H.get b = some (.row own el cells)) (hc : c = unk ∨ n ≤ c) (he : 0 < es) (hl : off + n * es ≤ cells.length) :
    Gh P [.slice (some ⟨b, off, none⟩) n c] H [fzv n ((cells.drop off).take (n * es))] ((H.kill b).bump (H.next + 1)) := ⟨rfl, fun ρ w cs hR hv => by
  cases hv with
  | cons h1 h2 =>
    cases h2
    rcases h1.ssome with ⟨b1, off1, L, c', e1, e2, rfl, hor⟩ | ⟨e1, rfl, _⟩
    rotate_left
    · injection e1 with e1
      subst e1
      rw [hR.void.2.1] at hg; cases hg
    have e1' := e1
    injection e1 with e1 e3
    subst e1; subst e3
    obtain ⟨fs, k1, k2⟩ := Ext.freeze (H' := (H.kill b).bump (H.next + 1)) hR e2 hg rfl (fun c hc => by rw [get_bump, get_kill_ne hc]) (.inr (by rw [get_bump, Heap.get_kill, if_pos rfl]))
    refine ⟨_, k1, .cons ?_ .nil⟩
    have hk : (n = 0 ∧ n * es = 0) ∨ (0 < n ∧ 0 < n * es) := by
      rcases Nat.eq_zero_or_pos n with h | h
      · left; subst h; exact ⟨rfl, Nat.zero_mul _⟩
      · right; exact ⟨h, Nat.mul_pos h he⟩
    exact VRel.fz_of (k := n * es) h1 e2 hc hl k2 k1.le (Ren.add_self _ _ _) rfl rfl rfl hk⟩
theorem Hle.deadU {b : Nat} {m : Nat} (h : Hle H0 H) (hb : H0.next ≤ b) (hm : H.next ≤ m) : Hle H0 ((H.kill b).bump m) := Hle.bump (Hle.kill h hb) (by rw [Heap.next_kill]; exact hm)
theorem Gh.voU {α : Type} {E : En α} {el : TypeId} {sl : Value} {l : List α} (h : VO P E el H0 H sl l) (hle : Hle H0 H) (he : 0 < E.es) : ∃ H', Gh P [sl] H [Vv E l] H' ∧ Hle H0 H' ∧ H.next ≤ H'.next := by
  unfold VO at h
  generalize hn : l.length = n at h
  generalize hcs : l.flatMap E.enc = cs at h
  cases h with
  | nil =>
    refine ⟨H, ⟨rfl, fun ρ w cs hR hv => ⟨ρ, Ext.refl hR, ?_⟩⟩, hle, Nat.le_refl _⟩
    cases hv with
    | cons h1 h2 =>
      cases h2
      have hl : l = [] := List.length_eq_zero_iff.1 hn
      subst hl
      exact .cons (Nz.rel .nil h1) .nil
  | @row b off n c rs hg hb0 hb hc hl =>
    refine ⟨_, ?_, Hle.deadU hle hb0 (Nat.le_succ _), by rw [next_bump]; exact Nat.le_succ _⟩
    have := Gh.sliceOU (P := P) (n := n) (c := c) (es := E.es) hg (hc.imp id fun h => h.1) he hl
    unfold Vv
    rw [hn, hcs]
    exact this
/-- The first argument is a slice of one's own. -/
theorem ACalls.vo1U {α : Type} {E : En α} {el : TypeId} {sl : Value} {l : List α} {ps : List Value} (h : VO P E el H0 H sl l) (hle : Hle H0 H) (he : 0 < E.es) (k : ∀ H', Hle H0 H' → H.next ≤ H'.next → ACalls P g (Vv E l :: ps) H' K) : ACalls P g (sl :: ps) H K := by
  obtain ⟨H', h1, h2, h3⟩ := Gh.voU h hle he
  exact ACalls.gh (Gh.head h1) (k H' h2 h3)
theorem Gh.preU {v v' : Value} {H' : Heap} (h : Gh P [v] H [v'] H') : ∀ ps, Gh P (ps ++ [v]) H (ps ++ [v']) H'
  | [] => h
  | _ :: ps => Gh.tail (Gh.preU h ps)
/-- The last one is. -/
theorem ACalls.voU {α : Type} {E : En α} {el : TypeId} {sl : Value} {l : List α} {ps : List Value} (h : VO P E el H0 H sl l) (hle : Hle H0 H) (he : 0 < E.es) (k : ∀ H', Hle H0 H' → H.next ≤ H'.next → ACalls P g (ps ++ [Vv E l]) H' K) : ACalls P g (ps ++ [sl]) H K := by
  obtain ⟨H', h1, h2, h3⟩ := Gh.voU h hle he
  exact ACalls.gh (Gh.preU h1 ps) (k H' h2 h3)
theorem ix_ownU {t e : TypeId} {b off n c : Nat} {k : IntKind} {i : Int} {s : Nat} (ht : P.underlying t = some (.slice e)) (hz : sized P e = true) (hs : szOf P e = s) (h0 : 0 ≤ i) (h1 : i < n) :
    aIndexAddr P t (.slice (some ⟨b, off, none⟩) n c) (.int k i) = some (.pointer (some ⟨b, off + i.toNat * s, none⟩)) := by
  simp only [aIndexAddr, ht]
  rw [if_pos ⟨h0, h1, hz⟩, hs]
end
theorem len_ownU {P : Program} {t : TypeId} {a : Option Addr} {n c : Nat} (ht : isSliceT P t = true) : aLen P t (.slice a n c) = some (.int .i64 n) := by
  simp only [aLen, ht, if_true]; rfl
section
variable {α : Type} {E : En α} {P : Program} {H0 H H' : Heap} {el t : TypeId} {sl : Value} {l : List α}
theorem VO.baseFU (h : VO P E el H0 H sl l) {H0' : Heap} (e : H0'.next ≤ H0.next) : VO P E el H0' H sl l := by
  unfold VO at h ⊢
  exact h.older e
theorem VO.ltFU (h : VO P E el H0 H sl l) (h0 : 0 < H.next) : sblk sl < H.next := by
  unfold VO at h
  generalize l.length = n at h
  generalize l.flatMap E.enc = cs at h
  cases h with
  | nil => exact h0
  | row _ _ hb _ _ => exact hb
theorem VO.setFU (h : VO P E el H0 H sl l) {b : Nat} (hb : b < H0.next) (o : AObj) : VO P E el H0 (H.set b o) sl l := by
  unfold VO at h ⊢
  exact h.keep (fun c e h1 h2 => get_set_ne (by omega)) (Nat.le_refl _)
theorem VO.keepFU (h : VO P E el H0 H sl l) {x : Nat} (fr : ∀ b, b < H.next → b ≠ x → H'.get b = H.get b) (hn : H.next ≤ H'.next) (sp : sblk sl ≠ x ∨ sblk sl = 0) (h0 : 0 < H0.next) : VO P E el H0 H' sl l := by
  unfold VO at h ⊢
  exact h.keep (fun b e h1 h2 => fr b h2 (by rcases sp with sp | sp <;> omega)) hn
/-- Append of some, and what stands. -/
theorem VO.appendFU (h : VO P E el H0 H sl l) (h0n : H0.next ≤ H.next) (xs : List α) {n : Nat} (hn : n = xs.length) {i : TypeInfo} {z : Value} (ht : P.underlying t = some (.slice el)) (hi : P.info? el = some i) (hz : i.zero = some z) (hzs : z.cells.size = i.size) (hs : szOf P el = E.es) (h0 : 0 < E.es) (ho : okSrc P t = true) (h1 : ∀ a ∈ xs, (E.enc a).all (·.oneCell') = true)
    (hsm : l.length + n ≤ 9223372036854775807) (hb : (2 * (l.length + n) + 200) * i.bytes ≤ 281474976710656) :
    ∃ v H', aAppend P (H.push (.row true el (xs.flatMap E.enc))) #[t, t] sl (.slice (some ⟨H.next, 0, none⟩) n n) = some (v, H') ∧ VO P E el H0 H' v (l ++ xs) ∧ (∀ b, b < H.next → b ≠ sblk sl → H'.get b = H.get b) ∧ H.next + 1 ≤ H'.next ∧ (sblk v = sblk sl ∨ sblk v = H.next + 1) := by
  subst hn
  have hx := Sl.row (P := P) (H := H.push (.row true el (xs.flatMap E.enc))) (es := E.es) (b := H.next) (off := 0) (n := xs.length) (c := xs.length) (get_push_self _ _) (by simp) (.inr hs) (.inr ⟨Nat.le_refl _, by unfold unk; omega⟩) (by rw [E.flat_length]; omega)
  have e1 : ((xs.flatMap E.enc).drop 0).take (xs.length * E.es) = xs.flatMap E.enc := by rw [List.drop_zero, List.take_of_length_le (by rw [E.flat_length]; exact Nat.le_refl _)]
  rw [e1] at hx
  let HB : Heap := ⟨H0.next, H.tr, H.gh⟩
  have hle : Hle HB H := ⟨h0n, fun _ _ => Eq.refl _⟩
  have h2 : Ow P HB (H.push (.row true el (xs.flatMap E.enc))) E.es el sl l.length (l.flatMap E.enc) := Ow.mono (Ow.older (H0 := HB) h (Nat.le_refl _)) (Hle.push0 _)
  obtain ⟨a1, a2, a3, a4, a5⟩ := Ow.append h2 (hle.push _) ht hi hz hzs hs h0 ho (Sl.lenV hx) (Sl.src hx) (E.flat_length xs) (by
    simp only [List.all_eq_true, List.mem_flatMap] at h1 ⊢
    rintro x ⟨a, ha, hx⟩
    exact h1 a ha x hx) hsm hb
  have ab := append_blk a1
  rw [next_push] at ab a4 a5
  refine ⟨_, _, a1, ?_, fun b k1 k2 => (a4 b (by omega) k2).trans (get_push_ne (by omega)), by omega, ab⟩
  unfold VO
  rw [List.length_append, List.flatMap_append]
  exact Ow.older a2 (Nat.le_refl _)
end
theorem sepLU {v s y N : Nat} (e : v = s ∨ v = N) (q : s ≠ y ∨ s = 0) (b : y < N) : v ≠ y ∨ v = 0 := by omega
theorem sepRU {v s y N : Nat} (e : v = s ∨ v = N) (q : y ≠ s ∨ y = 0) (b : y < N) : y ≠ v ∨ y = 0 := by omega
theorem sepSU {s y : Nat} (q : s ≠ y ∨ s = 0) : y ≠ s ∨ y = 0 := by omega
theorem VO.monoU {α : Type} {E : En α} {P : Program} {H0 H H' : Heap} {el : TypeId} {sl : Value} {l : List α} (h : VO P E el H0 H sl l) (hle : Hle H H') : VO P E el H0 H' sl l := Ow.mono h hle
end Go.Abs
