/- Rows as made, handed on. -/
import Derived.Test.YtfadclnaahanmaaV16
set_option linter.unusedVariables false
set_option linter.unusedSimpArgs false
namespace Go.Abs
open Go Go.Proofs
set_option maxRecDepth 100000
set_option maxHeartbeats 4000000
section
variable {P : Program} {H : Heap} {g : FuncId} {K : Value → Heap → Prop} {n : Nat} {ps vs xs : List Value}
theorem VRel.nzv {ρ : Ren} {v' : Value} (h : Nzs ps vs) (k : VRel ρ (fzv n vs) v') : VRel ρ (fzv n ps) v' := by
  have hl : ps.length = vs.length := by
    clear k
    induction vs generalizing ps with
    | nil => cases h; rfl
    | cons v vs ih => cases h with | cons h1 h2 => simp [ih h2]
  rcases k.frozen with ⟨b, off, L, cs, c, h1, hf, hn, hb, hc, rfl⟩ | ⟨rfl, rfl, rfl⟩ | ⟨rfl, rfl, a, c, rfl⟩
  · rw [← hl] at hb hc
    exact .fz h1 hf hn hb (h.rel hc)
  · have : ps = [] := List.length_eq_zero_iff.1 hl
    subst this
    exact .fznil
  · have : ps = [] := List.length_eq_zero_iff.1 hl
    subst this
    exact .fzvoid
theorem Gh.nzv (h : Nzs ps vs) : Gh P [fzv n vs] H [fzv n ps] H := fun ρ w cs hR hv => by
  cases hv with
  | cons h1 h2 =>
    cases h2
    exact ⟨ρ, Ext.refl hR, .cons (VRel.nzv h h1) .nil⟩
end
def oq : Option RQ → RQ
  | none => eQ.d
  | some a => a
theorem nz_oq : ∀ l : List (Option RQ), Nzs ((l.map oq).flatMap eQ.enc) (l.flatMap eQo.enc)
  | [] => .nil
  | none :: l => by
    rw [List.map_cons, List.flatMap_cons, List.flatMap_cons]
    exact .cons .rfl (.cons .vnil (.cons .rfl (.cons .vnil (nz_oq l))))
  | some a :: l => by
    rw [List.map_cons, List.flatMap_cons, List.flatMap_cons]
    exact .cons .rfl (.cons .rfl (.cons .rfl (.cons .rfl (nz_oq l))))
variable {H : Heap} {g : FuncId} {K : Value → Heap → Prop} {b n c : Nat} {l : List (Option RQ)} {ps : List Value} {r : Value}
theorem Gh.made (hg : H.get b = some (.row true 47 (l.flatMap eQo.enc))) (hn : n = l.length) (hc : n ≤ c) : Gh Try.prog [.slice (some ⟨b, 0, none⟩) n c] H [Vv eQ (l.map oq)] ((H.kill b).bump (H.next + 1)) := by
  have h1 := Gh.sliceO (P := Try.prog) (off := 0) (es := 4) (n := n) (c := c) hg (.inr hc) (by decide) (by rw [eQo.flat_length, hn]; show 0 + _ ≤ l.length * 4; omega)
  rw [List.drop_zero, List.take_of_length_le (by rw [eQo.flat_length, hn]; exact Nat.le_refl _)] at h1
  refine h1.trans ?_
  unfold Vv
  rw [List.length_map, ← hn]
  exact Gh.nzv (nz_oq l)
theorem made_last (hg : H.get b = some (.row true 47 (l.flatMap eQo.enc))) (hn : n = l.length) (hc : n ≤ c) (hp : PC Try.prog g (ps ++ [Vv eQ (l.map oq)]) r) (k : ∀ m, H.next + 1 ≤ m → K r ((H.kill b).bump m)) : ACalls Try.prog g (ps ++ [.slice (some ⟨b, 0, none⟩) n c]) H K :=
  ACalls.gh (Gh.pre (Gh.made hg hn hc) ps) (PC.step hp fun m hm => k m hm)
theorem made_head (hg : H.get b = some (.row true 47 (l.flatMap eQo.enc))) (hn : n = l.length) (hc : n ≤ c) (hp : PC Try.prog g (Vv eQ (l.map oq) :: ps) r) (k : ∀ m, H.next + 1 ≤ m → K r ((H.kill b).bump m)) : ACalls Try.prog g (.slice (some ⟨b, 0, none⟩) n c :: ps) H K :=
  ACalls.gh (Gh.head (Gh.made hg hn hc)) (PC.step hp fun m hm => k m hm)
/-- A one among noughts. -/
def unitO (n k : Nat) : List (Option RQ) := (List.replicate n none).set k (some (rq ((1 : Int) : Rat)))
def unitV (n k : Nat) : List RQ := (unitO n k).map oq
theorem unitV_len {n k : Nat} : (unitV n k).length = n := by simp [unitV, unitO]
theorem ev_unit {n k i : Nat} (hi : i < n) : ev (unitV n k) i = if i = k then 1 else 0 := by
  unfold ev unitV unitO
  rw [getD_eq (by simpa using hi)]
  simp only [List.getElem_map, List.getElem_set, List.getElem_replicate]
  by_cases h : k = i
  · rw [if_pos h, if_pos h.symm]
    exact vq_rq _
  · rw [if_neg h, if_neg (fun e => h e.symm)]
    exact vq_d
theorem Rg.unit {n k : Nat} (hn : n ≤ 200) : Rg (unitV n k) := by
  refine ⟨by rw [unitV_len]; exact hn, fun a ha => ?_⟩
  unfold unitV unitO at ha
  obtain ⟨o, ho, rfl⟩ := List.mem_map.1 ha
  rcases List.mem_or_eq_of_mem_set ho with ho | rfl
  · rw [List.eq_of_mem_replicate ho]
    exact ⟨⟨Lim.nil, Lim.nil⟩, rfl⟩
  · have h1 := lq_int 1
    rw [ln_one] at h1
    have h3 := lqn (x := ((1 : Int) : Rat)) (K := 1) (by omega)
    have h4 := lqd (x := ((1 : Int) : Rat)) (K := 1) (by omega)
    refine ⟨⟨lim_z _, lim_z _⟩, ?_⟩
    unfold gq
    simp only [Bool.or_eq_false_iff, decide_eq_false_iff_not]
    exact ⟨by show ¬ 6 < ln _; omega, by show ¬ 6 < ln _; omega⟩
theorem dot_unit {a : List RQ} {n k : Nat} (hl : a.length = n) (hk : k < n) : dotV a (unitV n k) = ev a k := by
  unfold dotV
  rw [hl, sumI_one (k := k) hk, ev_unit hk, if_pos rfl, Rat.mul_one]
  intro i hi hne
  rw [ev_unit hi, if_neg hne, Rat.mul_zero]
theorem left_unit {m : List (List RQ)} {n k c : Nat} (hk : k < m.length) (hc : c < n) : ev (leftV (unitV m.length k) m n) c = ev (rwi m k) c := by
  unfold leftV lefP
  rw [ev_tab hc, sumI_one (k := k) hk, ev_unit hk, if_pos rfl, Rat.one_mul]
  intro i hi hne
  rw [ev_unit hi, if_neg hne, Rat.zero_mul]
end Go.Abs
