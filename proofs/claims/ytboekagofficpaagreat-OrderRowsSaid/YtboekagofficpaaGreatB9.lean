/- Function values: calls of them; what is bound to them, frozen. -/
import Derived.Test.YtboekagofficpaaGreatBg
set_option linter.unusedVariables false
set_option linter.unusedSimpArgs false
namespace Go.Abs
open Go
section
variable {P : Program} {e : Env} {H : Heap} {K : Value → Heap → Prop} {d : Option Tmp} {ty : TypeId} {ps : String} {af : Array Edge} {gd : Option (Nat × Bool)}
/-- A call of a function value. -/
def cv (P : Program) (f : Option Value) (vs : Option (List Value)) (H : Heap) (K : Value → Heap → Prop) : Prop :=
  match f, vs with
  | some (.func (.func g) first cap), some vs => ACalls P g (first.toList ++ vs ++ cap.toList) H K
  | some (.func (.yield l) first cap), some vs => first.toList = [] ∧ cap.toList = [] ∧ AYields P l vs H K
  | _, _ => False
theorem s_callv {k : Nat} {args : List Operand} {ats : Array TypeId} : aStep P e H ⟨d, .call ⟨.value (.tmp k), ⟨args⟩, ats⟩, ty, ps, af, gd⟩ K = cv P (e (.tmp k)) (evs e args) H K := _root_.id rfl
theorem cv_eq {g : FuncId} {xs ys vs : List Value} : cv P (some (.func (.func g) ⟨xs⟩ ⟨ys⟩)) (some vs) H K = ACalls P g (xs ++ vs ++ ys) H K := _root_.id rfl
theorem cv_yield {l : Nat} {vs : List Value} : cv P (some (.func (.yield l) ⟨[]⟩ ⟨[]⟩)) (some vs) H K = AYields P l vs H K := by
  simp [cv]
theorem s_mkf {fn : Fn} {xs ys : List Operand} : aStep P e H ⟨d, .makeFunc fn ⟨xs⟩ ⟨ys⟩, ty, ps, af, gd⟩ K = ob (evs e xs) fun xs => ob (evs e ys) fun ys => K (.func fn ⟨xs⟩ ⟨ys⟩) H := by
  show ob (aPure P e _) _ = _
  simp only [aPure]
  cases evs e xs <;> cases evs e ys <;> rfl
theorem env_func {T : Tm} {f : FuncId} : env T (.func f) = some (.func (.func f) ⟨[]⟩ ⟨[]⟩) := _root_.id rfl
attribute [go_sem] s_callv cv_eq cv_yield s_mkf env_func List.append_nil List.nil_append
end
variable {P : Program} {H H' : Heap} {g : FuncId} {K : Value → Heap → Prop}

theorem Gh.fn {f : Fn} {xs ys ys' : List Value} (h : Gh P ys H ys' H') : Gh P [.func f ⟨xs⟩ ⟨ys⟩] H [.func f ⟨xs⟩ ⟨ys'⟩] H' := ⟨h.1, fun ρ w cs hR hv => by
  cases hv with
  | cons h1 h2 =>
    cases h2
    obtain ⟨xs', ys1, rfl, k1, k2⟩ := h1.func
    obtain ⟨ρ1, e1, e2⟩ := h.2 ρ w _ hR k2
    exact ⟨ρ1, e1, .cons (.fn (k1.mono e1.le) e2) .nil⟩⟩
/-- A row is frozen: a pointer to it. -/
theorem Gh.ptr {b : Nat} {own : Bool} {el : TypeId} {cells : List Value} (hg : H.get b = some (.row own el cells)) (h0 : cells ≠ []) :
    Gh P [.pointer (some ⟨b, 0, none⟩)] H [fpv cells] ((H.kill b).bump (H.next + 1)) := ⟨rfl, fun ρ w cs hR hv => by
  cases hv with
  | cons h1 h2 =>
    cases h2
    obtain ⟨b1, off1, L, e1, e2, rfl⟩ := h1.psome
    injection e1 with e1 e3
    subst e1; subst e3
    obtain ⟨fs, k1, k2⟩ := Ext.freeze (H' := (H.kill b).bump (H.next + 1)) hR e2 hg rfl (fun c hc => by rw [get_bump, get_kill_ne hc]) (.inr (by rw [get_bump, Heap.get_kill, if_pos rfl]))
    refine ⟨_, k1, .cons ?_ .nil⟩
    obtain ⟨q1, q2⟩ := VRels.of_cells (ρ := ρ) (cells := cells) (cs := fs) (o := L.base) (fun i v hv => k2 i v hv)
    have q3 := q1.resolve_left h0
    have := VRel.fp (ρ := ρ.add H.next ⟨L.blk, 0, false, 0, 0, some fs⟩) (b := H.next) (off := L.base) (cells := cells) (Ren.add_self _ _ _) rfl (by simp only [Nat.zero_add]; exact q3) (by simp only [Nat.zero_add]; exact q2.mono k1.le)
    simp only [Nat.zero_add] at this
    exact this⟩
/-- The last argument is a function with one pointer bound to it. -/
theorem ACalls.frzFn {b : Nat} {own : Bool} {el : TypeId} {cells : List Value} (hg : H.get b = some (.row own el cells)) (h0 : cells ≠ []) {ps xs : List Value} {f : Fn}
    (h : ACalls P g (ps ++ [.func f ⟨xs⟩ ⟨[fpv cells]⟩]) ((H.kill b).bump (H.next + 1)) K) : ACalls P g (ps ++ [.func f ⟨xs⟩ ⟨[.pointer (some ⟨b, 0, none⟩)]⟩]) H K := by
  refine ACalls.gh ?_ h
  clear h
  induction ps with
  | nil => exact Gh.fn (Gh.ptr hg h0)
  | cons p ps ih => exact Gh.tail ih
end Go.Abs
