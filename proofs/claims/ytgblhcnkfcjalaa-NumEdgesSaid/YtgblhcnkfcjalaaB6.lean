/- Frozen slices: what operations on them come to; how calls of values are used; arguments of laws. -/
import Derived.Test.YtgblhcnkfcjalaaB5
set_option linter.unusedVariables false
set_option linter.unusedSimpArgs false
set_option maxRecDepth 10000
namespace Go.Abs
open Go
variable {P : Program} {H H' : Heap} {n : Nat} {cells : List Value} {t e : TypeId}

theorem len_fz (ht : isSliceT P t = true) : aLen P t (fzv n cells) = some (.int .i64 n) := by
  simp only [aLen, fzv, ht, if_true, fzParts_fz, Option.map_some]; rfl
theorem len_nil (ht : isSliceT P t = true) : aLen P t (.slice none 0 0) = some (.int .i64 0) := by
  simp only [aLen, ht, if_true]; rfl

/-- How an element's cells are told. -/
structure En (α : Type) where
  enc : α → List Value
  es : Nat
  d : α
  len : ∀ a, (enc a).length = es
/-- A frozen slice of elements. -/
def Vv {α : Type} (e : En α) (l : List α) : Value := fzv l.length (l.flatMap e.enc)
variable {α : Type} {E : En α} {l : List α}
theorem isSl_Vv : isSl (Vv E l) = true := rfl
/-! ### what elements there are -/
def eU : En Int := ⟨fun x => [.int .u32 x], 1, 0, fun _ => rfl⟩
def eN : En Int := ⟨fun x => [.int .i64 x], 1, 0, fun _ => rfl⟩
def eY : En Int := ⟨fun x => [.int .u8 x], 1, 0, fun _ => rfl⟩
def eJ : En Int := ⟨fun x => [.int .i8 x], 1, 0, fun _ => rfl⟩
def eB : En Bool := ⟨fun x => [.bool x], 1, false, fun _ => rfl⟩
def eS : En ByteArray := ⟨fun x => [.string x], 1, .empty, fun _ => rfl⟩
/-- A number's parts; a quotient's; one with ends. -/
structure RI where
  neg : Bool
  l : List Int
structure RQ where
  p : RI
  q : RI
structure RX where
  kind : Int
  v : RQ
def eI : En RI := ⟨fun a => [.bool a.neg, Vv eU a.l], 2, ⟨false, []⟩, fun _ => rfl⟩
def eQ : En RQ := ⟨fun a => [.bool a.p.neg, Vv eU a.p.l, .bool a.q.neg, Vv eU a.q.l], 4, ⟨⟨false, []⟩, ⟨false, []⟩⟩, fun _ => rfl⟩
def eX : En RX := ⟨fun a => [.int .i64 a.kind, .bool a.v.p.neg, Vv eU a.v.p.l, .bool a.v.q.neg, Vv eU a.v.q.l], 5, ⟨0, ⟨⟨false, []⟩, ⟨false, []⟩⟩⟩, fun _ => rfl⟩
def eR : En (List RQ) := ⟨fun r => [Vv eQ r], 1, [], fun _ => rfl⟩
def eNs : En (List Int) := ⟨fun r => [Vv eN r], 1, [], fun _ => rfl⟩
theorem eU_enc {x : Int} : eU.enc x = [.int .u32 x] := _root_.id rfl
theorem eN_enc {x : Int} : eN.enc x = [.int .i64 x] := _root_.id rfl
theorem eY_enc {x : Int} : eY.enc x = [.int .u8 x] := _root_.id rfl
theorem eJ_enc {x : Int} : eJ.enc x = [.int .i8 x] := _root_.id rfl
theorem eB_enc {x : Bool} : eB.enc x = [.bool x] := _root_.id rfl
theorem eS_enc {x : ByteArray} : eS.enc x = [.string x] := _root_.id rfl
theorem eI_enc {a : RI} : eI.enc a = [.bool a.neg, Vv eU a.l] := _root_.id rfl
theorem eQ_enc {a : RQ} : eQ.enc a = [.bool a.p.neg, Vv eU a.p.l, .bool a.q.neg, Vv eU a.q.l] := _root_.id rfl
theorem eX_enc {a : RX} : eX.enc a = [.int .i64 a.kind, .bool a.v.p.neg, Vv eU a.v.p.l, .bool a.v.q.neg, Vv eU a.v.q.l] := _root_.id rfl
theorem eR_enc {r : List RQ} : eR.enc r = [Vv eQ r] := _root_.id rfl
theorem eNs_enc {r : List Int} : eNs.enc r = [Vv eN r] := _root_.id rfl
theorem eU_d : eU.d = 0 := _root_.id rfl
theorem eN_d : eN.d = 0 := _root_.id rfl
theorem eY_d : eY.d = 0 := _root_.id rfl
theorem eJ_d : eJ.d = 0 := _root_.id rfl
theorem eB_d : eB.d = false := _root_.id rfl
theorem eR_d : eR.d = [] := _root_.id rfl
theorem eNs_d : eNs.d = [] := _root_.id rfl
attribute [go_sem] eU_enc eN_enc eY_enc eJ_enc eB_enc eS_enc eI_enc eQ_enc eX_enc eR_enc eNs_enc eU_d eN_d eY_d eJ_d eB_d eR_d eNs_d get_bump next_bump get_E0 next_E0

theorem isSl_if {c : Prop} [Decidable c] {a b : Value} (h1 : isSl a = true) (h2 : isSl b = true) : isSl (if c then a else b) = true := by split <;> assumption
theorem En.flat_length (E : En α) : ∀ l : List α, (l.flatMap E.enc).length = l.length * E.es
  | [] => by simp
  | a :: l => by rw [List.flatMap_cons, List.length_append, E.len, E.flat_length l, List.length_cons, Nat.succ_mul, Nat.add_comm]
theorem En.flat_drop (E : En α) : ∀ (l : List α) (i : Nat), (l.flatMap E.enc).drop (i * E.es) = (l.drop i).flatMap E.enc
  | l, 0 => by simp
  | [], i + 1 => by simp
  | a :: l, i + 1 => by
    have h1 := E.len a
    rw [List.flatMap_cons, List.drop_succ_cons, ← E.flat_drop l i, Nat.succ_mul, Nat.add_comm, ← List.drop_drop]
    congr 1
    rw [← h1, List.drop_left]
theorem En.flat_take (E : En α) : ∀ (l : List α) (i : Nat), (l.flatMap E.enc).take (i * E.es) = (l.take i).flatMap E.enc
  | l, 0 => by simp
  | [], i + 1 => by simp
  | a :: l, i + 1 => by
    have h1 := E.len a
    rw [List.flatMap_cons, List.take_succ_cons, List.flatMap_cons, ← E.flat_take l i, Nat.succ_mul, List.take_append, h1]
    congr 1
    · exact List.take_of_length_le (by omega)
    · congr 1; omega
theorem En.flat_part (E : En α) {l : List α} {i : Nat} (hi : i < l.length) : ((l.flatMap E.enc).drop (i * E.es)).take E.es = E.enc (l.getD i E.d) := by
  rw [E.flat_drop, List.drop_eq_getElem_cons hi, List.flatMap_cons, List.getD_eq_getElem?_getD, List.getElem?_eq_getElem hi]
  simp only [Option.getD_some]
  have h1 := E.len l[i]
  rw [← h1, List.take_left]
theorem idx_Vv (ht : P.underlying t = some (.slice e)) {k : Nat} (hs : szOf P e = k) (hz : sized P e = true) (he : E.es = k) {ik : IntKind} {i : Int} (h0 : 0 ≤ i) (h1 : i < l.length) :
    aIndexAddr P t (Vv E l) (.int ik i) = some (fpv (E.enc (l.getD i.toNat E.d))) := by
  subst he
  simp only [aIndexAddr, Vv, fzv, ht, fzParts_fz]
  rw [if_pos ⟨h0, h1, hz, by rw [E.flat_length, hs]⟩, hs, E.flat_part (by omega)]
theorem slice_Vv (ht : P.underlying t = some (.slice e)) {k : Nat} (hs : szOf P e = k) (hz : sized P e = true) (he : E.es = k) {lo hi : Option Value} {a b : Nat} (h1 : aBound l.length l.length hi = some b) (h2 : aBound 0 b lo = some a) (hab : a ≤ b) (hb : b ≤ l.length) :
    aSlice P H t (Vv E l) lo hi none = some (Vv E ((l.take b).drop a)) := by
  subst he
  simp only [aSlice, Vv, fzv, ht, fzParts_fz]
  rw [if_pos ⟨hz, by rw [E.flat_length, hs]⟩, h1]
  simp only [h2, hs]
  rw [E.flat_drop, E.flat_take]
  simp only [fzv, List.length_drop, List.length_take, Nat.min_eq_left hb]
  rw [List.drop_take]
theorem upto_Vv (ht : P.underlying t = some (.slice e)) {k : Nat} (hs : szOf P e = k) (hz : sized P e = true) (he : E.es = k) {ik : IntKind} {i : Int} (h0 : 0 ≤ i) (h1 : i ≤ l.length) :
    aSlice P H t (Vv E l) none (some (.int ik i)) none = some (Vv E (l.take i.toNat)) := by
  have := slice_Vv (H := H) (lo := none) (hi := some (.int ik i)) (a := 0) (b := i.toNat) ht hs hz he (by simp only [aBound]; rw [if_pos ⟨h0, h1⟩]) rfl (by omega) (by omega)
  simpa using this
theorem from_Vv (ht : P.underlying t = some (.slice e)) {k : Nat} (hs : szOf P e = k) (hz : sized P e = true) (he : E.es = k) {ik : IntKind} {i : Int} (h0 : 0 ≤ i) (h1 : i ≤ l.length) :
    aSlice P H t (Vv E l) (some (.int ik i)) none none = some (Vv E (l.drop i.toNat)) := by
  have := slice_Vv (H := H) (lo := some (.int ik i)) (hi := none) (a := i.toNat) (b := l.length) ht hs hz he rfl (by simp only [aBound]; rw [if_pos ⟨h0, h1⟩]) (by omega) (Nat.le_refl _)
  simpa using this
theorem src_Vv (H : Heap) : srcCells H E.es (Vv E l) = some (l.flatMap E.enc) := by
  simp only [srcCells, Vv, fzv, fzParts_fz]
  rw [if_pos (E.flat_length l)]
theorem lenV_Vv : lenV (Vv E l) = some l.length := by simp only [lenV, Vv, fzv, fzParts_fz, Option.map_some]

/-! ### addresses and parts, by types -/
theorem faddr_own {s ft : TypeId} {fs : Array Field} {f off k b o : Nat} (hu : P.underlying s = some (.struct fs)) (hf : (fs[f]?).map (fun d => (d.type, d.offset)) = some (ft, off)) (hz : sized P ft = true) (hs : szOf P ft = k) (hk : k ≠ 0) :
    aFieldAddr P s (.pointer (some ⟨b, o, none⟩)) f = some (.pointer (some ⟨b, o + off, none⟩)) := by
  simp only [aFieldAddr, hu]
  cases hd : fs[f]? with
  | none => rw [hd] at hf; cases hf
  | some d =>
    rw [hd] at hf
    simp only [Option.map_some, Option.some.injEq, Prod.mk.injEq] at hf
    obtain ⟨rfl, rfl⟩ := hf
    exact if_pos ⟨hz, by rw [hs]; exact hk⟩
theorem faddr_fz {s ft : TypeId} {fs : Array Field} {f off k : Nat} (hu : P.underlying s = some (.struct fs)) (hf : (fs[f]?).map (fun d => (d.type, d.offset)) = some (ft, off)) (hz : sized P ft = true) (hs : szOf P ft = k) (hk : k ≠ 0) (hl : off + k ≤ cells.length) :
    aFieldAddr P s (fpv cells) f = some (fpv ((cells.drop off).take k)) := by
  simp only [aFieldAddr, fpv, hu]
  cases hd : fs[f]? with
  | none => rw [hd] at hf; cases hf
  | some d =>
    rw [hd] at hf
    simp only [Option.map_some, Option.some.injEq, Prod.mk.injEq] at hf
    obtain ⟨rfl, rfl⟩ := hf
    simp only
    rw [if_pos ⟨trivial, hz, by rw [hs]; exact hk, by rw [hs]; exact hl⟩, hs]
theorem field_row {s ft : TypeId} {fs : Array Field} {f off k : Nat} (hu : P.underlying s = some (.struct fs)) (hf : (fs[f]?).map (fun d => (d.type, d.offset)) = some (ft, off)) (hr : isRowT P ft = some true) (hz : sized P ft = true) (hs : szOf P ft = k) :
    aField P s (.agg ⟨cells⟩) f = some (.agg ⟨(cells.drop off).take k⟩) := by
  simp only [aField, hu]
  cases hd : fs[f]? with
  | none => rw [hd] at hf; cases hf
  | some d =>
    rw [hd] at hf
    simp only [Option.map_some, Option.some.injEq, Prod.mk.injEq] at hf
    obtain ⟨rfl, rfl⟩ := hf
    simp only [aPart, hr, hz, if_true, hs]
theorem field_one {s ft : TypeId} {fs : Array Field} {f off : Nat} {v : Value} (hu : P.underlying s = some (.struct fs)) (hf : (fs[f]?).map (fun d => (d.type, d.offset)) = some (ft, off)) (hr : isRowT P ft = some false) (hv : cells[off]? = some v) :
    aField P s (.agg ⟨cells⟩) f = some v := by
  simp only [aField, hu]
  cases hd : fs[f]? with
  | none => rw [hd] at hf; cases hf
  | some d =>
    rw [hd] at hf
    simp only [Option.map_some, Option.some.injEq, Prod.mk.injEq] at hf
    obtain ⟨rfl, rfl⟩ := hf
    simp only [aPart, hr, hv]
theorem load_fz_row {k : Nat} (hr : isRowT P t = some true) (hz : sized P t = true) (hs : szOf P t = k) (hl : cells.length = k) : aLoad P H t (fpv cells) = some (.agg ⟨cells⟩) := by
  simp only [aLoad, fpv, hr, if_true]
  rw [if_pos ⟨hz, by rw [hs]; exact hl⟩]
theorem load_fz_one {v : Value} (hr : isRowT P t = some false) : aLoad P H t (fpv [v]) = some v := by
  simp only [aLoad, fpv, hr, if_true]; rfl
/-- So many times a value's cells. -/
def repC (n : Nat) (zs : List Value) : List Value := (List.replicate n zs).flatten
theorem made_repC {z : Array Value} (hz : 0 < z.size) : ∀ m : Nat, (madeCells z (m * z.size)).toList = repC m z.toList
  | 0 => by simp [madeCells, repC]
  | m + 1 => by
    have ih := made_repC hz m
    simp only [madeCells, Array.toList_map, Array.toList_range] at ih ⊢
    rw [Nat.succ_mul, Nat.add_comm, List.range_add, List.map_append, List.map_map]
    have h1 : (List.range z.size).map (fun i => z[i % z.size]!) = z.toList := by
      apply List.ext_getElem
      · simp
      · intro i h1 h2
        simp at h1
        rw [List.getElem_map, List.getElem_range, Nat.mod_eq_of_lt h1]
        simp [h1]
    have h2 : (fun i => z[i % z.size]!) ∘ (fun x => z.size + x) = fun i => z[i % z.size]! := by
      funext i; simp
    rw [h2, ih, h1, repC, repC, List.replicate_succ, List.flatten_cons]
theorem s_makes {el : TypeId} {e : Env} {K : Value → Heap → Prop} {d : Option Tmp} {ty : TypeId} {ps : String} {af : Array Edge} {gd : Option (Nat × Bool)} {i : TypeInfo} {z : Value} (hi : P.info? el = some i) (ht : P.underlying t = some (.slice el)) (hz : i.zero = some z) (hzg : z.cells.toList.all ground = true ∧ z.cells.size = i.size ∧ 0 < i.size) {b : Nat} (hb : i.bytes = b) {x y : Operand} :
    aStep P e H ⟨d, .makeSlice t x y, ty, ps, af, gd⟩ K = ob (e x) fun a => ob (e y) fun c => ob (aMk b a c) fun p => K (.slice (some ⟨H.next, 0, none⟩) p.1 p.2) (H.push (.row true el (repC p.2 z.cells.toList))) := by
  subst hb
  rw [s_new rfl]
  simp only [aNew, ht]
  cases e x with
  | none => simp
  | some a =>
    cases e y with
    | none => cases a <;> rfl
    | some b =>
      cases a with
      | int k n =>
        cases b with
        | int k' m =>
          simp only [ob_some, hi, hz, aMk]
          by_cases hc : 0 ≤ n ∧ n ≤ m ∧ m ≤ 9223372036854775807 ∧ (i.bytes : Int) * m ≤ 281474976710656
          · rw [if_pos ⟨hc.1, hc.2.1, hc.2.2.1, hc.2.2.2, hzg.1, hzg.2.1⟩, if_pos hc]
            simp only [ob_some]
            rw [← hzg.2.1, made_repC (by omega)]
          · rw [if_neg (fun h => hc ⟨h.1, h.2.1, h.2.2.1, h.2.2.2.1⟩), if_neg hc]; rfl
        | _ => rfl
      | _ => rfl
theorem g_il {a b : Int} (h : a < b) : a < b := h
theorem g_ie {a b : Int} (h : a ≤ b) : a ≤ b := h
theorem g_nl {a b : Nat} (h : a < b) : a < b := h
theorem g_ne {a b : Nat} (h : a ≤ b) : a ≤ b := h
theorem g_xil {a b : Int} (h : ¬ a < b) : ¬ a < b := h
theorem g_xie {a b : Int} (h : ¬ a ≤ b) : ¬ a ≤ b := h
theorem g_xnl {a b : Nat} (h : ¬ a < b) : ¬ a < b := h
theorem g_xne {a b : Nat} (h : ¬ a ≤ b) : ¬ a ≤ b := h
theorem g_qn {a b : Nat} (h : a = b) : a = b := h
theorem g_qi {a b : Int} (h : a = b) : a = b := h
theorem g_dn {a b : Nat} (h : a ≠ b) : a ≠ b := h
theorem g_di {a b : Int} (h : a ≠ b) : a ≠ b := h
/-- A side goal. -/
theorem sd {p : Prop} (h : p := by first | assumption | exact isSl_slice | exact isSl_fz | exact isSl_Vv | (refine g_il ?_; omega) | (refine g_ie ?_; omega) | (refine g_nl ?_; omega) | (refine g_ne ?_; omega) | (refine g_xil ?_; omega) | (refine g_xie ?_; omega) | (refine g_xnl ?_; omega) | (refine g_xne ?_; omega) | (refine g_qn ?_; omega) | (refine g_qi ?_; omega) | (refine g_dn ?_; omega) | (refine g_di ?_; omega) | (simp only [Heap.next_push, Heap.next_set, Heap.next_kill, next_bump, next_E0, wr_next, ne_eq] <;> omega) | (refine plan_ok ?_; decide +kernel) | (refine drawn_ok ?_; decide +kernel) | ((repeat apply Hle.push); first | exact Hle.rfl | assumption)) : p := h
/-- Old memory stands: by what is known of each step. -/
theorem Hle.auto {H H' : Heap} (h : Hle H H' := by repeat (first | exact Hle.rfl | assumption | apply Hle.push | (refine Hle.set ?_ (by exact sd) _) | (refine Hle.kill ?_ (by exact sd)) | (refine Hle.wr ?_ (by exact sd) _ _) | refine Hle.trans ?_ hle3 | refine Hle.trans ?_ hle4 | refine Hle.trans ?_ h1 | refine Hle.trans ?_ h2 | refine Hle.trans ?_ h3 | refine Hle.trans ?_ h4 | refine Hle.trans ?_ h5 | refine Hle.trans ?_ h6 | refine Hle.trans ?_ h7 | refine Hle.trans ?_ h8 | refine Hle.trans ?_ h9 | refine Hle.trans ?_ h10 | refine Hle.trans ?_ h11 | refine Hle.trans ?_ h12 | refine Hle.trans ?_ h13 | refine Hle.trans ?_ h14 | refine Hle.trans ?_ h15 | refine Hle.trans ?_ h16 | refine Hle.trans ?_ h17 | refine Hle.trans ?_ h18 | refine Hle.trans ?_ h19 | refine Hle.trans ?_ h20 | refine Hle.trans ?_ h21 | refine Hle.trans ?_ h22 | refine Hle.trans ?_ h23 | refine Hle.trans ?_ h24 | refine Hle.trans ?_ h25 | refine Hle.trans ?_ h26 | refine Hle.trans ?_ h27 | refine Hle.trans ?_ h28 | refine Hle.trans ?_ h29 | refine Hle.trans ?_ h30)) : Hle H H' := h

end Go.Abs
