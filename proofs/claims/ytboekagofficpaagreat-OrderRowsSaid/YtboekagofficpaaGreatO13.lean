/- The order of locations: the program's: what stands in memory. -/
import Derived.Test.YtboekagofficpaaGreatO10
set_option linter.unusedVariables false
set_option linter.unusedSimpArgs false
namespace Go.Abs
open Go Go.Proofs
set_option maxRecDepth 100000
set_option maxHeartbeats 4000000
/-- Where each leads, in memory. -/
structure OutI (B ob n : Nat) (E : List RE) (H : Heap) (vs : List Value) : Prop where
  nx : B ≤ H.next
  len : vs.length = n
  g : H.get ob = some (.row true 30 vs)
  o : ∀ i, i < n → NO (E0 B) H (vs.getD i undef) ((outE E i).map Int.ofNat)
  s : ∀ i j, i < n → j < n → i ≠ j → sblk (vs.getD i undef) ≠ sblk (vs.getD j undef) ∨ sblk (vs.getD i undef) = 0
theorem OutI.mono {B ob n : Nat} {E : List RE} {H H' : Heap} {vs : List Value} (h : OutI B ob n E H vs) (hb : ob < B) (hle : Hle H H') : OutI B ob n E H' vs :=
  ⟨Nat.le_trans h.nx hle.next, h.len, (hle.get _ (by have := h.nx; omega)).trans h.g, fun i hi => (h.o i hi).monoU hle, h.s⟩
theorem getD_set {l : List Value} {i j : Nat} {v d : Value} (hi : i < l.length) : (l.set i v).getD j d = if i = j then v else l.getD j d := by
  rw [List.getD_eq_getElem?_getD, List.getD_eq_getElem?_getD, List.getElem?_set]
  by_cases h : i = j
  · subst h; rw [if_pos rfl, if_pos rfl, if_pos hi]; rfl
  · rw [if_neg h, if_neg h]
/-- One more edge. -/
theorem OutI.push {B ob n i u s : Nat} {E : List RE} {H H4 : Heap} {vs : List Value} {v : Value} (h : OutI B ob n (E.take s) H vs) (hb : ob < B) (h0 : 0 < ob) (hs : s < E.length) (hf : (E.getD s eE.d).f = (i : Int)) (ht : (E.getD s eE.d).t = (u : Int)) (hi : i < n)
    (oa : NO (E0 B) H4 v ((outE (E.take s) i).map Int.ofNat ++ [(u : Int)])) (fr : ∀ b, b < H.next → b ≠ sblk (vs.getD i undef) → H4.get b = H.get b) (nx : H.next + 1 ≤ H4.next) (bl : sblk v = sblk (vs.getD i undef) ∨ sblk v = H.next + 1) :
    OutI B ob n (E.take (s + 1)) (H4.set ob (.row true 30 (vs.set i v))) (vs.set i v) := by
  have hn := h.nx
  have hl := h.len
  refine ⟨by show B ≤ H4.next; omega, by rw [List.length_set]; exact hl, get_set_self _ _ _, fun j hj => ?_, fun j k hj hk hjk => ?_⟩
  · rw [getD_set (by omega), outE_succ hs, hf, ht]
    by_cases e : i = j
    · subst e
      rw [if_pos rfl, if_pos rfl, List.map_append]
      exact oa.setFU (by show ob < B; exact hb) _
    · rw [if_neg e, if_neg (by omega), List.append_nil]
      have := (h.o j hj).keepFU (H' := H4) fr (by omega) (h.s j i hj hi fun q => e q.symm) (by show 0 < B; omega)
      exact this.setFU (by show ob < B; exact hb) _
  · rw [getD_set (by omega), getD_set (by omega)]
    have lt (q : Nat) (hq : q < n) : sblk (vs.getD q undef) < H.next := (h.o q hq).ltFU (by omega)
    have s1 := h.s
    by_cases e1 : i = j
    · subst e1
      rw [if_pos rfl, if_neg hjk]
      exact sepLU bl (s1 i k hi hk hjk) (Nat.lt_succ_of_lt (lt k hk))
    · rw [if_neg e1]
      by_cases e2 : i = k
      · subst e2
        rw [if_pos rfl]
        exact sepRU bl (s1 j i hj hi hjk) (Nat.lt_succ_of_lt (lt j hj))
      · rw [if_neg e2]
        exact s1 j k hj hk hjk
/-! ### places -/
def eP : En (Nat × Nat) := ⟨fun p => [.int .i64 p.1, .int .i64 p.2], 2, (0, 0), fun _ => rfl⟩
abbrev PO (H0 H : Heap) (sl : Value) (l : List (Nat × Nat)) : Prop := VO Tryz.prog eP 61 H0 H sl l
section
variable {H0 H : Heap} {sl : Value} {l : List (Nat × Nat)} {t g : Nat}
theorem PO.ow (h : PO H0 H sl l) : Ow Tryz.prog H0 H 2 61 sl l.length (l.flatMap eP.enc) := h
theorem PO.s (h : PO H0 H sl l) : Sl Tryz.prog H 2 sl l.length (l.flatMap eP.enc) := Ow.toSl h.ow T.s221
theorem eP_len : (l.flatMap eP.enc).length = l.length * 2 := eP.flat_length l
theorem PO.addr (h : PO H0 H sl (l ++ [(t, g)])) : aIndexAddr Tryz.prog 62 sl (.int .i64 (l.length : Int)) = some (.pointer (some (sadr sl (l.length * 2)))) := by
  have := Sl.addr h.s Tryz.underlying62 T.s221 T.z221 (k := .i64) (i := (l.length : Int)) (by omega) (by rw [List.length_append, List.length_singleton]; omega)
  rwa [Int.toNat_natCast] at this
theorem PO.load0 (h : PO H0 H sl (l ++ [(t, g)])) : aLoad Tryz.prog H 3 (.pointer (some (sadr sl (l.length * 2)))) = some (.int .i64 t) := by
  rw [Sl.load h.s T.r3 (by rw [eP_len, List.length_append, List.length_singleton]; omega), List.flatMap_append, List.getElem?_append_right (by rw [eP_len]; omega), eP_len, Nat.sub_self]
  rfl
theorem PO.load1 (h : PO H0 H sl (l ++ [(t, g)])) : aLoad Tryz.prog H 3 (.pointer (some (sadr sl (l.length * 2 + 1)))) = some (.int .i64 g) := by
  rw [Sl.load h.s T.r3 (by rw [eP_len, List.length_append, List.length_singleton]; omega), List.flatMap_append, List.getElem?_append_right (by rw [eP_len]; omega), eP_len, Nat.add_sub_cancel_left]
  rfl
theorem PO.inc (h : PO H0 H sl (l ++ [(t, g)])) : aStore Tryz.prog H 3 (.pointer (some (sadr sl (l.length * 2 + 1)))) (.int .i64 ((g : Int) + 1)) = some (wr H sl (l.length * 2 + 1) (.int .i64 ((g : Int) + 1))) ∧ PO H0 (wr H sl (l.length * 2 + 1) (.int .i64 ((g : Int) + 1))) sl (l ++ [(t, g + 1)]) := by
  refine ⟨Ow.store h.ow T.z3 T.s3 rfl rfl (by rw [eP_len, List.length_append, List.length_singleton]; omega), ?_⟩
  have := Ow.wr h.ow (v := .int .i64 ((g : Int) + 1)) (o := l.length * 2 + 1) (by rw [eP_len, List.length_append, List.length_singleton]; omega)
  show Ow Tryz.prog H0 _ 2 61 sl (l ++ [(t, g + 1)]).length ((l ++ [(t, g + 1)]).flatMap eP.enc)
  rw [List.flatMap_append, List.set_append_right _ _ (by rw [eP_len]; omega), eP_len, Nat.add_sub_cancel_left] at this
  rw [List.flatMap_append, List.length_append, List.length_singleton]
  rw [List.length_append, List.length_singleton] at this
  exact this
theorem PO.append1 (h : PO H0 H sl l) (hle : H0.next ≤ H.next) (u : Nat) (hs : l.length ≤ 2 ^ 30) :
    ∃ v H', aAppend Tryz.prog (H.push (.row true 61 [.int .i64 u, .int .i64 0])) #[62, 62] sl (.slice (some ⟨H.next, 0, none⟩) 1 1) = some (v, H') ∧ PO H0 H' v (l ++ [(u, 0)]) ∧ (∀ b, b < H.next → b ≠ sblk sl → H'.get b = H.get b) ∧ H.next + 1 ≤ H'.next ∧ (sblk v = sblk sl ∨ sblk v = H.next + 1) :=
  VO.appendFU h hle [(u, 0)] rfl Tryz.underlying62 (info_of_type Tryz.type61) rfl rfl T.s221 (by decide) T.o222 (fun a _ => rfl) (by omega) (by show _ * 16 ≤ _; omega)
theorem PO.cut (h : PO H0 H sl (l ++ [(t, g)])) : ∃ sl', aSlice Tryz.prog H 62 sl none (some (.int .i64 (l.length : Int))) none = some sl' ∧ PO H0 H sl' l ∧ sblk sl' = sblk sl := by
  obtain ⟨sl', h1, h2, h3⟩ := VO.upto h Tryz.underlying62 T.z221 (k := .i64) (i := l.length) (by simp)
  rw [List.take_left] at h2
  exact ⟨sl', h1, h2, h3⟩
end
/-! ### the stack -/
def frs (out : Nat → List Nat) (st : List (Nat × Nat)) : List (Nat × List Nat) := (st.map fun p => (p.1, (out p.1).drop p.2)).reverse
theorem frs_snoc {out : Nat → List Nat} {st : List (Nat × Nat)} {t g : Nat} : frs out (st ++ [(t, g)]) = (t, (out t).drop g) :: frs out st := by
  unfold frs
  rw [List.map_append, List.reverse_append]; rfl
theorem frs_len {out : Nat → List Nat} {st : List (Nat × Nat)} : (frs out st).length = st.length := by simp [frs]
def was (l : List Int) : List Bool := l.map fun x => decide (x ≠ 0)
def now (l : List Int) : List Bool := l.map fun x => decide (x = 1)
theorem was_len {l : List Int} : (was l).length = l.length := List.length_map ..
theorem now_len {l : List Int} : (now l).length = l.length := List.length_map ..
theorem was_getD {l : List Int} {i : Nat} (h : i < l.length) : (was l).getD i false = decide (l.getD i 0 ≠ 0) := by
  rw [List.getD_eq_getElem?_getD, List.getD_eq_getElem?_getD, was, List.getElem?_map, List.getElem?_eq_getElem h]; rfl
theorem now_getD {l : List Int} {i : Nat} (h : i < l.length) : (now l).getD i false = decide (l.getD i 0 = 1) := by
  rw [List.getD_eq_getElem?_getD, List.getD_eq_getElem?_getD, now, List.getElem?_map, List.getElem?_eq_getElem h]; rfl
theorem was_beg {l : List Int} {i : Nat} : (was l).set i true = was (l.set i 1) := by simp [was, List.map_set]
theorem now_beg {l : List Int} {i : Nat} : (now l).set i true = now (l.set i 1) := by simp [now, List.map_set]
theorem now_fin {l : List Int} {i : Nat} : (now l).set i false = now (l.set i 2) := by simp [now, List.map_set]
theorem was_fin {l : List Int} {i : Nat} (h : i < l.length) (h0 : l.getD i 0 ≠ 0) : was l = was (l.set i 2) := by
  have e : (was l).set i true = was (l.set i 2) := by simp [was, List.map_set]
  rw [← e]
  have := was_getD h
  rw [decide_eq_true h0, List.getD_eq_getElem?_getD, List.getElem?_eq_getElem (by rw [was_len]; exact h)] at this
  have e2 : (was l)[i]'(by rw [was_len]; exact h) = true := this
  rw [← e2, List.set_getElem_self]
theorem VO.keepU {α : Type} {E : En α} {P : Program} {H0 H H' : Heap} {el : TypeId} {sl : Value} {l : List α} (h : VO P E el H0 H sl l) (hk : ∀ b, H0.next ≤ b → b < H.next → H'.get b = H.get b) (hn : H.next ≤ H'.next) : VO P E el H0 H' sl l := by
  unfold VO at h ⊢
  exact Ow.keep h (fun b _ => hk b) hn
structure DI (HE : Heap) (n : Nat) (out : Nat → List Nat) (H : Heap) (ssl lsl : Value) (st : List (Nat × Nat)) (s : OS) : Prop where
  hk : ∀ b, 0 < b → b < HE.next → H.get b = HE.get b
  nx : HE.next + 3 ≤ H.next
  hd : H.get HE.next = some (.row true 4 (s.head.map .bool))
  be : H.get (HE.next + 1) = some (.row true 4 ((was s.how).map .bool))
  op : H.get (HE.next + 2) = some (.row true 4 ((now s.how).map .bool))
  os : PO (E0 (HE.next + 3)) H ssl st
  ol : NO (E0 (HE.next + 3)) H lsl s.left
  sp : sblk ssl ≠ sblk lsl ∨ sblk ssl = 0
  oi : OI n st.length s
  fr : ∀ p ∈ st, p.1 < n ∧ s.how.getD p.1 0 ≠ 0 ∧ p.2 ≤ (out p.1).length
/-- What is left to do. -/
def mes (out : Nat → List Nat) (K : Nat) (st : List (Nat × Nat)) (s : OS) : Nat := s.un * (K + 2) + (st.map fun p => (out p.1).length - p.2 + 1).sum
theorem mes_snoc {out : Nat → List Nat} {K t g : Nat} {st : List (Nat × Nat)} {s : OS} : mes out K (st ++ [(t, g)]) s = mes out K st s + ((out t).length - g + 1) := by
  unfold mes
  rw [List.map_append, List.sum_append]
  simp
  omega
theorem how_set {l : List Int} {i j : Nat} {x : Int} (hx : x ≠ 0) (hi : i < l.length) (h : l.getD j 0 ≠ 0) : (l.set i x).getD j 0 ≠ 0 := by
  rw [List.getD_eq_getElem?_getD, List.getElem?_set]
  rw [List.getD_eq_getElem?_getD] at h
  by_cases e : i = j
  · subst e; rw [if_pos rfl, if_pos hi]; exact hx
  · rw [if_neg e]; exact h
theorem how_self {l : List Int} {i : Nat} {x : Int} (hi : i < l.length) : (l.set i x).getD i 0 = x := by
  rw [List.getD_eq_getElem?_getD, List.getElem?_set, if_pos rfl, if_pos hi]; rfl
section
variable {HE H H4 : Heap} {n t g u : Nat} {out : Nat → List Nat} {ssl lsl v : Value} {st : List (Nat × Nat)} {s : OS}
theorem DI.blk (h : DI HE n out H ssl lsl (st ++ [(t, g)]) s) : HE.next + 3 ≤ sblk ssl ∧ sblk ssl < H.next := Ow.blk h.os.ow (by rw [List.length_append, List.length_singleton]; omega)
theorem DI.inc (h : DI HE n out H ssl lsl (st ++ [(t, g)]) s) (hg : g < (out t).length) : DI HE n out (wr H ssl (st.length * 2 + 1) (.int .i64 ((g : Int) + 1))) ssl lsl (st ++ [(t, g + 1)]) s := by
  obtain ⟨b1, b2⟩ := h.blk
  have hs := h.sp
  refine ⟨fun b h0 hb => (wr_ne (by omega)).trans (h.hk b h0 hb), by rw [wr_next]; exact h.nx, (wr_ne (by omega)).trans h.hd, (wr_ne (by omega)).trans h.be, (wr_ne (by omega)).trans h.op, h.os.inc.2, h.ol.keepFU (x := sblk ssl) (fun b _ hb => wr_ne hb) (by rw [wr_next]; exact Nat.le_refl _) (by omega) (by show 0 < _ + 3; omega), h.sp, ?_, fun p hp => ?_⟩
  · have := h.oi
    rw [List.length_append, List.length_singleton] at this ⊢
    exact this
  · rcases List.mem_append.1 hp with hp | hp
    · exact h.fr p (List.mem_append.2 (.inl hp))
    · rw [List.mem_singleton] at hp
      subst hp
      have := h.fr (t, g) (List.mem_append.2 (.inr (List.mem_singleton.2 rfl)))
      exact ⟨this.1, this.2.1, by dsimp only at this ⊢; omega⟩
theorem DI.mark (h : DI HE n out H ssl lsl st s) : DI HE n out (H.set HE.next (.row true 4 ((s.head.set u true).map .bool))) ssl lsl st (s.mark u) :=
  ⟨fun b h0 hb => (get_set_ne (by omega)).trans (h.hk b h0 hb), h.nx, get_set_self _ _ _, (get_set_ne (by omega)).trans h.be, (get_set_ne (by omega)).trans h.op, h.os.setFU (by show HE.next < HE.next + 3; omega) _, h.ol.setFU (by show HE.next < HE.next + 3; omega) _, h.sp, h.oi.mark, h.fr⟩
/-- The two rows once one is come to. -/
def two (HE H : Heap) (s : OS) (u : Nat) : Heap := (H.set (HE.next + 1) (.row true 4 ((was (s.how.set u 1)).map .bool))).set (HE.next + 2) (.row true 4 ((now (s.how.set u 1)).map .bool))
theorem DI.push (hp0 : 0 < HE.next) (h : DI HE n out H ssl lsl st s) (hu : u < n) (h0 : s.how.getD u 0 = 0) (oa : PO (E0 (HE.next + 3)) H4 v (st ++ [(u, 0)])) (fr : ∀ b, b < (two HE H s u).next → b ≠ sblk ssl → H4.get b = (two HE H s u).get b) (nx : (two HE H s u).next + 1 ≤ H4.next) (bl : sblk v = sblk ssl ∨ sblk v = (two HE H s u).next + 1) :
    DI HE n out H4 v lsl (st ++ [(u, 0)]) (s.beg u) := by
  have hb := h.os.blkU
  have hb : sblk ssl = 0 ∨ HE.next + 3 ≤ sblk ssl := hb
  have hn := h.nx
  have n2 : (two HE H s u).next = H.next := rfl
  rw [n2] at fr nx bl
  have g0 : ∀ b, b < HE.next + 1 → (two HE H s u).get b = H.get b := fun b k => by unfold two; rw [get_set_ne (by omega), get_set_ne (by omega)]
  have lt := h.ol.ltFU (by omega)
  refine ⟨fun b k1 k2 => by rw [fr b (by omega) (by omega), g0 b (by omega)]; exact h.hk b k1 k2, by omega, by rw [fr HE.next (by omega) (by omega), g0 HE.next (by omega)]; exact h.hd, ?_, ?_, oa, ?_, sepLU bl h.sp (by omega), ?_, fun p hp => ?_⟩
  · rw [fr (HE.next + 1) (by omega) (by omega)]
    unfold two
    rw [get_set_ne (by omega), get_set_self]
    rfl
  · rw [fr (HE.next + 2) (by omega) (by omega)]
    unfold two
    rw [get_set_self]
    rfl
  · have o1 : NO (E0 (HE.next + 3)) (two HE H s u) lsl s.left := (h.ol.setFU (by show HE.next + 1 < HE.next + 3; omega) _).setFU (by show HE.next + 2 < HE.next + 3; omega) _
    exact o1.keepFU (x := sblk ssl) (fun b k1 k2 => fr b (by rw [n2] at k1; exact k1) k2) (by rw [n2]; omega) (sepSU h.sp) (by show 0 < _ + 3; omega)
  · rw [List.length_append, List.length_singleton]
    exact h.oi.beg hu h0
  · have hl := h.oi.how
    rcases List.mem_append.1 hp with hp | hp
    · have := h.fr p hp
      exact ⟨this.1, how_set (by decide) (by omega) this.2.1, this.2.2⟩
    · rw [List.mem_singleton] at hp
      subst hp
      exact ⟨hu, by show (s.how.set u 1).getD u 0 ≠ 0; rw [how_self (by omega)]; decide, Nat.zero_le _⟩
/-- The row once one is left. -/
def off (HE H : Heap) (s : OS) (t : Nat) : Heap := H.set (HE.next + 2) (.row true 4 ((now (s.how.set t 2)).map .bool))
theorem DI.pop {ssl' : Value} (hp0 : 0 < HE.next) (h : DI HE n out H ssl lsl (st ++ [(t, g)]) s) (os : PO (E0 (HE.next + 3)) H4 ssl' st) (sb : sblk ssl' = sblk ssl) (oa : NO (E0 (HE.next + 3)) H4 v (s.left ++ [(t : Int)])) (fr : ∀ b, b < H.next → b ≠ sblk lsl → H4.get b = (off HE H s t).get b) (nx : H.next + 1 ≤ H4.next) (bl : sblk v = sblk lsl ∨ sblk v = H.next + 1) :
    DI HE n out H4 ssl' v st (s.fin t) := by
  have hb := h.ol.blkU
  have hb : sblk lsl = 0 ∨ HE.next + 3 ≤ sblk lsl := hb
  have hn := h.nx
  obtain ⟨b1, b2⟩ := h.blk
  have g0 : ∀ b, b < HE.next + 2 → (off HE H s t).get b = H.get b := fun b k => by unfold off; rw [get_set_ne (by omega)]
  have ht := h.fr (t, g) (List.mem_append.2 (.inr (List.mem_singleton.2 rfl)))
  have hl := h.oi.how
  have ht1 : t < n := ht.1
  refine ⟨fun b k1 k2 => by rw [fr b (by omega) (by omega), g0 b (by omega)]; exact h.hk b k1 k2, by omega, by rw [fr HE.next (by omega) (by omega), g0 HE.next (by omega)]; exact h.hd, ?_, ?_, os, oa, by rw [sb]; exact sepRU bl h.sp (Nat.lt_succ_of_lt b2), ?_, fun p hp => ?_⟩
  · rw [fr (HE.next + 1) (by omega) (by omega), g0 (HE.next + 1) (by omega), h.be, was_fin (l := s.how) (i := t) (by omega) ht.2.1]
    rfl
  · rw [fr (HE.next + 2) (by omega) (by omega)]
    unfold off
    rw [get_set_self]
    rfl
  · have := h.oi
    rw [List.length_append, List.length_singleton] at this
    exact this.fin ht1
  · have := h.fr p (List.mem_append.2 (.inl hp))
    exact ⟨this.1, how_set (by decide) (by omega) this.2.1, this.2.2⟩
end
end Go.Abs
