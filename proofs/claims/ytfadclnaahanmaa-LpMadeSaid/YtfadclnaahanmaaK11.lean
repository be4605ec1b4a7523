/- Five own slices in two boxes. -/
import Derived.Test.YtfadclnaahanmaaK10
set_option linter.unusedVariables false
set_option linter.unusedSimpArgs false
namespace Go.Abs
open Go Go.Proofs
set_option maxRecDepth 100000
set_option maxHeartbeats 4000000
section
variable {α : Type} {E : En α} {P : Program} {H0 H H' : Heap} {el t : TypeId} {sl : Value} {l : List α}
theorem VO.ltF (h : VO P E el H0 H sl l) (h0 : 0 < H.next) : sblk sl < H.next := by
  unfold VO at h
  generalize l.length = n at h
  generalize l.flatMap E.enc = cs at h
  cases h with
  | nil => exact h0
  | row _ _ hb _ _ => exact hb
theorem VO.setF (h : VO P E el H0 H sl l) {b : Nat} (hb : b < H0.next) (o : AObj) : VO P E el H0 (H.set b o) sl l := by
  unfold VO at h ⊢
  exact h.keep (fun c e h1 h2 => get_set_ne (by omega)) (Nat.le_refl _)
theorem VO.keepF (h : VO P E el H0 H sl l) {x : Nat} (fr : ∀ b, b < H.next → b ≠ x → H'.get b = H.get b) (hn : H.next ≤ H'.next) (sp : sblk sl ≠ x ∨ sblk sl = 0) (h0 : 0 < H0.next) : VO P E el H0 H' sl l := by
  unfold VO at h ⊢
  exact h.keep (fun b e h1 h2 => fr b h2 (by rcases sp with sp | sp <;> omega)) hn
theorem VO.appendF (h : VO P E el H0 H sl l) (h0n : H0.next ≤ H.next) (xs : List α) {n : Nat} (hn : n = xs.length) {i : TypeInfo} {z : Value} (ht : P.underlying t = some (.slice el)) (hi : P.info? el = some i) (hz : i.zero = some z) (hzs : z.cells.size = i.size) (hs : szOf P el = E.es) (h0 : 0 < E.es) (ho : okSrc P t = true) (h1 : ∀ a ∈ xs, (E.enc a).all (·.oneCell') = true)
    (hsm : l.length + n ≤ 9223372036854775807) (hb : (2 * (l.length + n) + 200) * i.bytes ≤ 281474976710656) :
    ∃ v H', aAppend P (H.push (.row true el (xs.flatMap E.enc))) #[t, t] sl (.slice (some ⟨H.next, 0, none⟩) n n) = some (v, H') ∧ VO P E el H0 H' v (l ++ xs) ∧ (∀ b, b < H.next → b ≠ sblk sl → H'.get b = H.get b) ∧ H.next + 1 ≤ H'.next ∧ (sblk v = sblk sl ∨ sblk v = H.next + 1) := by
  subst hn
  have hx := Sl.row (P := P) (H := H.push (.row true el (xs.flatMap E.enc))) (es := E.es) (b := H.next) (off := 0) (n := xs.length) (c := xs.length) (get_push_self _ _) (by simp) (.inr hs) (.inr ⟨Nat.le_refl _, by unfold unk; omega⟩) (by rw [E.flat_length]; omega)
  have e1 : ((xs.flatMap E.enc).drop 0).take (xs.length * E.es) = xs.flatMap E.enc := by rw [List.drop_zero, List.take_of_length_le (by rw [E.flat_length]; exact Nat.le_refl _)]
  rw [e1] at hx
  let HB : Heap := ⟨H0.next, H.tr, H.gh⟩
  have hle : Hle HB H := ⟨h0n, fun _ _ => Eq.refl _⟩
  have h2 : Ow P HB (H.push (.row true el (xs.flatMap E.enc))) E.es el sl l.length (l.flatMap E.enc) := Ow.mono (Ow.older (H0 := HB) h (Nat.le_refl _)) (Hle.push0 _)
  obtain ⟨a1, a2, a3, a4, a5⟩ := Ow.append h2 (hle.push _) ht hi hz hzs hs h0 ho (Sl.lenV hx) (Sl.src hx) (E.flat_length xs) (by
    simp only [List.all_eq_true, List.mem_flatMap] at h1 ⊢
    rintro x ⟨a, ha, hx⟩
    exact h1 a ha x hx) hsm hb
  have ab := append_blk a1
  rw [next_push] at ab a4 a5
  refine ⟨_, _, a1, ?_, fun b k1 k2 => (a4 b (by omega) k2).trans (get_push_ne (by omega)), by omega, ab⟩
  unfold VO
  rw [List.length_append, List.flatMap_append]
  exact Ow.older a2 (Nat.le_refl _)
end
theorem sepL {v s y N : Nat} (e : v = s ∨ v = N) (q : s ≠ y ∨ s = 0) (b : y < N) : v ≠ y ∨ v = 0 := by omega
theorem sepR {v s y N : Nat} (e : v = s ∨ v = N) (q : y ≠ s ∨ y = 0) (b : y < N) : y ≠ v ∨ y = 0 := by omega
theorem sepS {s y : Nat} (q : s ≠ y ∨ s = 0) : y ≠ s ∨ y = 0 := by omega
structure Bx (HC H : Heap) (p a : Nat) (n : Int) (sA sB sC sX sY : Value) (lA : List (List RQ)) (lB lC lX lY : List RQ) (V : Rat) : Prop where
  hp : H.get p = some (.row true 62 [.int .i64 n, sA, sB, sC])
  ha : H.get a = some (.row true 65 [.int .i64 1, .bool (sgn V.num), Vv eU (lmb V.num), .bool (sgn V.den), Vv eU (lmb V.den), sX, sY, .slice none 0 0])
  oA : VO Try.prog eR 45 HC H sA lA
  oB : VO Try.prog eQ 47 HC H sB lB
  oC : VO Try.prog eQ 47 HC H sC lC
  oX : VO Try.prog eQ 47 HC H sX lX
  oY : VO Try.prog eQ 47 HC H sY lY
  sAB : sblk sA ≠ sblk sB ∨ sblk sA = 0
  sAC : sblk sA ≠ sblk sC ∨ sblk sA = 0
  sAX : sblk sA ≠ sblk sX ∨ sblk sA = 0
  sAY : sblk sA ≠ sblk sY ∨ sblk sA = 0
  sBC : sblk sB ≠ sblk sC ∨ sblk sB = 0
  sBX : sblk sB ≠ sblk sX ∨ sblk sB = 0
  sBY : sblk sB ≠ sblk sY ∨ sblk sB = 0
  sCX : sblk sC ≠ sblk sX ∨ sblk sC = 0
  sCY : sblk sC ≠ sblk sY ∨ sblk sC = 0
  sXY : sblk sX ≠ sblk sY ∨ sblk sX = 0
  hn : HC.next ≤ H.next
  h0 : 0 < HC.next
  pC : p < HC.next
  aC : a < HC.next
  pa : p ≠ a
  p0 : 0 < p
  a0 : 0 < a
section
variable {HC H H1 : Heap} {p a : Nat} {n : Int} {sA sB sC sX sY : Value} {lA : List (List RQ)} {lB lC lX lY : List RQ} {V : Rat}
theorem Bx.mono (h : Bx HC H p a n sA sB sC sX sY lA lB lC lX lY V) (hle : Hle H H1) : Bx HC H1 p a n sA sB sC sX sY lA lB lC lX lY V :=
  ⟨(hle.get _ (Nat.lt_of_lt_of_le h.pC h.hn)).trans h.hp, (hle.get _ (Nat.lt_of_lt_of_le h.aC h.hn)).trans h.ha, h.oA.mono hle, h.oB.mono hle, h.oC.mono hle, h.oX.mono hle, h.oY.mono hle, h.sAB, h.sAC, h.sAX, h.sAY, h.sBC, h.sBX, h.sBY, h.sCX, h.sCY, h.sXY, Nat.le_trans h.hn hle.next, h.h0, h.pC, h.aC, h.pa, h.p0, h.a0⟩
theorem Bx.appA (h : Bx HC H p a n sA sB sC sX sY lA lB lC lX lY V) (hle : Hle H H1) (xs : List (List RQ)) {m : Nat} (hm : m = xs.length) (hl : lA.length + m ≤ 10000) :
    ∃ v H2, aAppend Try.prog (H1.push (.row true 45 (xs.flatMap eR.enc))) #[23, 23] sA (.slice (some ⟨H1.next, 0, none⟩) m m) = some (v, H2) ∧ isSl v = true ∧ H2.get p = some (.row true 62 [.int .i64 n, sA, sB, sC]) ∧ H1.next < H2.next ∧ Bx HC (H2.set p (.row true 62 [.int .i64 n, v, sB, sC])) p a n v sB sC sX sY (lA ++ xs) lB lC lX lY V := by
  have h := h.mono hle
  obtain ⟨v, H2, e1, e2, e3, e4, e5⟩ := h.oA.appendF h.hn xs hm Try.underlying23 (info_of_type Try.type45) rfl rfl T.s70 (by decide) T.o72 (fun _ _ => rfl) (by omega) (by show _ * 24 ≤ _; omega)
  have b0 := h.oA.ltF (Nat.lt_of_lt_of_le h.h0 h.hn)
  have n0 := h.h0
  have n1 := h.hn
  have pC := h.pC
  have aC := h.aC
  have pa := h.pa
  have nb : ∀ b, b < HC.next → H2.get b = H1.get b ∨ b = sblk sA := fun b hb => by
    by_cases k : b = sblk sA
    · exact .inr k
    · exact .inl (e3 b (by omega) k)
  have lo : sblk sA = 0 ∨ HC.next ≤ sblk sA := by
    have o := h.oA
    unfold VO at o
    generalize lA.length = k at o
    generalize lA.flatMap eR.enc = cs at o
    cases o with
    | nil => exact .inl rfl
    | row _ hb0 _ _ _ => exact .inr hb0
  have fr : ∀ b, b < HC.next → 0 < b → H2.get b = H1.get b := fun b hb h1 => by
    rcases nb b hb with k | k
    · exact k
    · rcases lo with k2 | k2 <;> omega
  have oB := h.oB.keepF e3 (by omega) (sepS h.sAB) n0
  have bB := h.oB.ltF (Nat.lt_of_lt_of_le h.h0 h.hn)
  have oC := h.oC.keepF e3 (by omega) (sepS h.sAC) n0
  have bC := h.oC.ltF (Nat.lt_of_lt_of_le h.h0 h.hn)
  have oX := h.oX.keepF e3 (by omega) (sepS h.sAX) n0
  have bX := h.oX.ltF (Nat.lt_of_lt_of_le h.h0 h.hn)
  have oY := h.oY.keepF e3 (by omega) (sepS h.sAY) n0
  have bY := h.oY.ltF (Nat.lt_of_lt_of_le h.h0 h.hn)

  refine ⟨v, H2, e1, e2.isSl, (fr p pC h.p0).trans h.hp, by omega, ⟨get_set_self _ _ _, (get_set_ne (fun e => pa e.symm)).trans ((fr a aC h.a0).trans h.ha), e2.setF (by omega) _, oB.setF (by omega) _, oC.setF (by omega) _, oX.setF (by omega) _, oY.setF (by omega) _, sepL e5 h.sAB (Nat.lt_succ_of_lt bB), sepL e5 h.sAC (Nat.lt_succ_of_lt bC), sepL e5 h.sAX (Nat.lt_succ_of_lt bX), sepL e5 h.sAY (Nat.lt_succ_of_lt bY), h.sBC, h.sBX, h.sBY, h.sCX, h.sCY, h.sXY, by show HC.next ≤ H2.next; omega, n0, pC, aC, pa, h.p0, h.a0⟩⟩
theorem Bx.appB (h : Bx HC H p a n sA sB sC sX sY lA lB lC lX lY V) (hle : Hle H H1) (xs : List RQ) {m : Nat} (hm : m = xs.length) (hl : lB.length + m ≤ 10000) :
    ∃ v H2, aAppend Try.prog (H1.push (.row true 47 (xs.flatMap eQ.enc))) #[45, 45] sB (.slice (some ⟨H1.next, 0, none⟩) m m) = some (v, H2) ∧ isSl v = true ∧ H2.get p = some (.row true 62 [.int .i64 n, sA, sB, sC]) ∧ H1.next < H2.next ∧ Bx HC (H2.set p (.row true 62 [.int .i64 n, sA, v, sC])) p a n sA v sC sX sY lA (lB ++ xs) lC lX lY V := by
  have h := h.mono hle
  obtain ⟨v, H2, e1, e2, e3, e4, e5⟩ := h.oB.appendF h.hn xs hm Try.underlying45 (info_of_type Try.type47) rfl rfl T.s55 (by decide) T.o70 (fun _ _ => rfl) (by omega) (by show _ * 64 ≤ _; omega)
  have b0 := h.oB.ltF (Nat.lt_of_lt_of_le h.h0 h.hn)
  have n0 := h.h0
  have n1 := h.hn
  have pC := h.pC
  have aC := h.aC
  have pa := h.pa
  have nb : ∀ b, b < HC.next → H2.get b = H1.get b ∨ b = sblk sB := fun b hb => by
    by_cases k : b = sblk sB
    · exact .inr k
    · exact .inl (e3 b (by omega) k)
  have lo : sblk sB = 0 ∨ HC.next ≤ sblk sB := by
    have o := h.oB
    unfold VO at o
    generalize lB.length = k at o
    generalize lB.flatMap eQ.enc = cs at o
    cases o with
    | nil => exact .inl rfl
    | row _ hb0 _ _ _ => exact .inr hb0
  have fr : ∀ b, b < HC.next → 0 < b → H2.get b = H1.get b := fun b hb h1 => by
    rcases nb b hb with k | k
    · exact k
    · rcases lo with k2 | k2 <;> omega
  have oA := h.oA.keepF e3 (by omega) h.sAB n0
  have bA := h.oA.ltF (Nat.lt_of_lt_of_le h.h0 h.hn)
  have oC := h.oC.keepF e3 (by omega) (sepS h.sBC) n0
  have bC := h.oC.ltF (Nat.lt_of_lt_of_le h.h0 h.hn)
  have oX := h.oX.keepF e3 (by omega) (sepS h.sBX) n0
  have bX := h.oX.ltF (Nat.lt_of_lt_of_le h.h0 h.hn)
  have oY := h.oY.keepF e3 (by omega) (sepS h.sBY) n0
  have bY := h.oY.ltF (Nat.lt_of_lt_of_le h.h0 h.hn)

  refine ⟨v, H2, e1, e2.isSl, (fr p pC h.p0).trans h.hp, by omega, ⟨get_set_self _ _ _, (get_set_ne (fun e => pa e.symm)).trans ((fr a aC h.a0).trans h.ha), oA.setF (by omega) _, e2.setF (by omega) _, oC.setF (by omega) _, oX.setF (by omega) _, oY.setF (by omega) _, sepR e5 h.sAB (Nat.lt_succ_of_lt bA), h.sAC, h.sAX, h.sAY, sepL e5 h.sBC (Nat.lt_succ_of_lt bC), sepL e5 h.sBX (Nat.lt_succ_of_lt bX), sepL e5 h.sBY (Nat.lt_succ_of_lt bY), h.sCX, h.sCY, h.sXY, by show HC.next ≤ H2.next; omega, n0, pC, aC, pa, h.p0, h.a0⟩⟩
theorem Bx.appC (h : Bx HC H p a n sA sB sC sX sY lA lB lC lX lY V) (hle : Hle H H1) (xs : List RQ) {m : Nat} (hm : m = xs.length) (hl : lC.length + m ≤ 10000) :
    ∃ v H2, aAppend Try.prog (H1.push (.row true 47 (xs.flatMap eQ.enc))) #[45, 45] sC (.slice (some ⟨H1.next, 0, none⟩) m m) = some (v, H2) ∧ isSl v = true ∧ H2.get p = some (.row true 62 [.int .i64 n, sA, sB, sC]) ∧ H1.next < H2.next ∧ Bx HC (H2.set p (.row true 62 [.int .i64 n, sA, sB, v])) p a n sA sB v sX sY lA lB (lC ++ xs) lX lY V := by
  have h := h.mono hle
  obtain ⟨v, H2, e1, e2, e3, e4, e5⟩ := h.oC.appendF h.hn xs hm Try.underlying45 (info_of_type Try.type47) rfl rfl T.s55 (by decide) T.o70 (fun _ _ => rfl) (by omega) (by show _ * 64 ≤ _; omega)
  have b0 := h.oC.ltF (Nat.lt_of_lt_of_le h.h0 h.hn)
  have n0 := h.h0
  have n1 := h.hn
  have pC := h.pC
  have aC := h.aC
  have pa := h.pa
  have nb : ∀ b, b < HC.next → H2.get b = H1.get b ∨ b = sblk sC := fun b hb => by
    by_cases k : b = sblk sC
    · exact .inr k
    · exact .inl (e3 b (by omega) k)
  have lo : sblk sC = 0 ∨ HC.next ≤ sblk sC := by
    have o := h.oC
    unfold VO at o
    generalize lC.length = k at o
    generalize lC.flatMap eQ.enc = cs at o
    cases o with
    | nil => exact .inl rfl
    | row _ hb0 _ _ _ => exact .inr hb0
  have fr : ∀ b, b < HC.next → 0 < b → H2.get b = H1.get b := fun b hb h1 => by
    rcases nb b hb with k | k
    · exact k
    · rcases lo with k2 | k2 <;> omega
  have oA := h.oA.keepF e3 (by omega) h.sAC n0
  have bA := h.oA.ltF (Nat.lt_of_lt_of_le h.h0 h.hn)
  have oB := h.oB.keepF e3 (by omega) h.sBC n0
  have bB := h.oB.ltF (Nat.lt_of_lt_of_le h.h0 h.hn)
  have oX := h.oX.keepF e3 (by omega) (sepS h.sCX) n0
  have bX := h.oX.ltF (Nat.lt_of_lt_of_le h.h0 h.hn)
  have oY := h.oY.keepF e3 (by omega) (sepS h.sCY) n0
  have bY := h.oY.ltF (Nat.lt_of_lt_of_le h.h0 h.hn)

  refine ⟨v, H2, e1, e2.isSl, (fr p pC h.p0).trans h.hp, by omega, ⟨get_set_self _ _ _, (get_set_ne (fun e => pa e.symm)).trans ((fr a aC h.a0).trans h.ha), oA.setF (by omega) _, oB.setF (by omega) _, e2.setF (by omega) _, oX.setF (by omega) _, oY.setF (by omega) _, h.sAB, sepR e5 h.sAC (Nat.lt_succ_of_lt bA), h.sAX, h.sAY, sepR e5 h.sBC (Nat.lt_succ_of_lt bB), h.sBX, h.sBY, sepL e5 h.sCX (Nat.lt_succ_of_lt bX), sepL e5 h.sCY (Nat.lt_succ_of_lt bY), h.sXY, by show HC.next ≤ H2.next; omega, n0, pC, aC, pa, h.p0, h.a0⟩⟩
theorem Bx.appX (h : Bx HC H p a n sA sB sC sX sY lA lB lC lX lY V) (hle : Hle H H1) (xs : List RQ) {m : Nat} (hm : m = xs.length) (hl : lX.length + m ≤ 10000) :
    ∃ v H2, aAppend Try.prog (H1.push (.row true 47 (xs.flatMap eQ.enc))) #[45, 45] sX (.slice (some ⟨H1.next, 0, none⟩) m m) = some (v, H2) ∧ isSl v = true ∧ H2.get a = some (.row true 65 [.int .i64 1, .bool (sgn V.num), Vv eU (lmb V.num), .bool (sgn V.den), Vv eU (lmb V.den), sX, sY, .slice none 0 0]) ∧ H1.next < H2.next ∧ Bx HC (H2.set a (.row true 65 [.int .i64 1, .bool (sgn V.num), Vv eU (lmb V.num), .bool (sgn V.den), Vv eU (lmb V.den), v, sY, .slice none 0 0])) p a n sA sB sC v sY lA lB lC (lX ++ xs) lY V := by
  have h := h.mono hle
  obtain ⟨v, H2, e1, e2, e3, e4, e5⟩ := h.oX.appendF h.hn xs hm Try.underlying45 (info_of_type Try.type47) rfl rfl T.s55 (by decide) T.o70 (fun _ _ => rfl) (by omega) (by show _ * 64 ≤ _; omega)
  have b0 := h.oX.ltF (Nat.lt_of_lt_of_le h.h0 h.hn)
  have n0 := h.h0
  have n1 := h.hn
  have pC := h.pC
  have aC := h.aC
  have pa := h.pa
  have nb : ∀ b, b < HC.next → H2.get b = H1.get b ∨ b = sblk sX := fun b hb => by
    by_cases k : b = sblk sX
    · exact .inr k
    · exact .inl (e3 b (by omega) k)
  have lo : sblk sX = 0 ∨ HC.next ≤ sblk sX := by
    have o := h.oX
    unfold VO at o
    generalize lX.length = k at o
    generalize lX.flatMap eQ.enc = cs at o
    cases o with
    | nil => exact .inl rfl
    | row _ hb0 _ _ _ => exact .inr hb0
  have fr : ∀ b, b < HC.next → 0 < b → H2.get b = H1.get b := fun b hb h1 => by
    rcases nb b hb with k | k
    · exact k
    · rcases lo with k2 | k2 <;> omega
  have oA := h.oA.keepF e3 (by omega) h.sAX n0
  have bA := h.oA.ltF (Nat.lt_of_lt_of_le h.h0 h.hn)
  have oB := h.oB.keepF e3 (by omega) h.sBX n0
  have bB := h.oB.ltF (Nat.lt_of_lt_of_le h.h0 h.hn)
  have oC := h.oC.keepF e3 (by omega) h.sCX n0
  have bC := h.oC.ltF (Nat.lt_of_lt_of_le h.h0 h.hn)
  have oY := h.oY.keepF e3 (by omega) (sepS h.sXY) n0
  have bY := h.oY.ltF (Nat.lt_of_lt_of_le h.h0 h.hn)

  refine ⟨v, H2, e1, e2.isSl, (fr a aC h.a0).trans h.ha, by omega, ⟨(get_set_ne pa).trans ((fr p pC h.p0).trans h.hp), get_set_self _ _ _, oA.setF (by omega) _, oB.setF (by omega) _, oC.setF (by omega) _, e2.setF (by omega) _, oY.setF (by omega) _, h.sAB, h.sAC, sepR e5 h.sAX (Nat.lt_succ_of_lt bA), h.sAY, h.sBC, sepR e5 h.sBX (Nat.lt_succ_of_lt bB), h.sBY, sepR e5 h.sCX (Nat.lt_succ_of_lt bC), h.sCY, sepL e5 h.sXY (Nat.lt_succ_of_lt bY), by show HC.next ≤ H2.next; omega, n0, pC, aC, pa, h.p0, h.a0⟩⟩
theorem Bx.appY (h : Bx HC H p a n sA sB sC sX sY lA lB lC lX lY V) (hle : Hle H H1) (xs : List RQ) {m : Nat} (hm : m = xs.length) (hl : lY.length + m ≤ 10000) :
    ∃ v H2, aAppend Try.prog (H1.push (.row true 47 (xs.flatMap eQ.enc))) #[45, 45] sY (.slice (some ⟨H1.next, 0, none⟩) m m) = some (v, H2) ∧ isSl v = true ∧ H2.get a = some (.row true 65 [.int .i64 1, .bool (sgn V.num), Vv eU (lmb V.num), .bool (sgn V.den), Vv eU (lmb V.den), sX, sY, .slice none 0 0]) ∧ H1.next < H2.next ∧ Bx HC (H2.set a (.row true 65 [.int .i64 1, .bool (sgn V.num), Vv eU (lmb V.num), .bool (sgn V.den), Vv eU (lmb V.den), sX, v, .slice none 0 0])) p a n sA sB sC sX v lA lB lC lX (lY ++ xs) V := by
  have h := h.mono hle
  obtain ⟨v, H2, e1, e2, e3, e4, e5⟩ := h.oY.appendF h.hn xs hm Try.underlying45 (info_of_type Try.type47) rfl rfl T.s55 (by decide) T.o70 (fun _ _ => rfl) (by omega) (by show _ * 64 ≤ _; omega)
  have b0 := h.oY.ltF (Nat.lt_of_lt_of_le h.h0 h.hn)
  have n0 := h.h0
  have n1 := h.hn
  have pC := h.pC
  have aC := h.aC
  have pa := h.pa
  have nb : ∀ b, b < HC.next → H2.get b = H1.get b ∨ b = sblk sY := fun b hb => by
    by_cases k : b = sblk sY
    · exact .inr k
    · exact .inl (e3 b (by omega) k)
  have lo : sblk sY = 0 ∨ HC.next ≤ sblk sY := by
    have o := h.oY
    unfold VO at o
    generalize lY.length = k at o
    generalize lY.flatMap eQ.enc = cs at o
    cases o with
    | nil => exact .inl rfl
    | row _ hb0 _ _ _ => exact .inr hb0
  have fr : ∀ b, b < HC.next → 0 < b → H2.get b = H1.get b := fun b hb h1 => by
    rcases nb b hb with k | k
    · exact k
    · rcases lo with k2 | k2 <;> omega
  have oA := h.oA.keepF e3 (by omega) h.sAY n0
  have bA := h.oA.ltF (Nat.lt_of_lt_of_le h.h0 h.hn)
  have oB := h.oB.keepF e3 (by omega) h.sBY n0
  have bB := h.oB.ltF (Nat.lt_of_lt_of_le h.h0 h.hn)
  have oC := h.oC.keepF e3 (by omega) h.sCY n0
  have bC := h.oC.ltF (Nat.lt_of_lt_of_le h.h0 h.hn)
  have oX := h.oX.keepF e3 (by omega) h.sXY n0
  have bX := h.oX.ltF (Nat.lt_of_lt_of_le h.h0 h.hn)

  refine ⟨v, H2, e1, e2.isSl, (fr a aC h.a0).trans h.ha, by omega, ⟨(get_set_ne pa).trans ((fr p pC h.p0).trans h.hp), get_set_self _ _ _, oA.setF (by omega) _, oB.setF (by omega) _, oC.setF (by omega) _, oX.setF (by omega) _, e2.setF (by omega) _, h.sAB, h.sAC, h.sAX, sepR e5 h.sAY (Nat.lt_succ_of_lt bA), h.sBC, h.sBX, sepR e5 h.sBY (Nat.lt_succ_of_lt bB), h.sCX, sepR e5 h.sCY (Nat.lt_succ_of_lt bC), sepR e5 h.sXY (Nat.lt_succ_of_lt bX), by show HC.next ≤ H2.next; omega, n0, pC, aC, pa, h.p0, h.a0⟩⟩
theorem Bx.setV (h : Bx HC H p a n sA sB sC sX sY lA lB lC lX lY V) (hle : Hle H H1) (W : Rat) : Bx HC (H1.set a (.row true 65 [.int .i64 1, .bool (sgn W.num), Vv eU (lmb W.num), .bool (sgn W.den), Vv eU (lmb W.den), sX, sY, .slice none 0 0])) p a n sA sB sC sX sY lA lB lC lX lY W := by
  have h := h.mono hle
  exact ⟨(get_set_ne h.pa).trans h.hp, get_set_self _ _ _, h.oA.setF h.aC _, h.oB.setF h.aC _, h.oC.setF h.aC _, h.oX.setF h.aC _, h.oY.setF h.aC _, h.sAB, h.sAC, h.sAX, h.sAY, h.sBC, h.sBX, h.sBY, h.sCX, h.sCY, h.sXY, h.hn, h.h0, h.pC, h.aC, h.pa, h.p0, h.a0⟩
end
end Go.Abs
