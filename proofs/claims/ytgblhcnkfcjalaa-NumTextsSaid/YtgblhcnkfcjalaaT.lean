/- What the program says of its types. -/
import Derived.Test.YtgblhcnkfcjalaaBf
import Derived.Test.YtgblhcnkfcjalaaProg
import Derived.KernelRfl
set_option linter.unusedVariables false
set_option linter.unusedSimpArgs false
namespace Go.Abs
open Go Go.Proofs

theorem T.hm : Try.prog.follows .mixedOrders = true := by kernel_rfl
theorem T.z2 : sized Try.prog 2 = true := by kernel_rfl
theorem T.s2 : szOf Try.prog 2 = 1 := by kernel_rfl
theorem T.r2 : isRowT Try.prog 2 = some false := by kernel_rfl
theorem T.i2 : isSliceT Try.prog 2 = false := by kernel_rfl
theorem T.z3 : sized Try.prog 3 = true := by kernel_rfl
theorem T.s3 : szOf Try.prog 3 = 1 := by kernel_rfl
theorem T.r3 : isRowT Try.prog 3 = some false := by kernel_rfl
theorem T.i3 : isSliceT Try.prog 3 = false := by kernel_rfl
theorem T.z4 : sized Try.prog 4 = true := by kernel_rfl
theorem T.s4 : szOf Try.prog 4 = 1 := by kernel_rfl
theorem T.r4 : isRowT Try.prog 4 = some false := by kernel_rfl
theorem T.i4 : isSliceT Try.prog 4 = false := by kernel_rfl
theorem T.z5 : sized Try.prog 5 = true := by kernel_rfl
theorem T.s5 : szOf Try.prog 5 = 1 := by kernel_rfl
theorem T.r5 : isRowT Try.prog 5 = some false := by kernel_rfl
theorem T.i5 : isSliceT Try.prog 5 = false := by kernel_rfl
theorem T.z9 : sized Try.prog 9 = true := by kernel_rfl
theorem T.s9 : szOf Try.prog 9 = 1 := by kernel_rfl
theorem T.r9 : isRowT Try.prog 9 = some false := by kernel_rfl
theorem T.i9 : isSliceT Try.prog 9 = false := by kernel_rfl
theorem T.o9 : okSrc Try.prog 9 = true := by kernel_rfl
theorem T.z21 : sized Try.prog 21 = true := by kernel_rfl
theorem T.s21 : szOf Try.prog 21 = 1 := by kernel_rfl
theorem T.r21 : isRowT Try.prog 21 = some false := by kernel_rfl
theorem T.i21 : isSliceT Try.prog 21 = false := by kernel_rfl
theorem T.z22 : sized Try.prog 22 = true := by kernel_rfl
theorem T.s22 : szOf Try.prog 22 = 1 := by kernel_rfl
theorem T.r22 : isRowT Try.prog 22 = some false := by kernel_rfl
theorem T.i22 : isSliceT Try.prog 22 = true := by kernel_rfl
theorem T.o22 : okSrc Try.prog 22 = true := by kernel_rfl
theorem T.z24 : sized Try.prog 24 = true := by kernel_rfl
theorem T.s24 : szOf Try.prog 24 = 2 := by kernel_rfl
theorem T.r24 : isRowT Try.prog 24 = some true := by kernel_rfl
theorem T.i24 : isSliceT Try.prog 24 = false := by kernel_rfl
theorem T.z50 : sized Try.prog 50 = true := by kernel_rfl
theorem T.s50 : szOf Try.prog 50 = 1 := by kernel_rfl
theorem T.r50 : isRowT Try.prog 50 = some false := by kernel_rfl
theorem T.i50 : isSliceT Try.prog 50 = false := by kernel_rfl
theorem T.z140 : sized Try.prog 68 = true := by kernel_rfl
theorem T.s140 : szOf Try.prog 68 = 1 := by kernel_rfl
theorem T.r140 : isRowT Try.prog 68 = some false := by kernel_rfl
theorem T.i140 : isSliceT Try.prog 68 = true := by kernel_rfl
theorem T.o140 : okSrc Try.prog 68 = true := by kernel_rfl
theorem T.z147 : sized Try.prog 54 = true := by kernel_rfl
theorem T.s147 : szOf Try.prog 54 = 1 := by kernel_rfl
theorem T.r147 : isRowT Try.prog 54 = some false := by kernel_rfl
theorem T.i147 : isSliceT Try.prog 54 = true := by kernel_rfl
theorem T.o147 : okSrc Try.prog 54 = true := by kernel_rfl
theorem T.z155 : sized Try.prog 62 = true := by kernel_rfl
theorem T.s155 : szOf Try.prog 62 = 1 := by kernel_rfl
theorem T.r155 : isRowT Try.prog 62 = some false := by kernel_rfl
theorem T.i155 : isSliceT Try.prog 62 = false := by kernel_rfl
theorem T.z156 : sized Try.prog 63 = true := by kernel_rfl
theorem T.s156 : szOf Try.prog 63 = 1 := by kernel_rfl
theorem T.r156 : isRowT Try.prog 63 = some false := by kernel_rfl
theorem T.i156 : isSliceT Try.prog 63 = false := by kernel_rfl
theorem T.l2 {H : Heap} {b off : Nat} : aLoad Try.prog H 2 (.pointer (some ⟨b, off, none⟩)) = rowAt (H.get b) off := load_one T.r2
theorem T.lp2 {H : Heap} {v : Value} : aLoad Try.prog H 2 (fpv [v]) = some v := load_fz_one T.r2
theorem T.w2 {H : Heap} {b off : Nat} {x : Int}  : aStore Try.prog H 2 (.pointer (some ⟨b, off, none⟩)) (.int .i64 x) = stRow H b off [.int .i64 x] (H.get b) := store_row (vs := [.int .i64 x]) T.z2 T.s2 (rfl) rfl (rfl)
theorem T.new2 : aNew Try.prog (fun _ => none) (.alloc 2) = some (2, [.int .i64 0], fun b => .pointer (some ⟨b, 0, none⟩)) := by kernel_rfl
theorem T.alloc2 {H : Heap} {e : Env} {K : Value → Heap → Prop} {d : Option Tmp} {ty : TypeId} {ps : String} {af : Array Edge} {gd : Option (Nat × Bool)} : aStep Try.prog e H ⟨d, .alloc 2, ty, ps, af, gd⟩ K = K (.pointer (some ⟨H.next, 0, none⟩)) (H.push (.row true 2 [.int .i64 0])) := s_alloc T.new2
theorem T.l3 {H : Heap} {b off : Nat} : aLoad Try.prog H 3 (.pointer (some ⟨b, off, none⟩)) = rowAt (H.get b) off := load_one T.r3
theorem T.lp3 {H : Heap} {v : Value} : aLoad Try.prog H 3 (fpv [v]) = some v := load_fz_one T.r3
theorem T.w3 {H : Heap} {b off : Nat} {x : Int}  : aStore Try.prog H 3 (.pointer (some ⟨b, off, none⟩)) (.int .i64 x) = stRow H b off [.int .i64 x] (H.get b) := store_row (vs := [.int .i64 x]) T.z3 T.s3 (rfl) rfl (rfl)
theorem T.new3 : aNew Try.prog (fun _ => none) (.alloc 3) = some (3, [.int .i64 0], fun b => .pointer (some ⟨b, 0, none⟩)) := by kernel_rfl
theorem T.alloc3 {H : Heap} {e : Env} {K : Value → Heap → Prop} {d : Option Tmp} {ty : TypeId} {ps : String} {af : Array Edge} {gd : Option (Nat × Bool)} : aStep Try.prog e H ⟨d, .alloc 3, ty, ps, af, gd⟩ K = K (.pointer (some ⟨H.next, 0, none⟩)) (H.push (.row true 3 [.int .i64 0])) := s_alloc T.new3
theorem T.l4 {H : Heap} {b off : Nat} : aLoad Try.prog H 4 (.pointer (some ⟨b, off, none⟩)) = rowAt (H.get b) off := load_one T.r4
theorem T.lp4 {H : Heap} {v : Value} : aLoad Try.prog H 4 (fpv [v]) = some v := load_fz_one T.r4
theorem T.w4 {H : Heap} {b off : Nat} {x : Bool}  : aStore Try.prog H 4 (.pointer (some ⟨b, off, none⟩)) (.bool x) = stRow H b off [.bool x] (H.get b) := store_row (vs := [.bool x]) T.z4 T.s4 (rfl) rfl (rfl)
theorem T.new4 : aNew Try.prog (fun _ => none) (.alloc 4) = some (4, [.bool false], fun b => .pointer (some ⟨b, 0, none⟩)) := by kernel_rfl
theorem T.alloc4 {H : Heap} {e : Env} {K : Value → Heap → Prop} {d : Option Tmp} {ty : TypeId} {ps : String} {af : Array Edge} {gd : Option (Nat × Bool)} : aStep Try.prog e H ⟨d, .alloc 4, ty, ps, af, gd⟩ K = K (.pointer (some ⟨H.next, 0, none⟩)) (H.push (.row true 4 [.bool false])) := s_alloc T.new4
theorem T.l5 {H : Heap} {b off : Nat} : aLoad Try.prog H 5 (.pointer (some ⟨b, off, none⟩)) = rowAt (H.get b) off := load_one T.r5
theorem T.lp5 {H : Heap} {v : Value} : aLoad Try.prog H 5 (fpv [v]) = some v := load_fz_one T.r5
theorem T.w5 {H : Heap} {b off : Nat} {x : Int}  : aStore Try.prog H 5 (.pointer (some ⟨b, off, none⟩)) (.int .u8 x) = stRow H b off [.int .u8 x] (H.get b) := store_row (vs := [.int .u8 x]) T.z5 T.s5 (rfl) rfl (rfl)
theorem T.new5 : aNew Try.prog (fun _ => none) (.alloc 5) = some (5, [.int .u8 0], fun b => .pointer (some ⟨b, 0, none⟩)) := by kernel_rfl
theorem T.alloc5 {H : Heap} {e : Env} {K : Value → Heap → Prop} {d : Option Tmp} {ty : TypeId} {ps : String} {af : Array Edge} {gd : Option (Nat × Bool)} : aStep Try.prog e H ⟨d, .alloc 5, ty, ps, af, gd⟩ K = K (.pointer (some ⟨H.next, 0, none⟩)) (H.push (.row true 5 [.int .u8 0])) := s_alloc T.new5
theorem T.l9 {H : Heap} {b off : Nat} : aLoad Try.prog H 9 (.pointer (some ⟨b, off, none⟩)) = rowAt (H.get b) off := load_one T.r9
theorem T.lp9 {H : Heap} {v : Value} : aLoad Try.prog H 9 (fpv [v]) = some v := load_fz_one T.r9
theorem T.w9 {H : Heap} {b off : Nat} {x : ByteArray}  : aStore Try.prog H 9 (.pointer (some ⟨b, off, none⟩)) (.string x) = stRow H b off [.string x] (H.get b) := store_row (vs := [.string x]) T.z9 T.s9 (rfl) rfl (rfl)
theorem T.new9 : aNew Try.prog (fun _ => none) (.alloc 9) = some (9, [.string ByteArray.empty], fun b => .pointer (some ⟨b, 0, none⟩)) := by kernel_rfl
theorem T.alloc9 {H : Heap} {e : Env} {K : Value → Heap → Prop} {d : Option Tmp} {ty : TypeId} {ps : String} {af : Array Edge} {gd : Option (Nat × Bool)} : aStep Try.prog e H ⟨d, .alloc 9, ty, ps, af, gd⟩ K = K (.pointer (some ⟨H.next, 0, none⟩)) (H.push (.row true 9 [.string ByteArray.empty])) := s_alloc T.new9
theorem T.l21 {H : Heap} {b off : Nat} : aLoad Try.prog H 21 (.pointer (some ⟨b, off, none⟩)) = rowAt (H.get b) off := load_one T.r21
theorem T.lp21 {H : Heap} {v : Value} : aLoad Try.prog H 21 (fpv [v]) = some v := load_fz_one T.r21
theorem T.w21 {H : Heap} {b off : Nat} {x : Int}  : aStore Try.prog H 21 (.pointer (some ⟨b, off, none⟩)) (.int .i32 x) = stRow H b off [.int .i32 x] (H.get b) := store_row (vs := [.int .i32 x]) T.z21 T.s21 (rfl) rfl (rfl)
theorem T.new21 : aNew Try.prog (fun _ => none) (.alloc 21) = some (21, [.int .i32 0], fun b => .pointer (some ⟨b, 0, none⟩)) := by kernel_rfl
theorem T.alloc21 {H : Heap} {e : Env} {K : Value → Heap → Prop} {d : Option Tmp} {ty : TypeId} {ps : String} {af : Array Edge} {gd : Option (Nat × Bool)} : aStep Try.prog e H ⟨d, .alloc 21, ty, ps, af, gd⟩ K = K (.pointer (some ⟨H.next, 0, none⟩)) (H.push (.row true 21 [.int .i32 0])) := s_alloc T.new21
theorem T.l22 {H : Heap} {b off : Nat} : aLoad Try.prog H 22 (.pointer (some ⟨b, off, none⟩)) = rowAt (H.get b) off := load_one T.r22
theorem T.lp22 {H : Heap} {v : Value} : aLoad Try.prog H 22 (fpv [v]) = some v := load_fz_one T.r22
theorem T.w22 {H : Heap} {b off : Nat} {x : Value} (hx : isSl x = true) : aStore Try.prog H 22 (.pointer (some ⟨b, off, none⟩)) (x) = stRow H b off [x] (H.get b) := store_row (vs := [x]) T.z22 T.s22 (isSl_cells hx) rfl (by simp only [List.all_cons, List.all_nil, isSl_one hx, Bool.and_true])
theorem T.new22 : aNew Try.prog (fun _ => none) (.alloc 22) = some (22, [.slice none 0 0], fun b => .pointer (some ⟨b, 0, none⟩)) := by kernel_rfl
theorem T.alloc22 {H : Heap} {e : Env} {K : Value → Heap → Prop} {d : Option Tmp} {ty : TypeId} {ps : String} {af : Array Edge} {gd : Option (Nat × Bool)} : aStep Try.prog e H ⟨d, .alloc 22, ty, ps, af, gd⟩ K = K (.pointer (some ⟨H.next, 0, none⟩)) (H.push (.row true 22 [.slice none 0 0])) := s_alloc T.new22
theorem T.f24_0 {b o : Nat} : aFieldAddr Try.prog 24 (.pointer (some ⟨b, o, none⟩)) 0 = some (.pointer (some ⟨b, o + 0, none⟩)) := faddr_own Try.underlying24 (by rfl) T.z4 T.s4 (by decide)
theorem T.fs24_0 {v : Value} {o : Nat} : aFieldAddr Try.prog 24 (.pointer (some (sadr v o))) 0 = some (.pointer (some (sadr v (o + 0)))) := T.f24_0
theorem T.fp24_0 {v0 v1 : Value} : aFieldAddr Try.prog 24 (fpv [v0, v1]) 0 = some (fpv [v0]) := faddr_fz (cells := [v0, v1]) (f := 0) (off := 0) (k := 1) Try.underlying24 (by rfl) T.z4 T.s4 (by decide) (by simp)
theorem T.fd24_0 {v0 v1 : Value} : aField Try.prog 24 (.agg ⟨[v0, v1]⟩) 0 = some v0 := field_one (cells := [v0, v1]) (f := 0) (off := 0) Try.underlying24 (by rfl) T.r4 rfl
theorem T.f24_1 {b o : Nat} : aFieldAddr Try.prog 24 (.pointer (some ⟨b, o, none⟩)) 1 = some (.pointer (some ⟨b, o + 1, none⟩)) := faddr_own Try.underlying24 (by rfl) T.z22 T.s22 (by decide)
theorem T.fs24_1 {v : Value} {o : Nat} : aFieldAddr Try.prog 24 (.pointer (some (sadr v o))) 1 = some (.pointer (some (sadr v (o + 1)))) := T.f24_1
theorem T.fp24_1 {v0 v1 : Value} : aFieldAddr Try.prog 24 (fpv [v0, v1]) 1 = some (fpv [v1]) := faddr_fz (cells := [v0, v1]) (f := 1) (off := 1) (k := 1) Try.underlying24 (by rfl) T.z22 T.s22 (by decide) (by simp)
theorem T.fd24_1 {v0 v1 : Value} : aField Try.prog 24 (.agg ⟨[v0, v1]⟩) 1 = some v1 := field_one (cells := [v0, v1]) (f := 1) (off := 1) Try.underlying24 (by rfl) T.r22 rfl
theorem T.l24 {H : Heap} {b off : Nat} : aLoad Try.prog H 24 (.pointer (some ⟨b, off, none⟩)) = (rowsAt (H.get b) off 2).map fun l => .agg ⟨l⟩ := by rw [load_row T.r24 T.z24, T.s24]
theorem T.lp24 {H : Heap} {v0 v1 : Value} : aLoad Try.prog H 24 (fpv [v0, v1]) = some (.agg ⟨[v0, v1]⟩) := load_fz_row T.r24 T.z24 T.s24 rfl
theorem T.w24 {H : Heap} {b off : Nat} {x0 : Bool} {x1 : Value} (hx1 : isSl x1 = true) : aStore Try.prog H 24 (.pointer (some ⟨b, off, none⟩)) (.agg ⟨[.bool x0, x1]⟩) = stRow H b off [.bool x0, x1] (H.get b) := store_row (vs := [.bool x0, x1]) T.z24 T.s24 rfl rfl (by simp only [List.all_cons, List.all_nil, isSl_one hx1, Bool.and_true]; rfl)
theorem T.new24 : aNew Try.prog (fun _ => none) (.alloc 24) = some (24, [.bool false, .slice none 0 0], fun b => .pointer (some ⟨b, 0, none⟩)) := by kernel_rfl
theorem T.alloc24 {H : Heap} {e : Env} {K : Value → Heap → Prop} {d : Option Tmp} {ty : TypeId} {ps : String} {af : Array Edge} {gd : Option (Nat × Bool)} : aStep Try.prog e H ⟨d, .alloc 24, ty, ps, af, gd⟩ K = K (.pointer (some ⟨H.next, 0, none⟩)) (H.push (.row true 24 [.bool false, .slice none 0 0])) := s_alloc T.new24
theorem T.l50 {H : Heap} {b off : Nat} : aLoad Try.prog H 50 (.pointer (some ⟨b, off, none⟩)) = rowAt (H.get b) off := load_one T.r50
theorem T.lp50 {H : Heap} {v : Value} : aLoad Try.prog H 50 (fpv [v]) = some v := load_fz_one T.r50
theorem T.w50 {H : Heap} {b off : Nat} {x : Int}  : aStore Try.prog H 50 (.pointer (some ⟨b, off, none⟩)) (.int .u32 x) = stRow H b off [.int .u32 x] (H.get b) := store_row (vs := [.int .u32 x]) T.z50 T.s50 (rfl) rfl (rfl)
theorem T.new50 : aNew Try.prog (fun _ => none) (.alloc 50) = some (50, [.int .u32 0], fun b => .pointer (some ⟨b, 0, none⟩)) := by kernel_rfl
theorem T.alloc50 {H : Heap} {e : Env} {K : Value → Heap → Prop} {d : Option Tmp} {ty : TypeId} {ps : String} {af : Array Edge} {gd : Option (Nat × Bool)} : aStep Try.prog e H ⟨d, .alloc 50, ty, ps, af, gd⟩ K = K (.pointer (some ⟨H.next, 0, none⟩)) (H.push (.row true 50 [.int .u32 0])) := s_alloc T.new50
theorem T.l140 {H : Heap} {b off : Nat} : aLoad Try.prog H 68 (.pointer (some ⟨b, off, none⟩)) = rowAt (H.get b) off := load_one T.r140
theorem T.lp140 {H : Heap} {v : Value} : aLoad Try.prog H 68 (fpv [v]) = some v := load_fz_one T.r140
theorem T.w140 {H : Heap} {b off : Nat} {x : Value} (hx : isSl x = true) : aStore Try.prog H 68 (.pointer (some ⟨b, off, none⟩)) (x) = stRow H b off [x] (H.get b) := store_row (vs := [x]) T.z140 T.s140 (isSl_cells hx) rfl (by simp only [List.all_cons, List.all_nil, isSl_one hx, Bool.and_true])
theorem T.new140 : aNew Try.prog (fun _ => none) (.alloc 68) = some (68, [.slice none 0 0], fun b => .pointer (some ⟨b, 0, none⟩)) := by kernel_rfl
theorem T.alloc140 {H : Heap} {e : Env} {K : Value → Heap → Prop} {d : Option Tmp} {ty : TypeId} {ps : String} {af : Array Edge} {gd : Option (Nat × Bool)} : aStep Try.prog e H ⟨d, .alloc 68, ty, ps, af, gd⟩ K = K (.pointer (some ⟨H.next, 0, none⟩)) (H.push (.row true 68 [.slice none 0 0])) := s_alloc T.new140
theorem T.l147 {H : Heap} {b off : Nat} : aLoad Try.prog H 54 (.pointer (some ⟨b, off, none⟩)) = rowAt (H.get b) off := load_one T.r147
theorem T.lp147 {H : Heap} {v : Value} : aLoad Try.prog H 54 (fpv [v]) = some v := load_fz_one T.r147
theorem T.w147 {H : Heap} {b off : Nat} {x : Value} (hx : isSl x = true) : aStore Try.prog H 54 (.pointer (some ⟨b, off, none⟩)) (x) = stRow H b off [x] (H.get b) := store_row (vs := [x]) T.z147 T.s147 (isSl_cells hx) rfl (by simp only [List.all_cons, List.all_nil, isSl_one hx, Bool.and_true])
theorem T.new147 : aNew Try.prog (fun _ => none) (.alloc 54) = some (54, [.slice none 0 0], fun b => .pointer (some ⟨b, 0, none⟩)) := by kernel_rfl
theorem T.alloc147 {H : Heap} {e : Env} {K : Value → Heap → Prop} {d : Option Tmp} {ty : TypeId} {ps : String} {af : Array Edge} {gd : Option (Nat × Bool)} : aStep Try.prog e H ⟨d, .alloc 54, ty, ps, af, gd⟩ K = K (.pointer (some ⟨H.next, 0, none⟩)) (H.push (.row true 54 [.slice none 0 0])) := s_alloc T.new147
theorem T.l155 {H : Heap} {b off : Nat} : aLoad Try.prog H 62 (.pointer (some ⟨b, off, none⟩)) = rowAt (H.get b) off := load_one T.r155
theorem T.lp155 {H : Heap} {v : Value} : aLoad Try.prog H 62 (fpv [v]) = some v := load_fz_one T.r155
theorem T.w155 {H : Heap} {b off : Nat} {x : Int}  : aStore Try.prog H 62 (.pointer (some ⟨b, off, none⟩)) (.int .u64 x) = stRow H b off [.int .u64 x] (H.get b) := store_row (vs := [.int .u64 x]) T.z155 T.s155 (rfl) rfl (rfl)
theorem T.new155 : aNew Try.prog (fun _ => none) (.alloc 62) = some (62, [.int .u64 0], fun b => .pointer (some ⟨b, 0, none⟩)) := by kernel_rfl
theorem T.alloc155 {H : Heap} {e : Env} {K : Value → Heap → Prop} {d : Option Tmp} {ty : TypeId} {ps : String} {af : Array Edge} {gd : Option (Nat × Bool)} : aStep Try.prog e H ⟨d, .alloc 62, ty, ps, af, gd⟩ K = K (.pointer (some ⟨H.next, 0, none⟩)) (H.push (.row true 62 [.int .u64 0])) := s_alloc T.new155
theorem T.l156 {H : Heap} {b off : Nat} : aLoad Try.prog H 63 (.pointer (some ⟨b, off, none⟩)) = rowAt (H.get b) off := load_one T.r156
theorem T.lp156 {H : Heap} {v : Value} : aLoad Try.prog H 63 (fpv [v]) = some v := load_fz_one T.r156
theorem T.w156 {H : Heap} {b off : Nat} {x : Int}  : aStore Try.prog H 63 (.pointer (some ⟨b, off, none⟩)) (.int .u64 x) = stRow H b off [.int .u64 x] (H.get b) := store_row (vs := [.int .u64 x]) T.z156 T.s156 (rfl) rfl (rfl)
theorem T.new156 : aNew Try.prog (fun _ => none) (.alloc 63) = some (63, [.int .u64 0], fun b => .pointer (some ⟨b, 0, none⟩)) := by kernel_rfl
theorem T.alloc156 {H : Heap} {e : Env} {K : Value → Heap → Prop} {d : Option Tmp} {ty : TypeId} {ps : String} {af : Array Edge} {gd : Option (Nat × Bool)} : aStep Try.prog e H ⟨d, .alloc 63, ty, ps, af, gd⟩ K = K (.pointer (some ⟨H.next, 0, none⟩)) (H.push (.row true 63 [.int .u64 0])) := s_alloc T.new156
theorem T.e4 {x y : Operand} {a b : Bool} : aBin Try.prog .eql 4 x y (.bool a) (.bool b) = some (.bool (a == b)) := bin_beql Try.underlying4
theorem T.n4 {x y : Operand} {a b : Bool} : aBin Try.prog .neq 4 x y (.bool a) (.bool b) = some (.bool (a != b)) := bin_bneq Try.underlying4
theorem T.c2_2 {H : Heap} {k : IntKind} {n : Int} : aConv Try.prog H 2 2 (.int k n) = some (.int .i64 (IntKind.i64.wrap n)) := conv_int T.i2 Try.underlying2 Try.underlying2
theorem T.c2_3 {H : Heap} {k : IntKind} {n : Int} : aConv Try.prog H 2 3 (.int k n) = some (.int .i64 (IntKind.i64.wrap n)) := conv_int T.i2 Try.underlying2 Try.underlying3
theorem T.c2_5 {H : Heap} {k : IntKind} {n : Int} : aConv Try.prog H 2 5 (.int k n) = some (.int .u8 (IntKind.u8.wrap n)) := conv_int T.i2 Try.underlying2 Try.underlying5
theorem T.c2_21 {H : Heap} {k : IntKind} {n : Int} : aConv Try.prog H 2 21 (.int k n) = some (.int .i32 (IntKind.i32.wrap n)) := conv_int T.i2 Try.underlying2 Try.underlying21
theorem T.c2_50 {H : Heap} {k : IntKind} {n : Int} : aConv Try.prog H 2 50 (.int k n) = some (.int .u32 (IntKind.u32.wrap n)) := conv_int T.i2 Try.underlying2 Try.underlying50
theorem T.c2_155 {H : Heap} {k : IntKind} {n : Int} : aConv Try.prog H 2 62 (.int k n) = some (.int .u64 (IntKind.u64.wrap n)) := conv_int T.i2 Try.underlying2 Try.underlying62
theorem T.c2_156 {H : Heap} {k : IntKind} {n : Int} : aConv Try.prog H 2 63 (.int k n) = some (.int .u64 (IntKind.u64.wrap n)) := conv_int T.i2 Try.underlying2 Try.underlying63
theorem T.c3_2 {H : Heap} {k : IntKind} {n : Int} : aConv Try.prog H 3 2 (.int k n) = some (.int .i64 (IntKind.i64.wrap n)) := conv_int T.i3 Try.underlying3 Try.underlying2
theorem T.c3_3 {H : Heap} {k : IntKind} {n : Int} : aConv Try.prog H 3 3 (.int k n) = some (.int .i64 (IntKind.i64.wrap n)) := conv_int T.i3 Try.underlying3 Try.underlying3
theorem T.c3_5 {H : Heap} {k : IntKind} {n : Int} : aConv Try.prog H 3 5 (.int k n) = some (.int .u8 (IntKind.u8.wrap n)) := conv_int T.i3 Try.underlying3 Try.underlying5
theorem T.c3_21 {H : Heap} {k : IntKind} {n : Int} : aConv Try.prog H 3 21 (.int k n) = some (.int .i32 (IntKind.i32.wrap n)) := conv_int T.i3 Try.underlying3 Try.underlying21
theorem T.c3_50 {H : Heap} {k : IntKind} {n : Int} : aConv Try.prog H 3 50 (.int k n) = some (.int .u32 (IntKind.u32.wrap n)) := conv_int T.i3 Try.underlying3 Try.underlying50
theorem T.c3_155 {H : Heap} {k : IntKind} {n : Int} : aConv Try.prog H 3 62 (.int k n) = some (.int .u64 (IntKind.u64.wrap n)) := conv_int T.i3 Try.underlying3 Try.underlying62
theorem T.c3_156 {H : Heap} {k : IntKind} {n : Int} : aConv Try.prog H 3 63 (.int k n) = some (.int .u64 (IntKind.u64.wrap n)) := conv_int T.i3 Try.underlying3 Try.underlying63
theorem T.c5_2 {H : Heap} {k : IntKind} {n : Int} : aConv Try.prog H 5 2 (.int k n) = some (.int .i64 (IntKind.i64.wrap n)) := conv_int T.i5 Try.underlying5 Try.underlying2
theorem T.c5_3 {H : Heap} {k : IntKind} {n : Int} : aConv Try.prog H 5 3 (.int k n) = some (.int .i64 (IntKind.i64.wrap n)) := conv_int T.i5 Try.underlying5 Try.underlying3
theorem T.c5_5 {H : Heap} {k : IntKind} {n : Int} : aConv Try.prog H 5 5 (.int k n) = some (.int .u8 (IntKind.u8.wrap n)) := conv_int T.i5 Try.underlying5 Try.underlying5
theorem T.c5_21 {H : Heap} {k : IntKind} {n : Int} : aConv Try.prog H 5 21 (.int k n) = some (.int .i32 (IntKind.i32.wrap n)) := conv_int T.i5 Try.underlying5 Try.underlying21
theorem T.c5_50 {H : Heap} {k : IntKind} {n : Int} : aConv Try.prog H 5 50 (.int k n) = some (.int .u32 (IntKind.u32.wrap n)) := conv_int T.i5 Try.underlying5 Try.underlying50
theorem T.c5_155 {H : Heap} {k : IntKind} {n : Int} : aConv Try.prog H 5 62 (.int k n) = some (.int .u64 (IntKind.u64.wrap n)) := conv_int T.i5 Try.underlying5 Try.underlying62
theorem T.c5_156 {H : Heap} {k : IntKind} {n : Int} : aConv Try.prog H 5 63 (.int k n) = some (.int .u64 (IntKind.u64.wrap n)) := conv_int T.i5 Try.underlying5 Try.underlying63
theorem T.c21_2 {H : Heap} {k : IntKind} {n : Int} : aConv Try.prog H 21 2 (.int k n) = some (.int .i64 (IntKind.i64.wrap n)) := conv_int T.i21 Try.underlying21 Try.underlying2
theorem T.c21_3 {H : Heap} {k : IntKind} {n : Int} : aConv Try.prog H 21 3 (.int k n) = some (.int .i64 (IntKind.i64.wrap n)) := conv_int T.i21 Try.underlying21 Try.underlying3
theorem T.c21_5 {H : Heap} {k : IntKind} {n : Int} : aConv Try.prog H 21 5 (.int k n) = some (.int .u8 (IntKind.u8.wrap n)) := conv_int T.i21 Try.underlying21 Try.underlying5
theorem T.c21_21 {H : Heap} {k : IntKind} {n : Int} : aConv Try.prog H 21 21 (.int k n) = some (.int .i32 (IntKind.i32.wrap n)) := conv_int T.i21 Try.underlying21 Try.underlying21
theorem T.c21_50 {H : Heap} {k : IntKind} {n : Int} : aConv Try.prog H 21 50 (.int k n) = some (.int .u32 (IntKind.u32.wrap n)) := conv_int T.i21 Try.underlying21 Try.underlying50
theorem T.c21_155 {H : Heap} {k : IntKind} {n : Int} : aConv Try.prog H 21 62 (.int k n) = some (.int .u64 (IntKind.u64.wrap n)) := conv_int T.i21 Try.underlying21 Try.underlying62
theorem T.c21_156 {H : Heap} {k : IntKind} {n : Int} : aConv Try.prog H 21 63 (.int k n) = some (.int .u64 (IntKind.u64.wrap n)) := conv_int T.i21 Try.underlying21 Try.underlying63
theorem T.c50_2 {H : Heap} {k : IntKind} {n : Int} : aConv Try.prog H 50 2 (.int k n) = some (.int .i64 (IntKind.i64.wrap n)) := conv_int T.i50 Try.underlying50 Try.underlying2
theorem T.c50_3 {H : Heap} {k : IntKind} {n : Int} : aConv Try.prog H 50 3 (.int k n) = some (.int .i64 (IntKind.i64.wrap n)) := conv_int T.i50 Try.underlying50 Try.underlying3
theorem T.c50_5 {H : Heap} {k : IntKind} {n : Int} : aConv Try.prog H 50 5 (.int k n) = some (.int .u8 (IntKind.u8.wrap n)) := conv_int T.i50 Try.underlying50 Try.underlying5
theorem T.c50_21 {H : Heap} {k : IntKind} {n : Int} : aConv Try.prog H 50 21 (.int k n) = some (.int .i32 (IntKind.i32.wrap n)) := conv_int T.i50 Try.underlying50 Try.underlying21
theorem T.c50_50 {H : Heap} {k : IntKind} {n : Int} : aConv Try.prog H 50 50 (.int k n) = some (.int .u32 (IntKind.u32.wrap n)) := conv_int T.i50 Try.underlying50 Try.underlying50
theorem T.c50_155 {H : Heap} {k : IntKind} {n : Int} : aConv Try.prog H 50 62 (.int k n) = some (.int .u64 (IntKind.u64.wrap n)) := conv_int T.i50 Try.underlying50 Try.underlying62
theorem T.c50_156 {H : Heap} {k : IntKind} {n : Int} : aConv Try.prog H 50 63 (.int k n) = some (.int .u64 (IntKind.u64.wrap n)) := conv_int T.i50 Try.underlying50 Try.underlying63
theorem T.c155_2 {H : Heap} {k : IntKind} {n : Int} : aConv Try.prog H 62 2 (.int k n) = some (.int .i64 (IntKind.i64.wrap n)) := conv_int T.i155 Try.underlying62 Try.underlying2
theorem T.c155_3 {H : Heap} {k : IntKind} {n : Int} : aConv Try.prog H 62 3 (.int k n) = some (.int .i64 (IntKind.i64.wrap n)) := conv_int T.i155 Try.underlying62 Try.underlying3
theorem T.c155_5 {H : Heap} {k : IntKind} {n : Int} : aConv Try.prog H 62 5 (.int k n) = some (.int .u8 (IntKind.u8.wrap n)) := conv_int T.i155 Try.underlying62 Try.underlying5
theorem T.c155_21 {H : Heap} {k : IntKind} {n : Int} : aConv Try.prog H 62 21 (.int k n) = some (.int .i32 (IntKind.i32.wrap n)) := conv_int T.i155 Try.underlying62 Try.underlying21
theorem T.c155_50 {H : Heap} {k : IntKind} {n : Int} : aConv Try.prog H 62 50 (.int k n) = some (.int .u32 (IntKind.u32.wrap n)) := conv_int T.i155 Try.underlying62 Try.underlying50
theorem T.c155_155 {H : Heap} {k : IntKind} {n : Int} : aConv Try.prog H 62 62 (.int k n) = some (.int .u64 (IntKind.u64.wrap n)) := conv_int T.i155 Try.underlying62 Try.underlying62
theorem T.c155_156 {H : Heap} {k : IntKind} {n : Int} : aConv Try.prog H 62 63 (.int k n) = some (.int .u64 (IntKind.u64.wrap n)) := conv_int T.i155 Try.underlying62 Try.underlying63
theorem T.c156_2 {H : Heap} {k : IntKind} {n : Int} : aConv Try.prog H 63 2 (.int k n) = some (.int .i64 (IntKind.i64.wrap n)) := conv_int T.i156 Try.underlying63 Try.underlying2
theorem T.c156_3 {H : Heap} {k : IntKind} {n : Int} : aConv Try.prog H 63 3 (.int k n) = some (.int .i64 (IntKind.i64.wrap n)) := conv_int T.i156 Try.underlying63 Try.underlying3
theorem T.c156_5 {H : Heap} {k : IntKind} {n : Int} : aConv Try.prog H 63 5 (.int k n) = some (.int .u8 (IntKind.u8.wrap n)) := conv_int T.i156 Try.underlying63 Try.underlying5
theorem T.c156_21 {H : Heap} {k : IntKind} {n : Int} : aConv Try.prog H 63 21 (.int k n) = some (.int .i32 (IntKind.i32.wrap n)) := conv_int T.i156 Try.underlying63 Try.underlying21
theorem T.c156_50 {H : Heap} {k : IntKind} {n : Int} : aConv Try.prog H 63 50 (.int k n) = some (.int .u32 (IntKind.u32.wrap n)) := conv_int T.i156 Try.underlying63 Try.underlying50
theorem T.c156_155 {H : Heap} {k : IntKind} {n : Int} : aConv Try.prog H 63 62 (.int k n) = some (.int .u64 (IntKind.u64.wrap n)) := conv_int T.i156 Try.underlying63 Try.underlying62
theorem T.c156_156 {H : Heap} {k : IntKind} {n : Int} : aConv Try.prog H 63 63 (.int k n) = some (.int .u64 (IntKind.u64.wrap n)) := conv_int T.i156 Try.underlying63 Try.underlying63
theorem T.parts22 {H : Heap} {e : Env} {K : Value → Heap → Prop} {d : Option Tmp} {ty : TypeId} {ps : String} {af : Array Edge} {gd : Option (Nat × Bool)} {parts : List (Nat × Operand)} {len : Nat} (hlen : len ≤ 2 ^ 24) : aStep Try.prog e H ⟨d, .buildSlice 22 len ⟨parts⟩, ty, ps, af, gd⟩ K = ob (evps e parts) fun vs => ob (pFill (.int .u32 0) len vs) fun cs => K (.slice (some ⟨H.next, 0, none⟩) len len) (H.push (.row true 50 cs)) :=
  s_parts Try.underlying22 (info_of_type Try.type50) (z := .int .u32 0) rfl rfl rfl rfl hlen
theorem T.make22 {H : Heap} {e : Env} {K : Value → Heap → Prop} {d : Option Tmp} {ty : TypeId} {ps : String} {af : Array Edge} {gd : Option (Nat × Bool)} {x y : Operand} : aStep Try.prog e H ⟨d, .makeSlice 22 x y, ty, ps, af, gd⟩ K = ob (e x) fun a => ob (e y) fun b => ob (aMk 4 a b) fun p => K (.slice (some ⟨H.next, 0, none⟩) p.1 p.2) (H.push (.row true 50 (List.replicate p.2 (.int .u32 0)))) :=
  s_make Try.underlying22 (info_of_type Try.type50) (z := .int .u32 0) rfl rfl rfl rfl
theorem T.nil22 {x y : Operand} {v : Value} (h : isSlc v = true) {n c : Nat} : aBin Try.prog .eql 22 x y v (.slice none n c) = some (.bool (isNil v)) := bin_isNil Try.underlying22 h
theorem T.lz22 {n : Nat} {cells : List Value} : aLen Try.prog 22 (fzv n cells) = some (.int .i64 n) := len_fz T.i22
theorem T.lv22 {α : Type} {e : En α} {l : List α} : aLen Try.prog 22 (Vv e l) = some (.int .i64 l.length) := len_fz T.i22
theorem T.iv22 {l : List _} {k : IntKind} {i : Int} (h0 : 0 ≤ i) (h1 : i < l.length) : aIndexAddr Try.prog 22 (Vv eU l) (.int k i) = some (fpv (eU.enc (l.getD i.toNat eU.d))) := idx_Vv Try.underlying22 T.s50 T.z50 rfl h0 h1
theorem T.up22 {H : Heap} {l : List _} {k : IntKind} {i : Int} (h0 : 0 ≤ i) (h1 : i ≤ l.length) : aSlice Try.prog H 22 (Vv eU l) none (some (.int k i)) none = some (Vv eU (l.take i.toNat)) := upto_Vv Try.underlying22 T.s50 T.z50 rfl h0 h1
theorem T.fr22 {H : Heap} {l : List _} {k : IntKind} {i : Int} (h0 : 0 ≤ i) (h1 : i ≤ l.length) : aSlice Try.prog H 22 (Vv eU l) (some (.int k i)) none none = some (Vv eU (l.drop i.toNat)) := from_Vv Try.underlying22 T.s50 T.z50 rfl h0 h1
theorem T.ln22 : aLen Try.prog 22 (.slice none 0 0) = some (.int .i64 0) := len_nil T.i22
theorem T.parts140 {H : Heap} {e : Env} {K : Value → Heap → Prop} {d : Option Tmp} {ty : TypeId} {ps : String} {af : Array Edge} {gd : Option (Nat × Bool)} {parts : List (Nat × Operand)} {len : Nat} (hlen : len ≤ 2 ^ 24) : aStep Try.prog e H ⟨d, .buildSlice 68 len ⟨parts⟩, ty, ps, af, gd⟩ K = ob (evps e parts) fun vs => ob (pFill (.int .u8 0) len vs) fun cs => K (.slice (some ⟨H.next, 0, none⟩) len len) (H.push (.row true 5 cs)) :=
  s_parts Try.underlying68 (info_of_type Try.type5) (z := .int .u8 0) rfl rfl rfl rfl hlen
theorem T.make140 {H : Heap} {e : Env} {K : Value → Heap → Prop} {d : Option Tmp} {ty : TypeId} {ps : String} {af : Array Edge} {gd : Option (Nat × Bool)} {x y : Operand} : aStep Try.prog e H ⟨d, .makeSlice 68 x y, ty, ps, af, gd⟩ K = ob (e x) fun a => ob (e y) fun b => ob (aMk 1 a b) fun p => K (.slice (some ⟨H.next, 0, none⟩) p.1 p.2) (H.push (.row true 5 (List.replicate p.2 (.int .u8 0)))) :=
  s_make Try.underlying68 (info_of_type Try.type5) (z := .int .u8 0) rfl rfl rfl rfl
theorem T.nil140 {x y : Operand} {v : Value} (h : isSlc v = true) {n c : Nat} : aBin Try.prog .eql 68 x y v (.slice none n c) = some (.bool (isNil v)) := bin_isNil Try.underlying68 h
theorem T.lz140 {n : Nat} {cells : List Value} : aLen Try.prog 68 (fzv n cells) = some (.int .i64 n) := len_fz T.i140
theorem T.lv140 {α : Type} {e : En α} {l : List α} : aLen Try.prog 68 (Vv e l) = some (.int .i64 l.length) := len_fz T.i140
theorem T.iv140 {l : List _} {k : IntKind} {i : Int} (h0 : 0 ≤ i) (h1 : i < l.length) : aIndexAddr Try.prog 68 (Vv eY l) (.int k i) = some (fpv (eY.enc (l.getD i.toNat eY.d))) := idx_Vv Try.underlying68 T.s5 T.z5 rfl h0 h1
theorem T.up140 {H : Heap} {l : List _} {k : IntKind} {i : Int} (h0 : 0 ≤ i) (h1 : i ≤ l.length) : aSlice Try.prog H 68 (Vv eY l) none (some (.int k i)) none = some (Vv eY (l.take i.toNat)) := upto_Vv Try.underlying68 T.s5 T.z5 rfl h0 h1
theorem T.fr140 {H : Heap} {l : List _} {k : IntKind} {i : Int} (h0 : 0 ≤ i) (h1 : i ≤ l.length) : aSlice Try.prog H 68 (Vv eY l) (some (.int k i)) none none = some (Vv eY (l.drop i.toNat)) := from_Vv Try.underlying68 T.s5 T.z5 rfl h0 h1
theorem T.ln140 : aLen Try.prog 68 (.slice none 0 0) = some (.int .i64 0) := len_nil T.i140
theorem T.rows147 {H : Heap} {e : Env} {K : Value → Heap → Prop} {d : Option Tmp} {ty : TypeId} {ps : String} {af : Array Edge} {gd : Option (Nat × Bool)} {parts : List (Nat × Operand)} {len : Nat} (hlen : len ≤ 2 ^ 20) : aStep Try.prog e H ⟨d, .buildSlice 54 len ⟨parts⟩, ty, ps, af, gd⟩ K = ob (evps e parts) fun vs => ob (rFill 2 (Try.t24.zero.getD undef) len vs) fun cs => K (.slice (some ⟨H.next, 0, none⟩) len len) (H.push (.row true 24 cs)) :=
  s_rows (es := 2) Try.underlying54 (info_of_type Try.type24) (z := Try.t24.zero.getD undef) rfl rfl rfl rfl (by omega) (by omega)
theorem T.makes147 {H : Heap} {e : Env} {K : Value → Heap → Prop} {d : Option Tmp} {ty : TypeId} {ps : String} {af : Array Edge} {gd : Option (Nat × Bool)} {x y : Operand} : aStep Try.prog e H ⟨d, .makeSlice 54 x y, ty, ps, af, gd⟩ K = ob (e x) fun a => ob (e y) fun b => ob (aMk 32 a b) fun p => K (.slice (some ⟨H.next, 0, none⟩) p.1 p.2) (H.push (.row true 24 (repC p.2 [.bool false, .slice none 0 0]))) :=
  s_makes (info_of_type Try.type24) Try.underlying54 rfl ⟨rfl, rfl, by decide⟩ rfl
theorem T.nil147 {x y : Operand} {v : Value} (h : isSlc v = true) {n c : Nat} : aBin Try.prog .eql 54 x y v (.slice none n c) = some (.bool (isNil v)) := bin_isNil Try.underlying54 h
theorem T.lz147 {n : Nat} {cells : List Value} : aLen Try.prog 54 (fzv n cells) = some (.int .i64 n) := len_fz T.i147
theorem T.lv147 {α : Type} {e : En α} {l : List α} : aLen Try.prog 54 (Vv e l) = some (.int .i64 l.length) := len_fz T.i147
theorem T.iv147 {l : List _} {k : IntKind} {i : Int} (h0 : 0 ≤ i) (h1 : i < l.length) : aIndexAddr Try.prog 54 (Vv eI l) (.int k i) = some (fpv (eI.enc (l.getD i.toNat eI.d))) := idx_Vv Try.underlying54 T.s24 T.z24 rfl h0 h1
theorem T.up147 {H : Heap} {l : List _} {k : IntKind} {i : Int} (h0 : 0 ≤ i) (h1 : i ≤ l.length) : aSlice Try.prog H 54 (Vv eI l) none (some (.int k i)) none = some (Vv eI (l.take i.toNat)) := upto_Vv Try.underlying54 T.s24 T.z24 rfl h0 h1
theorem T.fr147 {H : Heap} {l : List _} {k : IntKind} {i : Int} (h0 : 0 ≤ i) (h1 : i ≤ l.length) : aSlice Try.prog H 54 (Vv eI l) (some (.int k i)) none none = some (Vv eI (l.drop i.toNat)) := from_Vv Try.underlying54 T.s24 T.z24 rfl h0 h1
theorem T.ln147 : aLen Try.prog 54 (.slice none 0 0) = some (.int .i64 0) := len_nil T.i147
theorem T.b24_   : aBuild Try.prog 24 (some []) = some (.agg ⟨[.bool false, .slice none 0 0]⟩) := by  kernel_rfl
theorem T.b24_0_1 {x : Bool} {y : Value} (hy : isSl y = true) : aBuild Try.prog 24 (some [(0, .bool x), (1, y)]) = some (.agg ⟨[.bool x, y]⟩) := by rcases isSl_form hy with ⟨_, _, _, rfl⟩ | ⟨_, _, rfl⟩ <;> kernel_rfl
theorem T.b24_1 {y : Value} (hy : isSl y = true) : aBuild Try.prog 24 (some [(1, y)]) = some (.agg ⟨[.bool false, y]⟩) := by rcases isSl_form hy with ⟨_, _, _, rfl⟩ | ⟨_, _, rfl⟩ <;> kernel_rfl
attribute [go_sem] T.l2 T.lp2 T.w2 T.alloc2 T.l3 T.lp3 T.w3 T.alloc3 T.l4 T.lp4 T.w4 T.alloc4
attribute [go_sem] T.l5 T.lp5 T.w5 T.alloc5 T.l9 T.lp9 T.w9 T.alloc9 T.l21 T.lp21 T.w21 T.alloc21
attribute [go_sem] T.l22 T.lp22 T.w22 T.alloc22 T.f24_0 T.fs24_0 T.fp24_0 T.fd24_0 T.f24_1 T.fs24_1 T.fp24_1 T.fd24_1
attribute [go_sem] T.l24 T.lp24 T.w24 T.alloc24 T.l50 T.lp50 T.w50 T.alloc50 T.l140 T.lp140 T.w140 T.alloc140
attribute [go_sem] T.l147 T.lp147 T.w147 T.alloc147 T.l155 T.lp155 T.w155 T.alloc155 T.l156 T.lp156 T.w156 T.alloc156
attribute [go_sem] T.e4 T.n4 T.c2_2 T.c2_3 T.c2_5 T.c2_21 T.c2_50 T.c2_155 T.c2_156 T.c3_2 T.c3_3 T.c3_5
attribute [go_sem] T.c3_21 T.c3_50 T.c3_155 T.c3_156 T.c5_2 T.c5_3 T.c5_5 T.c5_21 T.c5_50 T.c5_155 T.c5_156 T.c21_2
attribute [go_sem] T.c21_3 T.c21_5 T.c21_21 T.c21_50 T.c21_155 T.c21_156 T.c50_2 T.c50_3 T.c50_5 T.c50_21 T.c50_50 T.c50_155
attribute [go_sem] T.c50_156 T.c155_2 T.c155_3 T.c155_5 T.c155_21 T.c155_50 T.c155_155 T.c155_156 T.c156_2 T.c156_3 T.c156_5 T.c156_21
attribute [go_sem] T.c156_50 T.c156_155 T.c156_156 T.parts22 T.make22 T.iv22 T.up22 T.fr22 T.nil22 T.lz22 T.lv22 T.ln22
attribute [go_sem] T.parts140 T.make140 T.iv140 T.up140 T.fr140 T.nil140 T.lz140 T.lv140 T.ln140 T.rows147 T.makes147 T.iv147
attribute [go_sem] T.up147 T.fr147 T.nil147 T.lz147 T.lv147 T.ln147 T.b24_ T.b24_0_1 T.b24_1
end Go.Abs
