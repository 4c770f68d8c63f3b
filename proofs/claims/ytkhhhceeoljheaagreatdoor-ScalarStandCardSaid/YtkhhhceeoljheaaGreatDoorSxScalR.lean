import Derived.Test.YtkhhhceeoljheaaGreatDoorSxScalF
import Derived.Laws.MakeOwn
import Derived.Laws.OwnMore
namespace Go.Proofs.YtkhhhceeoljheaaGreatDoor
open Go.RowKit Go.Proofs.YtkhhhceeoljheaaGreatDoor.Fl Ieee
def ordV (n : Int) (a b : Int) : Option Ordering := if n = 32 then single.order (IntKind.u32.wrap a).toNat (IntKind.u32.wrap b).toNat else double.order a.toNat b.toNat
theorem order_nan_l (f : Format) (hE : 1 ≤ f.exponentBits) (x y : Nat) (h : isN f x = true) : f.order x y = none := by
  rw [order_eq f hE, h]; rfl
theorem order_nan_r (f : Format) (hE : 1 ≤ f.exponentBits) (x y : Nat) (h : isN f y = true) : f.order x y = none := by
  rw [order_eq f hE, h, Bool.or_true]; rfl
theorem ord_val (n a b : Int) (x y : Nat) (hx : Val n a x) (hy : Val n b y) : FloatKind.f64.format.order x y = ordV n a b := by
  show double.order x y = _
  unfold Val at hx hy
  unfold ordV
  by_cases hn : n = 32
  · rw [if_pos hn] at hx hy ⊢
    unfold Wid at hx hy
    generalize (IntKind.u32.wrap a).toNat = p at *
    generalize (IntKind.u32.wrap b).toNat = q at *
    by_cases c : isN single p = true
    · rw [if_pos c] at hx
      rw [order_nan_l double (by decide) _ _ hx, order_nan_l single (by decide) _ _ c]
    · rw [if_neg c] at hx
      by_cases d : isN single q = true
      · rw [if_pos d] at hy
        rw [order_nan_r double (by decide) _ _ hy, order_nan_r single (by decide) _ _ d]
      · rw [if_neg d] at hy
        rw [hx, hy, order_wide _ _ (by simpa using c) (by simpa using d)]
  · rw [if_neg hn] at hx hy ⊢
    rw [hx, hy]
def relF (op : Int) (o : Option Ordering) : Bool :=
  if op = 1 then o == some .eq else if op = 2 then o != some .eq else if op = 3 then o == some .lt else if op = 4 then o == some .gt
  else if op = 5 then o == some .lt || o == some .eq else o == some .gt || o == some .eq
theorem ret2 {a b : Bool} {n : Int} (h : a = b) : Ending.returned (.tuple #[.bool a, .int .i64 n]) = .returned (.tuple #[.bool b, .int .i64 n]) := by rw [h]
theorem below_drawn_alloc (w : World) (m : Nat) (o : Obj) : Below w.heap.size w ((w.drewN m).alloc o) := by
  have h : Below w.heap.size w (w.drewN m) := ⟨rfl, rfl, rfl, Nat.le_refl _, fun _ _ => rfl⟩
  exact h.alloc (Nat.le_refl _) o
theorem cell_new (w : World) (m : Nat) (c : Array Value) (T : TypeId) (i : Nat) : ((w.drewN m).alloc (.cells c T)).cell? ⟨w.heap.size, i, none⟩ = c[i]? := by
  simp [World.cell?, World.alloc, World.drewN]
set_option maxRecDepth 100000 in
set_option maxHeartbeats 2000000 in
theorem rel_1 (n a b : Int) (w : World) (hn : n = 32 ∨ n = 64) : Calls Tryz.prog 61 #[.int .i64 n, .int .i64 1, .int .u64 a, .int .u64 b] w fun e w' => e = .returned (.tuple #[.bool (relF 1 (ordV n a b)), .int .i64 0]) ∧ Below w.heap.size w w' := by
  have hc := cell_new w
  rcases hn with rfl | rfl
  all_goals
    go_enter Tryz.func61, Tryz.ntmps61
    go_wp2_with (first
      | (go_at_call 137; (with_reducible refine (value_any _ a _).mono ?_); rintro e w' ⟨x, k, rfl, hx, rfl⟩; have HX := Lib.hid hx; clear hx)
      | (go_at_call 137; (with_reducible refine (value_any _ b _).mono ?_); rintro e w' ⟨y, l, rfl, hy, rfl⟩; have HY := Lib.hid hy; clear hy))
    go_ret2
    exact ⟨ret2 (by rw [ord_val _ _ _ _ _ HX.out HY.out]; rfl), below_drawn_alloc _ _ _⟩
set_option maxRecDepth 100000 in
set_option maxHeartbeats 2000000 in
theorem rel_2 (n a b : Int) (w : World) (hn : n = 32 ∨ n = 64) : Calls Tryz.prog 61 #[.int .i64 n, .int .i64 2, .int .u64 a, .int .u64 b] w fun e w' => e = .returned (.tuple #[.bool (relF 2 (ordV n a b)), .int .i64 0]) ∧ Below w.heap.size w w' := by
  have hc := cell_new w
  rcases hn with rfl | rfl
  all_goals
    go_enter Tryz.func61, Tryz.ntmps61
    go_wp2_with (first
      | (go_at_call 137; (with_reducible refine (value_any _ a _).mono ?_); rintro e w' ⟨x, k, rfl, hx, rfl⟩; have HX := Lib.hid hx; clear hx)
      | (go_at_call 137; (with_reducible refine (value_any _ b _).mono ?_); rintro e w' ⟨y, l, rfl, hy, rfl⟩; have HY := Lib.hid hy; clear hy))
    go_ret2
    exact ⟨ret2 (by rw [ord_val _ _ _ _ _ HX.out HY.out]; rfl), below_drawn_alloc _ _ _⟩
set_option maxRecDepth 100000 in
set_option maxHeartbeats 2000000 in
theorem rel_3 (n a b : Int) (w : World) (hn : n = 32 ∨ n = 64) : Calls Tryz.prog 61 #[.int .i64 n, .int .i64 3, .int .u64 a, .int .u64 b] w fun e w' => e = .returned (.tuple #[.bool (relF 3 (ordV n a b)), .int .i64 0]) ∧ Below w.heap.size w w' := by
  have hc := cell_new w
  rcases hn with rfl | rfl
  all_goals
    go_enter Tryz.func61, Tryz.ntmps61
    go_wp2_with (first
      | (go_at_call 137; (with_reducible refine (value_any _ a _).mono ?_); rintro e w' ⟨x, k, rfl, hx, rfl⟩; have HX := Lib.hid hx; clear hx)
      | (go_at_call 137; (with_reducible refine (value_any _ b _).mono ?_); rintro e w' ⟨y, l, rfl, hy, rfl⟩; have HY := Lib.hid hy; clear hy))
    go_ret2
    exact ⟨ret2 (by rw [ord_val _ _ _ _ _ HX.out HY.out]; rfl), below_drawn_alloc _ _ _⟩
set_option maxRecDepth 100000 in
set_option maxHeartbeats 2000000 in
theorem rel_4 (n a b : Int) (w : World) (hn : n = 32 ∨ n = 64) : Calls Tryz.prog 61 #[.int .i64 n, .int .i64 4, .int .u64 a, .int .u64 b] w fun e w' => e = .returned (.tuple #[.bool (relF 4 (ordV n a b)), .int .i64 0]) ∧ Below w.heap.size w w' := by
  have hc := cell_new w
  rcases hn with rfl | rfl
  all_goals
    go_enter Tryz.func61, Tryz.ntmps61
    go_wp2_with (first
      | (go_at_call 137; (with_reducible refine (value_any _ a _).mono ?_); rintro e w' ⟨x, k, rfl, hx, rfl⟩; have HX := Lib.hid hx; clear hx)
      | (go_at_call 137; (with_reducible refine (value_any _ b _).mono ?_); rintro e w' ⟨y, l, rfl, hy, rfl⟩; have HY := Lib.hid hy; clear hy))
    go_ret2
    exact ⟨ret2 (by rw [ord_val _ _ _ _ _ HX.out HY.out]; rfl), below_drawn_alloc _ _ _⟩
set_option maxRecDepth 100000 in
set_option maxHeartbeats 2000000 in
theorem rel_5 (n a b : Int) (w : World) (hn : n = 32 ∨ n = 64) : Calls Tryz.prog 61 #[.int .i64 n, .int .i64 5, .int .u64 a, .int .u64 b] w fun e w' => e = .returned (.tuple #[.bool (relF 5 (ordV n a b)), .int .i64 0]) ∧ Below w.heap.size w w' := by
  have hc := cell_new w
  rcases hn with rfl | rfl
  all_goals
    go_enter Tryz.func61, Tryz.ntmps61
    go_wp2_with (first
      | (go_at_call 137; (with_reducible refine (value_any _ a _).mono ?_); rintro e w' ⟨x, k, rfl, hx, rfl⟩; have HX := Lib.hid hx; clear hx)
      | (go_at_call 137; (with_reducible refine (value_any _ b _).mono ?_); rintro e w' ⟨y, l, rfl, hy, rfl⟩; have HY := Lib.hid hy; clear hy))
    go_ret2
    exact ⟨ret2 (by rw [ord_val _ _ _ _ _ HX.out HY.out]; rfl), below_drawn_alloc _ _ _⟩
set_option maxRecDepth 100000 in
set_option maxHeartbeats 2000000 in
theorem rel_6 (n a b : Int) (w : World) (hn : n = 32 ∨ n = 64) : Calls Tryz.prog 61 #[.int .i64 n, .int .i64 6, .int .u64 a, .int .u64 b] w fun e w' => e = .returned (.tuple #[.bool (relF 6 (ordV n a b)), .int .i64 0]) ∧ Below w.heap.size w w' := by
  have hc := cell_new w
  rcases hn with rfl | rfl
  all_goals
    go_enter Tryz.func61, Tryz.ntmps61
    go_wp2_with (first
      | (go_at_call 137; (with_reducible refine (value_any _ a _).mono ?_); rintro e w' ⟨x, k, rfl, hx, rfl⟩; have HX := Lib.hid hx; clear hx)
      | (go_at_call 137; (with_reducible refine (value_any _ b _).mono ?_); rintro e w' ⟨y, l, rfl, hy, rfl⟩; have HY := Lib.hid hy; clear hy))
    go_ret2
    exact ⟨ret2 (by rw [ord_val _ _ _ _ _ HX.out HY.out]; rfl), below_drawn_alloc _ _ _⟩
theorem rel_any (n op a b : Int) (w : World) (hn : n = 32 ∨ n = 64) (ho : 1 ≤ op ∧ op ≤ 6) : Calls Tryz.prog 61 #[.int .i64 n, .int .i64 op, .int .u64 a, .int .u64 b] w fun e w' => e = .returned (.tuple #[.bool (relF op (ordV n a b)), .int .i64 0]) ∧ Below w.heap.size w w' := by
  have : op = 1 ∨ op = 2 ∨ op = 3 ∨ op = 4 ∨ op = 5 ∨ op = 6 := by omega
  rcases this with rfl | rfl | rfl | rfl | rfl | rfl
  · exact rel_1 n a b w hn
  · exact rel_2 n a b w hn
  · exact rel_3 n a b w hn
  · exact rel_4 n a b w hn
  · exact rel_5 n a b w hn
  · exact rel_6 n a b w hn
end Go.Proofs.YtkhhhceeoljheaaGreatDoor
