import Derived.Test.YtkhhhceeoljheaaGreatDoorHxScalU
import Derived.Test.YtkhhhceeoljheaaGreatDoorHxWWords
import Derived.LoopTactic
import Derived.Outline
set_option linter.unusedVariables false
set_option linter.unusedSimpArgs false
set_option linter.unusedVariables false
namespace Go.Proofs.YtkhhhceeoljheaaGreatDoor
open Go.RowKit Go.Proofs.YtkhhhceeoljheaaGreatDoor.Fl Ieee Go.Proofs.YtkhhhceeoljheaaGreatDoorW.PrintWords
theorem val4_any (n a : Int) (w : World) : Calls Tryz.prog 191 #[.int .i64 n, .int .u64 a] w fun e w' => ∃ r k, e = .returned (.float .f64 r) ∧ Val n a r ∧ w' = w.drewN k := by
  by_cases hn : n = 32
  · subst hn
    obtain ⟨r, k, hv, hx⟩ := run_wide (IntKind.u32.wrap a).toNat w
    have HV := Lib.hid hv
    clear hv
    go_enter Tryz.func191, Tryz.ntmps191
    go_wp2_with (first | (go_at_call 149; refine (F32_any _ _).mono ?_; rintro e w' ⟨rfl, rfl⟩))
    go_ret
    exact ⟨r, k, rfl, by unfold Val; rw [if_pos rfl]; exact HV.out, rfl⟩
  · have hne : (n == 32) = false := by simpa using hn
    have HN := Lib.hid hn
    clear hn
    go_enter Tryz.func191, Tryz.ntmps191
    go_wp2_with (first | (go_at_call 192; refine (F64_any _ _).mono ?_; rintro e w' ⟨rfl, rfl⟩))
    go_ret
    exact ⟨_, 0, rfl, by unfold Val; rw [if_neg HN.out], rfl⟩
def pw (k : Nat) : Nat := 2 ^ k
theorem pw_succ (k : Nat) (h : k < 32) : IntKind.u64.wrap ((pw k : Int) * 2) = (pw (k + 1) : Int) := by
  unfold pw
  have h1 : 2 ^ k ≤ 2 ^ 31 := Nat.pow_le_pow_right (by omega) (by omega)
  rw [IntKind.wrap_u64, Nat.pow_succ]
  omega
theorem cut2_32 (a : Int) (w : World) (h0 : 0 ≤ a) (h1 : a ≤ 18446744073709551615) : Calls Tryz.prog 54 #[.int .i64 32, .int .u64 a] w fun e w' => e = .returned (.int .u64 (a % 4294967296)) ∧ w = w' := by
  go_enter Tryz.func54, Tryz.ntmps54
  go_wp2
  go_loop [5, 6] (fun m i => ∃ k : Nat, k ≤ 32 ∧ i = .int .i64 k ∧ m = .int .u64 (pw k : Int)) (fun _ i => 32 - (intOf i).toNat)
  case atStart => exact ⟨0, by omega, rfl, rfl⟩
  case round =>
    obtain ⟨k, hk, rfl, rfl⟩ := hrel
    by_cases hlt : k < 32
    · have HS := Lib.hid (pw_succ k hlt)
      go_wp2
      go_round
      case rel => exact ⟨k + 1, by omega, by go_num, by rw [HS.out]⟩
      case measure => simp [intOf]; omega
    · obtain rfl : k = 32 := by omega
      have hp : (pw 32 : Int) = 4294967296 := by decide
      rw [hp]
      clear hp
      go_wp2
      go_ret
      exact ⟨rfl, rfl⟩
theorem cut2_64 (a : Int) (w : World) : Calls Tryz.prog 54 #[.int .i64 64, .int .u64 a] w fun e w' => e = .returned (.int .u64 a) ∧ w = w' := by
  go_enter Tryz.func54, Tryz.ntmps54
  go_wp2
  go_ret
  exact ⟨rfl, rfl⟩
theorem run_mul32 (w : World) : (binOp .mul 123 (.float .f64 4611686018427387904) (.float .f64 4746794007248502784)).run Tryz.prog w = .ok (.float .f64 4751297606875873280) w := run_float_arith w .mul 123 .f64 _ _ _ (by decide +kernel)
theorem run_mul64 (w : World) : (binOp .mul 123 (.float .f64 4611686018427387904) (.float .f64 4890909195324358656)).run Tryz.prog w = .ok (.float .f64 4895412794951729152) w := run_float_arith w .mul 123 .f64 _ _ _ (by decide +kernel)
theorem run_neg32 (w : World) : (Go.Op.unary .neg (.float .f64 4746794007248502784)).run Tryz.prog w = .ok (.float .f64 13970166044103278592) w := by kernel_rfl
theorem run_neg64 (w : World) : (Go.Op.unary .neg (.float .f64 4890909195324358656)).run Tryz.prog w = .ok (.float .f64 14114281232179134464) w := by kernel_rfl
theorem run_toint (b : Nat) (n : Int) (h : floatToIntVal .f64 b .i64 = some n) (w : World) : (convert 123 2 (.float .f64 b)).run Tryz.prog w = .ok (.int .i64 n) w :=
  run_convert_float_int w 123 2 .f64 .i64 b n (by rw [Tryz.underlying123]; rfl) Tryz.underlying2 h
def lo (tt : Int) (s : Bool) : Nat := if s then (if tt = 32 then 13970166044103278592 else 14114281232179134464) else 0
def hi (tt : Int) (s : Bool) : Nat := if s then (if tt = 32 then 4746794007248502784 else 4890909195324358656) else (if tt = 32 then 4751297606875873280 else 4895412794951729152)
def geq (o : Option Ordering) : Bool := o == some .gt || o == some .eq
def trn (tt : Int) (s : Bool) (t : Nat) : Option Nat :=
  if (double.order t (lo tt s) == some .lt) = true then some (if s then (if tt = 32 then 2147483648 else 9223372036854775808) else 0)
  else if geq (double.order t (hi tt s)) = true then some (if s then (if tt = 32 then 2147483647 else 9223372036854775807) else (if tt = 32 then 4294967295 else 18446744073709551615))
  else if (double.order t 0 == some .lt) = true then (floatToIntVal .f64 t .i64).map fun v => if tt = 32 then (IntKind.u64.wrap v % 4294967296).toNat else (IntKind.u64.wrap v).toNat
  else if geq (double.order t 4890909195324358656) = true then (floatBits .sub .f64 t 4890909195324358656).bind fun d => (floatToIntVal .f64 d .i64).map fun v => (IntKind.u64.wrap (IntKind.u64.wrap v + 9223372036854775808)).toNat
  else (floatToIntVal .f64 t .i64).map fun v => (IntKind.u64.wrap v).toNat
theorem u64_nn (x : Int) : 0 ≤ IntKind.u64.wrap x ∧ IntKind.u64.wrap x ≤ 18446744073709551615 := by rw [IntKind.wrap_u64]; omega
theorem ret_un {a : Int} {n : Int} {b : Nat} (h : a = (b : Int)) : Ending.returned (.tuple #[.int .u64 a, .int .i64 n]) = .returned (.tuple #[.int .u64 b, .int .i64 n]) := by rw [h]
theorem ari_of {o : Option Nat} {r T : Nat} (h : o = some T) (hr : Ari double o r) : r = T := by rw [h] at hr; exact hr
set_option maxRecDepth 100000 in
set_option maxHeartbeats 8000000 in
theorem trn_nan (n : Int) (tt : Int) (s : Bool) (a : Int) (w : World) (hn : n = 32 ∨ n = 64) (ht : tt = 32 ∨ tt = 64) (hv : Hid (∀ r, Val n a r → isN double r = true)) : Calls Tryz.prog 133 #[.int .i64 n, .int .i64 tt, .bool s, .bool true, .int .u64 a] w fun e w' => e = .returned (.tuple #[.int .u64 0, .int .i64 0]) ∧ Drawn0 w w' := by
  rcases hn with rfl | rfl <;> rcases ht with rfl | rfl
  all_goals
    go_enter Tryz.func133, Tryz.ntmps133
    go_wp2_with (first
      | (go_at_call 191; (with_reducible refine (val4_any _ _ _).mono ?_); rintro e w' ⟨x, k, rfl, hr, rfl⟩; have hx := (order_self64 x).trans (hv.out x hr); clear hr))
    go_ret2
    exact ⟨rfl, by first | exact ⟨⟨_, rfl⟩⟩ | exact ⟨⟨_, World.drewN_drewN _ _ _⟩⟩⟩
set_option maxRecDepth 100000 in
set_option maxHeartbeats 8000000 in
theorem trn_32s_lo (n : Int) (a : Int) (X T : Nat) (w : World) (hn : n = 32 ∨ n = 64) (hv : Hid (∀ r, Val n a r → r = X)) (hX : isN double X = false) (hT : Hid (whl .zero X = some T)) (h1 : (FloatKind.f64.format.order T 13970166044103278592 == some .lt) = true) : Calls Tryz.prog 133 #[.int .i64 n, .int .i64 32, .bool true, .bool true, .int .u64 a] w fun e w' => e = .returned (.tuple #[.int .u64 2147483648, .int .i64 0]) ∧ Drawn0 w w' := by
  have hxx := (order_self64 X).trans hX
  clear hX
  have hm := run_mul32
  have hng := run_neg32
  rcases hn with rfl | rfl
  all_goals
    go_enter Tryz.func133, Tryz.ntmps133
    go_wp2_with (first
    | (go_at_call 191; (with_reducible refine (val4_any _ _ _).mono ?_); rintro e w' ⟨x, k, rfl, hr, rfl⟩; (obtain rfl : x = X := hv.out x hr); clear hr)
    | (go_at_call 143; (with_reducible refine (Trunc_any _ _).mono ?_); rintro e w' ⟨r, j, rfl, hr, rfl⟩; (obtain rfl : r = T := ari_of hT.out hr); clear hr)
    | (go_at_call 54; (with_reducible refine (cut2_64 _ _).mono ?_); rintro e w' ⟨rfl, rfl⟩)
    | (go_at_call 54; (with_reducible refine (cut2_32 _ _ (by decide) (by decide)).mono ?_); rintro e w' ⟨rfl, rfl⟩)
    | (go_at_call 54; (with_reducible refine (cut2_32 _ _ (u64_nn _).1 (u64_nn _).2).mono ?_); rintro e w' ⟨rfl, rfl⟩))
    go_ret2
    exact ⟨rfl, by first | exact ⟨⟨_, rfl⟩⟩ | exact ⟨⟨_, World.drewN_drewN _ _ _⟩⟩ | exact Drawn0.refl _⟩
set_option maxRecDepth 100000 in
set_option maxHeartbeats 8000000 in
theorem trn_32s_hi (n : Int) (a : Int) (X T : Nat) (w : World) (hn : n = 32 ∨ n = 64) (hv : Hid (∀ r, Val n a r → r = X)) (hX : isN double X = false) (hT : Hid (whl .zero X = some T)) (h1 : (FloatKind.f64.format.order T 13970166044103278592 == some .lt) = false) (h2 : (FloatKind.f64.format.order T 4746794007248502784 == some .gt || FloatKind.f64.format.order T 4746794007248502784 == some .eq) = true) : Calls Tryz.prog 133 #[.int .i64 n, .int .i64 32, .bool true, .bool true, .int .u64 a] w fun e w' => e = .returned (.tuple #[.int .u64 2147483647, .int .i64 0]) ∧ Drawn0 w w' := by
  have hxx := (order_self64 X).trans hX
  clear hX
  have hm := run_mul32
  have hng := run_neg32
  rcases hn with rfl | rfl
  all_goals
    go_enter Tryz.func133, Tryz.ntmps133
    go_wp2_with (first
    | (go_at_call 191; (with_reducible refine (val4_any _ _ _).mono ?_); rintro e w' ⟨x, k, rfl, hr, rfl⟩; (obtain rfl : x = X := hv.out x hr); clear hr)
    | (go_at_call 143; (with_reducible refine (Trunc_any _ _).mono ?_); rintro e w' ⟨r, j, rfl, hr, rfl⟩; (obtain rfl : r = T := ari_of hT.out hr); clear hr)
    | (go_at_call 54; (with_reducible refine (cut2_64 _ _).mono ?_); rintro e w' ⟨rfl, rfl⟩)
    | (go_at_call 54; (with_reducible refine (cut2_32 _ _ (by decide) (by decide)).mono ?_); rintro e w' ⟨rfl, rfl⟩)
    | (go_at_call 54; (with_reducible refine (cut2_32 _ _ (u64_nn _).1 (u64_nn _).2).mono ?_); rintro e w' ⟨rfl, rfl⟩))
    go_ret2
    exact ⟨rfl, by first | exact ⟨⟨_, rfl⟩⟩ | exact ⟨⟨_, World.drewN_drewN _ _ _⟩⟩ | exact Drawn0.refl _⟩
set_option maxRecDepth 100000 in
set_option maxHeartbeats 8000000 in
theorem trn_32s_neg (n : Int) (a : Int) (X T : Nat) (w : World) (hn : n = 32 ∨ n = 64) (hv : Hid (∀ r, Val n a r → r = X)) (hX : isN double X = false) (hT : Hid (whl .zero X = some T)) (h1 : (FloatKind.f64.format.order T 13970166044103278592 == some .lt) = false) (h2 : (FloatKind.f64.format.order T 4746794007248502784 == some .gt || FloatKind.f64.format.order T 4746794007248502784 == some .eq) = false) (h3 : (FloatKind.f64.format.order T 0 == some .lt) = true) (v : Int) (hv1 : floatToIntVal .f64 T .i64 = some v) : Calls Tryz.prog 133 #[.int .i64 n, .int .i64 32, .bool true, .bool true, .int .u64 a] w fun e w' => e = .returned (.tuple #[.int .u64 (IntKind.u64.wrap v % 4294967296), .int .i64 0]) ∧ Drawn0 w w' := by
  have hxx := (order_self64 X).trans hX
  clear hX
  have hm := run_mul32
  have hng := run_neg32
  have hx1 := run_toint T v hv1
  clear hv1
  rcases hn with rfl | rfl
  all_goals
    go_enter Tryz.func133, Tryz.ntmps133
    go_wp2_with (first
    | (go_at_call 191; (with_reducible refine (val4_any _ _ _).mono ?_); rintro e w' ⟨x, k, rfl, hr, rfl⟩; (obtain rfl : x = X := hv.out x hr); clear hr)
    | (go_at_call 143; (with_reducible refine (Trunc_any _ _).mono ?_); rintro e w' ⟨r, j, rfl, hr, rfl⟩; (obtain rfl : r = T := ari_of hT.out hr); clear hr)
    | (go_at_call 54; (with_reducible refine (cut2_64 _ _).mono ?_); rintro e w' ⟨rfl, rfl⟩)
    | (go_at_call 54; (with_reducible refine (cut2_32 _ _ (by decide) (by decide)).mono ?_); rintro e w' ⟨rfl, rfl⟩)
    | (go_at_call 54; (with_reducible refine (cut2_32 _ _ (u64_nn _).1 (u64_nn _).2).mono ?_); rintro e w' ⟨rfl, rfl⟩))
    go_ret2
    exact ⟨rfl, by first | exact ⟨⟨_, rfl⟩⟩ | exact ⟨⟨_, World.drewN_drewN _ _ _⟩⟩ | exact Drawn0.refl _⟩
set_option maxRecDepth 100000 in
set_option maxHeartbeats 8000000 in
theorem trn_32s_big (n : Int) (a : Int) (X T : Nat) (w : World) (hn : n = 32 ∨ n = 64) (hv : Hid (∀ r, Val n a r → r = X)) (hX : isN double X = false) (hT : Hid (whl .zero X = some T)) (h1 : (FloatKind.f64.format.order T 13970166044103278592 == some .lt) = false) (h2 : (FloatKind.f64.format.order T 4746794007248502784 == some .gt || FloatKind.f64.format.order T 4746794007248502784 == some .eq) = false) (h3 : (FloatKind.f64.format.order T 0 == some .lt) = false) (h4 : (FloatKind.f64.format.order T 4890909195324358656 == some .gt || FloatKind.f64.format.order T 4890909195324358656 == some .eq) = true) (d : Nat) (v : Int) (hd1 : floatBits .sub .f64 T 4890909195324358656 = some d) (hv1 : floatToIntVal .f64 d .i64 = some v) : Calls Tryz.prog 133 #[.int .i64 n, .int .i64 32, .bool true, .bool true, .int .u64 a] w fun e w' => e = .returned (.tuple #[.int .u64 (IntKind.u64.wrap (IntKind.u64.wrap v + 9223372036854775808)), .int .i64 0]) ∧ Drawn0 w w' := by
  have hxx := (order_self64 X).trans hX
  clear hX
  have hm := run_mul32
  have hng := run_neg32
  have hx1 := run_toint d v hv1
  have hx2 := fun w : World => run_float_arith (P := Tryz.prog) w .sub 123 .f64 T 4890909195324358656 d hd1
  clear hv1 hd1
  rcases hn with rfl | rfl
  all_goals
    go_enter Tryz.func133, Tryz.ntmps133
    go_wp2_with (first
    | (go_at_call 191; (with_reducible refine (val4_any _ _ _).mono ?_); rintro e w' ⟨x, k, rfl, hr, rfl⟩; (obtain rfl : x = X := hv.out x hr); clear hr)
    | (go_at_call 143; (with_reducible refine (Trunc_any _ _).mono ?_); rintro e w' ⟨r, j, rfl, hr, rfl⟩; (obtain rfl : r = T := ari_of hT.out hr); clear hr)
    | (go_at_call 54; (with_reducible refine (cut2_64 _ _).mono ?_); rintro e w' ⟨rfl, rfl⟩)
    | (go_at_call 54; (with_reducible refine (cut2_32 _ _ (by decide) (by decide)).mono ?_); rintro e w' ⟨rfl, rfl⟩)
    | (go_at_call 54; (with_reducible refine (cut2_32 _ _ (u64_nn _).1 (u64_nn _).2).mono ?_); rintro e w' ⟨rfl, rfl⟩))
    go_ret2
    exact ⟨rfl, by first | exact ⟨⟨_, rfl⟩⟩ | exact ⟨⟨_, World.drewN_drewN _ _ _⟩⟩ | exact Drawn0.refl _⟩
set_option maxRecDepth 100000 in
set_option maxHeartbeats 8000000 in
theorem trn_32s_mid (n : Int) (a : Int) (X T : Nat) (w : World) (hn : n = 32 ∨ n = 64) (hv : Hid (∀ r, Val n a r → r = X)) (hX : isN double X = false) (hT : Hid (whl .zero X = some T)) (h1 : (FloatKind.f64.format.order T 13970166044103278592 == some .lt) = false) (h2 : (FloatKind.f64.format.order T 4746794007248502784 == some .gt || FloatKind.f64.format.order T 4746794007248502784 == some .eq) = false) (h3 : (FloatKind.f64.format.order T 0 == some .lt) = false) (h4 : (FloatKind.f64.format.order T 4890909195324358656 == some .gt || FloatKind.f64.format.order T 4890909195324358656 == some .eq) = false) (v : Int) (hv1 : floatToIntVal .f64 T .i64 = some v) : Calls Tryz.prog 133 #[.int .i64 n, .int .i64 32, .bool true, .bool true, .int .u64 a] w fun e w' => e = .returned (.tuple #[.int .u64 (IntKind.u64.wrap v), .int .i64 0]) ∧ Drawn0 w w' := by
  have hxx := (order_self64 X).trans hX
  clear hX
  have hm := run_mul32
  have hng := run_neg32
  have hx1 := run_toint T v hv1
  clear hv1
  rcases hn with rfl | rfl
  all_goals
    go_enter Tryz.func133, Tryz.ntmps133
    go_wp2_with (first
    | (go_at_call 191; (with_reducible refine (val4_any _ _ _).mono ?_); rintro e w' ⟨x, k, rfl, hr, rfl⟩; (obtain rfl : x = X := hv.out x hr); clear hr)
    | (go_at_call 143; (with_reducible refine (Trunc_any _ _).mono ?_); rintro e w' ⟨r, j, rfl, hr, rfl⟩; (obtain rfl : r = T := ari_of hT.out hr); clear hr)
    | (go_at_call 54; (with_reducible refine (cut2_64 _ _).mono ?_); rintro e w' ⟨rfl, rfl⟩)
    | (go_at_call 54; (with_reducible refine (cut2_32 _ _ (by decide) (by decide)).mono ?_); rintro e w' ⟨rfl, rfl⟩)
    | (go_at_call 54; (with_reducible refine (cut2_32 _ _ (u64_nn _).1 (u64_nn _).2).mono ?_); rintro e w' ⟨rfl, rfl⟩))
    go_ret2
    exact ⟨rfl, by first | exact ⟨⟨_, rfl⟩⟩ | exact ⟨⟨_, World.drewN_drewN _ _ _⟩⟩ | exact Drawn0.refl _⟩
set_option maxRecDepth 100000 in
set_option maxHeartbeats 8000000 in
theorem trn_32u_lo (n : Int) (a : Int) (X T : Nat) (w : World) (hn : n = 32 ∨ n = 64) (hv : Hid (∀ r, Val n a r → r = X)) (hX : isN double X = false) (hT : Hid (whl .zero X = some T)) (h1 : (FloatKind.f64.format.order T 0 == some .lt) = true) : Calls Tryz.prog 133 #[.int .i64 n, .int .i64 32, .bool false, .bool true, .int .u64 a] w fun e w' => e = .returned (.tuple #[.int .u64 0, .int .i64 0]) ∧ Drawn0 w w' := by
  have hxx := (order_self64 X).trans hX
  clear hX
  have hm := run_mul32
  have hng := run_neg32
  rcases hn with rfl | rfl
  all_goals
    go_enter Tryz.func133, Tryz.ntmps133
    go_wp2_with (first
    | (go_at_call 191; (with_reducible refine (val4_any _ _ _).mono ?_); rintro e w' ⟨x, k, rfl, hr, rfl⟩; (obtain rfl : x = X := hv.out x hr); clear hr)
    | (go_at_call 143; (with_reducible refine (Trunc_any _ _).mono ?_); rintro e w' ⟨r, j, rfl, hr, rfl⟩; (obtain rfl : r = T := ari_of hT.out hr); clear hr)
    | (go_at_call 54; (with_reducible refine (cut2_64 _ _).mono ?_); rintro e w' ⟨rfl, rfl⟩)
    | (go_at_call 54; (with_reducible refine (cut2_32 _ _ (by decide) (by decide)).mono ?_); rintro e w' ⟨rfl, rfl⟩)
    | (go_at_call 54; (with_reducible refine (cut2_32 _ _ (u64_nn _).1 (u64_nn _).2).mono ?_); rintro e w' ⟨rfl, rfl⟩))
    go_ret2
    exact ⟨rfl, by first | exact ⟨⟨_, rfl⟩⟩ | exact ⟨⟨_, World.drewN_drewN _ _ _⟩⟩ | exact Drawn0.refl _⟩
set_option maxRecDepth 100000 in
set_option maxHeartbeats 8000000 in
theorem trn_32u_hi (n : Int) (a : Int) (X T : Nat) (w : World) (hn : n = 32 ∨ n = 64) (hv : Hid (∀ r, Val n a r → r = X)) (hX : isN double X = false) (hT : Hid (whl .zero X = some T)) (h1 : (FloatKind.f64.format.order T 0 == some .lt) = false) (h2 : (FloatKind.f64.format.order T 4751297606875873280 == some .gt || FloatKind.f64.format.order T 4751297606875873280 == some .eq) = true) : Calls Tryz.prog 133 #[.int .i64 n, .int .i64 32, .bool false, .bool true, .int .u64 a] w fun e w' => e = .returned (.tuple #[.int .u64 4294967295, .int .i64 0]) ∧ Drawn0 w w' := by
  have hxx := (order_self64 X).trans hX
  clear hX
  have hm := run_mul32
  have hng := run_neg32
  rcases hn with rfl | rfl
  all_goals
    go_enter Tryz.func133, Tryz.ntmps133
    go_wp2_with (first
    | (go_at_call 191; (with_reducible refine (val4_any _ _ _).mono ?_); rintro e w' ⟨x, k, rfl, hr, rfl⟩; (obtain rfl : x = X := hv.out x hr); clear hr)
    | (go_at_call 143; (with_reducible refine (Trunc_any _ _).mono ?_); rintro e w' ⟨r, j, rfl, hr, rfl⟩; (obtain rfl : r = T := ari_of hT.out hr); clear hr)
    | (go_at_call 54; (with_reducible refine (cut2_64 _ _).mono ?_); rintro e w' ⟨rfl, rfl⟩)
    | (go_at_call 54; (with_reducible refine (cut2_32 _ _ (by decide) (by decide)).mono ?_); rintro e w' ⟨rfl, rfl⟩)
    | (go_at_call 54; (with_reducible refine (cut2_32 _ _ (u64_nn _).1 (u64_nn _).2).mono ?_); rintro e w' ⟨rfl, rfl⟩))
    go_ret2
    exact ⟨rfl, by first | exact ⟨⟨_, rfl⟩⟩ | exact ⟨⟨_, World.drewN_drewN _ _ _⟩⟩ | exact Drawn0.refl _⟩
set_option maxRecDepth 100000 in
set_option maxHeartbeats 8000000 in
theorem trn_32u_big (n : Int) (a : Int) (X T : Nat) (w : World) (hn : n = 32 ∨ n = 64) (hv : Hid (∀ r, Val n a r → r = X)) (hX : isN double X = false) (hT : Hid (whl .zero X = some T)) (h1 : (FloatKind.f64.format.order T 0 == some .lt) = false) (h2 : (FloatKind.f64.format.order T 4751297606875873280 == some .gt || FloatKind.f64.format.order T 4751297606875873280 == some .eq) = false) (h4 : (FloatKind.f64.format.order T 4890909195324358656 == some .gt || FloatKind.f64.format.order T 4890909195324358656 == some .eq) = true) (d : Nat) (v : Int) (hd1 : floatBits .sub .f64 T 4890909195324358656 = some d) (hv1 : floatToIntVal .f64 d .i64 = some v) : Calls Tryz.prog 133 #[.int .i64 n, .int .i64 32, .bool false, .bool true, .int .u64 a] w fun e w' => e = .returned (.tuple #[.int .u64 (IntKind.u64.wrap (IntKind.u64.wrap v + 9223372036854775808)), .int .i64 0]) ∧ Drawn0 w w' := by
  have hxx := (order_self64 X).trans hX
  clear hX
  have hm := run_mul32
  have hng := run_neg32
  have hx1 := run_toint d v hv1
  have hx2 := fun w : World => run_float_arith (P := Tryz.prog) w .sub 123 .f64 T 4890909195324358656 d hd1
  clear hv1 hd1
  rcases hn with rfl | rfl
  all_goals
    go_enter Tryz.func133, Tryz.ntmps133
    go_wp2_with (first
    | (go_at_call 191; (with_reducible refine (val4_any _ _ _).mono ?_); rintro e w' ⟨x, k, rfl, hr, rfl⟩; (obtain rfl : x = X := hv.out x hr); clear hr)
    | (go_at_call 143; (with_reducible refine (Trunc_any _ _).mono ?_); rintro e w' ⟨r, j, rfl, hr, rfl⟩; (obtain rfl : r = T := ari_of hT.out hr); clear hr)
    | (go_at_call 54; (with_reducible refine (cut2_64 _ _).mono ?_); rintro e w' ⟨rfl, rfl⟩)
    | (go_at_call 54; (with_reducible refine (cut2_32 _ _ (by decide) (by decide)).mono ?_); rintro e w' ⟨rfl, rfl⟩)
    | (go_at_call 54; (with_reducible refine (cut2_32 _ _ (u64_nn _).1 (u64_nn _).2).mono ?_); rintro e w' ⟨rfl, rfl⟩))
    go_ret2
    exact ⟨rfl, by first | exact ⟨⟨_, rfl⟩⟩ | exact ⟨⟨_, World.drewN_drewN _ _ _⟩⟩ | exact Drawn0.refl _⟩
set_option maxRecDepth 100000 in
set_option maxHeartbeats 8000000 in
theorem trn_32u_mid (n : Int) (a : Int) (X T : Nat) (w : World) (hn : n = 32 ∨ n = 64) (hv : Hid (∀ r, Val n a r → r = X)) (hX : isN double X = false) (hT : Hid (whl .zero X = some T)) (h1 : (FloatKind.f64.format.order T 0 == some .lt) = false) (h2 : (FloatKind.f64.format.order T 4751297606875873280 == some .gt || FloatKind.f64.format.order T 4751297606875873280 == some .eq) = false) (h4 : (FloatKind.f64.format.order T 4890909195324358656 == some .gt || FloatKind.f64.format.order T 4890909195324358656 == some .eq) = false) (v : Int) (hv1 : floatToIntVal .f64 T .i64 = some v) : Calls Tryz.prog 133 #[.int .i64 n, .int .i64 32, .bool false, .bool true, .int .u64 a] w fun e w' => e = .returned (.tuple #[.int .u64 (IntKind.u64.wrap v), .int .i64 0]) ∧ Drawn0 w w' := by
  have hxx := (order_self64 X).trans hX
  clear hX
  have hm := run_mul32
  have hng := run_neg32
  have hx1 := run_toint T v hv1
  clear hv1
  rcases hn with rfl | rfl
  all_goals
    go_enter Tryz.func133, Tryz.ntmps133
    go_wp2_with (first
    | (go_at_call 191; (with_reducible refine (val4_any _ _ _).mono ?_); rintro e w' ⟨x, k, rfl, hr, rfl⟩; (obtain rfl : x = X := hv.out x hr); clear hr)
    | (go_at_call 143; (with_reducible refine (Trunc_any _ _).mono ?_); rintro e w' ⟨r, j, rfl, hr, rfl⟩; (obtain rfl : r = T := ari_of hT.out hr); clear hr)
    | (go_at_call 54; (with_reducible refine (cut2_64 _ _).mono ?_); rintro e w' ⟨rfl, rfl⟩)
    | (go_at_call 54; (with_reducible refine (cut2_32 _ _ (by decide) (by decide)).mono ?_); rintro e w' ⟨rfl, rfl⟩)
    | (go_at_call 54; (with_reducible refine (cut2_32 _ _ (u64_nn _).1 (u64_nn _).2).mono ?_); rintro e w' ⟨rfl, rfl⟩))
    go_ret2
    exact ⟨rfl, by first | exact ⟨⟨_, rfl⟩⟩ | exact ⟨⟨_, World.drewN_drewN _ _ _⟩⟩ | exact Drawn0.refl _⟩
set_option maxRecDepth 100000 in
set_option maxHeartbeats 8000000 in
theorem trn_64s_lo (n : Int) (a : Int) (X T : Nat) (w : World) (hn : n = 32 ∨ n = 64) (hv : Hid (∀ r, Val n a r → r = X)) (hX : isN double X = false) (hT : Hid (whl .zero X = some T)) (h1 : (FloatKind.f64.format.order T 14114281232179134464 == some .lt) = true) : Calls Tryz.prog 133 #[.int .i64 n, .int .i64 64, .bool true, .bool true, .int .u64 a] w fun e w' => e = .returned (.tuple #[.int .u64 9223372036854775808, .int .i64 0]) ∧ Drawn0 w w' := by
  have hxx := (order_self64 X).trans hX
  clear hX
  have hm := run_mul64
  have hng := run_neg64
  rcases hn with rfl | rfl
  all_goals
    go_enter Tryz.func133, Tryz.ntmps133
    go_wp2_with (first
    | (go_at_call 191; (with_reducible refine (val4_any _ _ _).mono ?_); rintro e w' ⟨x, k, rfl, hr, rfl⟩; (obtain rfl : x = X := hv.out x hr); clear hr)
    | (go_at_call 143; (with_reducible refine (Trunc_any _ _).mono ?_); rintro e w' ⟨r, j, rfl, hr, rfl⟩; (obtain rfl : r = T := ari_of hT.out hr); clear hr)
    | (go_at_call 54; (with_reducible refine (cut2_64 _ _).mono ?_); rintro e w' ⟨rfl, rfl⟩)
    | (go_at_call 54; (with_reducible refine (cut2_32 _ _ (by decide) (by decide)).mono ?_); rintro e w' ⟨rfl, rfl⟩)
    | (go_at_call 54; (with_reducible refine (cut2_32 _ _ (u64_nn _).1 (u64_nn _).2).mono ?_); rintro e w' ⟨rfl, rfl⟩))
    go_ret2
    exact ⟨rfl, by first | exact ⟨⟨_, rfl⟩⟩ | exact ⟨⟨_, World.drewN_drewN _ _ _⟩⟩ | exact Drawn0.refl _⟩
set_option maxRecDepth 100000 in
set_option maxHeartbeats 8000000 in
theorem trn_64s_hi (n : Int) (a : Int) (X T : Nat) (w : World) (hn : n = 32 ∨ n = 64) (hv : Hid (∀ r, Val n a r → r = X)) (hX : isN double X = false) (hT : Hid (whl .zero X = some T)) (h1 : (FloatKind.f64.format.order T 14114281232179134464 == some .lt) = false) (h2 : (FloatKind.f64.format.order T 4890909195324358656 == some .gt || FloatKind.f64.format.order T 4890909195324358656 == some .eq) = true) : Calls Tryz.prog 133 #[.int .i64 n, .int .i64 64, .bool true, .bool true, .int .u64 a] w fun e w' => e = .returned (.tuple #[.int .u64 9223372036854775807, .int .i64 0]) ∧ Drawn0 w w' := by
  have hxx := (order_self64 X).trans hX
  clear hX
  have hm := run_mul64
  have hng := run_neg64
  rcases hn with rfl | rfl
  all_goals
    go_enter Tryz.func133, Tryz.ntmps133
    go_wp2_with (first
    | (go_at_call 191; (with_reducible refine (val4_any _ _ _).mono ?_); rintro e w' ⟨x, k, rfl, hr, rfl⟩; (obtain rfl : x = X := hv.out x hr); clear hr)
    | (go_at_call 143; (with_reducible refine (Trunc_any _ _).mono ?_); rintro e w' ⟨r, j, rfl, hr, rfl⟩; (obtain rfl : r = T := ari_of hT.out hr); clear hr)
    | (go_at_call 54; (with_reducible refine (cut2_64 _ _).mono ?_); rintro e w' ⟨rfl, rfl⟩)
    | (go_at_call 54; (with_reducible refine (cut2_32 _ _ (by decide) (by decide)).mono ?_); rintro e w' ⟨rfl, rfl⟩)
    | (go_at_call 54; (with_reducible refine (cut2_32 _ _ (u64_nn _).1 (u64_nn _).2).mono ?_); rintro e w' ⟨rfl, rfl⟩))
    go_ret2
    exact ⟨rfl, by first | exact ⟨⟨_, rfl⟩⟩ | exact ⟨⟨_, World.drewN_drewN _ _ _⟩⟩ | exact Drawn0.refl _⟩
set_option maxRecDepth 100000 in
set_option maxHeartbeats 8000000 in
theorem trn_64s_neg (n : Int) (a : Int) (X T : Nat) (w : World) (hn : n = 32 ∨ n = 64) (hv : Hid (∀ r, Val n a r → r = X)) (hX : isN double X = false) (hT : Hid (whl .zero X = some T)) (h1 : (FloatKind.f64.format.order T 14114281232179134464 == some .lt) = false) (h2 : (FloatKind.f64.format.order T 4890909195324358656 == some .gt || FloatKind.f64.format.order T 4890909195324358656 == some .eq) = false) (h3 : (FloatKind.f64.format.order T 0 == some .lt) = true) (v : Int) (hv1 : floatToIntVal .f64 T .i64 = some v) : Calls Tryz.prog 133 #[.int .i64 n, .int .i64 64, .bool true, .bool true, .int .u64 a] w fun e w' => e = .returned (.tuple #[.int .u64 (IntKind.u64.wrap v), .int .i64 0]) ∧ Drawn0 w w' := by
  have hxx := (order_self64 X).trans hX
  clear hX
  have hm := run_mul64
  have hng := run_neg64
  have hx1 := run_toint T v hv1
  clear hv1
  rcases hn with rfl | rfl
  all_goals
    go_enter Tryz.func133, Tryz.ntmps133
    go_wp2_with (first
    | (go_at_call 191; (with_reducible refine (val4_any _ _ _).mono ?_); rintro e w' ⟨x, k, rfl, hr, rfl⟩; (obtain rfl : x = X := hv.out x hr); clear hr)
    | (go_at_call 143; (with_reducible refine (Trunc_any _ _).mono ?_); rintro e w' ⟨r, j, rfl, hr, rfl⟩; (obtain rfl : r = T := ari_of hT.out hr); clear hr)
    | (go_at_call 54; (with_reducible refine (cut2_64 _ _).mono ?_); rintro e w' ⟨rfl, rfl⟩)
    | (go_at_call 54; (with_reducible refine (cut2_32 _ _ (by decide) (by decide)).mono ?_); rintro e w' ⟨rfl, rfl⟩)
    | (go_at_call 54; (with_reducible refine (cut2_32 _ _ (u64_nn _).1 (u64_nn _).2).mono ?_); rintro e w' ⟨rfl, rfl⟩))
    go_ret2
    exact ⟨rfl, by first | exact ⟨⟨_, rfl⟩⟩ | exact ⟨⟨_, World.drewN_drewN _ _ _⟩⟩ | exact Drawn0.refl _⟩
set_option maxRecDepth 100000 in
set_option maxHeartbeats 8000000 in
theorem trn_64s_mid (n : Int) (a : Int) (X T : Nat) (w : World) (hn : n = 32 ∨ n = 64) (hv : Hid (∀ r, Val n a r → r = X)) (hX : isN double X = false) (hT : Hid (whl .zero X = some T)) (h1 : (FloatKind.f64.format.order T 14114281232179134464 == some .lt) = false) (h2 : (FloatKind.f64.format.order T 4890909195324358656 == some .gt || FloatKind.f64.format.order T 4890909195324358656 == some .eq) = false) (h3 : (FloatKind.f64.format.order T 0 == some .lt) = false) (v : Int) (hv1 : floatToIntVal .f64 T .i64 = some v) : Calls Tryz.prog 133 #[.int .i64 n, .int .i64 64, .bool true, .bool true, .int .u64 a] w fun e w' => e = .returned (.tuple #[.int .u64 (IntKind.u64.wrap v), .int .i64 0]) ∧ Drawn0 w w' := by
  have hxx := (order_self64 X).trans hX
  clear hX
  have hm := run_mul64
  have hng := run_neg64
  have hx1 := run_toint T v hv1
  clear hv1
  rcases hn with rfl | rfl
  all_goals
    go_enter Tryz.func133, Tryz.ntmps133
    go_wp2_with (first
    | (go_at_call 191; (with_reducible refine (val4_any _ _ _).mono ?_); rintro e w' ⟨x, k, rfl, hr, rfl⟩; (obtain rfl : x = X := hv.out x hr); clear hr)
    | (go_at_call 143; (with_reducible refine (Trunc_any _ _).mono ?_); rintro e w' ⟨r, j, rfl, hr, rfl⟩; (obtain rfl : r = T := ari_of hT.out hr); clear hr)
    | (go_at_call 54; (with_reducible refine (cut2_64 _ _).mono ?_); rintro e w' ⟨rfl, rfl⟩)
    | (go_at_call 54; (with_reducible refine (cut2_32 _ _ (by decide) (by decide)).mono ?_); rintro e w' ⟨rfl, rfl⟩)
    | (go_at_call 54; (with_reducible refine (cut2_32 _ _ (u64_nn _).1 (u64_nn _).2).mono ?_); rintro e w' ⟨rfl, rfl⟩))
    go_ret2
    exact ⟨rfl, by first | exact ⟨⟨_, rfl⟩⟩ | exact ⟨⟨_, World.drewN_drewN _ _ _⟩⟩ | exact Drawn0.refl _⟩
set_option maxRecDepth 100000 in
set_option maxHeartbeats 8000000 in
theorem trn_64u_lo (n : Int) (a : Int) (X T : Nat) (w : World) (hn : n = 32 ∨ n = 64) (hv : Hid (∀ r, Val n a r → r = X)) (hX : isN double X = false) (hT : Hid (whl .zero X = some T)) (h1 : (FloatKind.f64.format.order T 0 == some .lt) = true) : Calls Tryz.prog 133 #[.int .i64 n, .int .i64 64, .bool false, .bool true, .int .u64 a] w fun e w' => e = .returned (.tuple #[.int .u64 0, .int .i64 0]) ∧ Drawn0 w w' := by
  have hxx := (order_self64 X).trans hX
  clear hX
  have hm := run_mul64
  have hng := run_neg64
  rcases hn with rfl | rfl
  all_goals
    go_enter Tryz.func133, Tryz.ntmps133
    go_wp2_with (first
    | (go_at_call 191; (with_reducible refine (val4_any _ _ _).mono ?_); rintro e w' ⟨x, k, rfl, hr, rfl⟩; (obtain rfl : x = X := hv.out x hr); clear hr)
    | (go_at_call 143; (with_reducible refine (Trunc_any _ _).mono ?_); rintro e w' ⟨r, j, rfl, hr, rfl⟩; (obtain rfl : r = T := ari_of hT.out hr); clear hr)
    | (go_at_call 54; (with_reducible refine (cut2_64 _ _).mono ?_); rintro e w' ⟨rfl, rfl⟩)
    | (go_at_call 54; (with_reducible refine (cut2_32 _ _ (by decide) (by decide)).mono ?_); rintro e w' ⟨rfl, rfl⟩)
    | (go_at_call 54; (with_reducible refine (cut2_32 _ _ (u64_nn _).1 (u64_nn _).2).mono ?_); rintro e w' ⟨rfl, rfl⟩))
    go_ret2
    exact ⟨rfl, by first | exact ⟨⟨_, rfl⟩⟩ | exact ⟨⟨_, World.drewN_drewN _ _ _⟩⟩ | exact Drawn0.refl _⟩
set_option maxRecDepth 100000 in
set_option maxHeartbeats 8000000 in
theorem trn_64u_hi (n : Int) (a : Int) (X T : Nat) (w : World) (hn : n = 32 ∨ n = 64) (hv : Hid (∀ r, Val n a r → r = X)) (hX : isN double X = false) (hT : Hid (whl .zero X = some T)) (h1 : (FloatKind.f64.format.order T 0 == some .lt) = false) (h2 : (FloatKind.f64.format.order T 4895412794951729152 == some .gt || FloatKind.f64.format.order T 4895412794951729152 == some .eq) = true) : Calls Tryz.prog 133 #[.int .i64 n, .int .i64 64, .bool false, .bool true, .int .u64 a] w fun e w' => e = .returned (.tuple #[.int .u64 18446744073709551615, .int .i64 0]) ∧ Drawn0 w w' := by
  have hxx := (order_self64 X).trans hX
  clear hX
  have hm := run_mul64
  have hng := run_neg64
  rcases hn with rfl | rfl
  all_goals
    go_enter Tryz.func133, Tryz.ntmps133
    go_wp2_with (first
    | (go_at_call 191; (with_reducible refine (val4_any _ _ _).mono ?_); rintro e w' ⟨x, k, rfl, hr, rfl⟩; (obtain rfl : x = X := hv.out x hr); clear hr)
    | (go_at_call 143; (with_reducible refine (Trunc_any _ _).mono ?_); rintro e w' ⟨r, j, rfl, hr, rfl⟩; (obtain rfl : r = T := ari_of hT.out hr); clear hr)
    | (go_at_call 54; (with_reducible refine (cut2_64 _ _).mono ?_); rintro e w' ⟨rfl, rfl⟩)
    | (go_at_call 54; (with_reducible refine (cut2_32 _ _ (by decide) (by decide)).mono ?_); rintro e w' ⟨rfl, rfl⟩)
    | (go_at_call 54; (with_reducible refine (cut2_32 _ _ (u64_nn _).1 (u64_nn _).2).mono ?_); rintro e w' ⟨rfl, rfl⟩))
    go_ret2
    exact ⟨rfl, by first | exact ⟨⟨_, rfl⟩⟩ | exact ⟨⟨_, World.drewN_drewN _ _ _⟩⟩ | exact Drawn0.refl _⟩
set_option maxRecDepth 100000 in
set_option maxHeartbeats 8000000 in
theorem trn_64u_big (n : Int) (a : Int) (X T : Nat) (w : World) (hn : n = 32 ∨ n = 64) (hv : Hid (∀ r, Val n a r → r = X)) (hX : isN double X = false) (hT : Hid (whl .zero X = some T)) (h1 : (FloatKind.f64.format.order T 0 == some .lt) = false) (h2 : (FloatKind.f64.format.order T 4895412794951729152 == some .gt || FloatKind.f64.format.order T 4895412794951729152 == some .eq) = false) (h4 : (FloatKind.f64.format.order T 4890909195324358656 == some .gt || FloatKind.f64.format.order T 4890909195324358656 == some .eq) = true) (d : Nat) (v : Int) (hd1 : floatBits .sub .f64 T 4890909195324358656 = some d) (hv1 : floatToIntVal .f64 d .i64 = some v) : Calls Tryz.prog 133 #[.int .i64 n, .int .i64 64, .bool false, .bool true, .int .u64 a] w fun e w' => e = .returned (.tuple #[.int .u64 (IntKind.u64.wrap (IntKind.u64.wrap v + 9223372036854775808)), .int .i64 0]) ∧ Drawn0 w w' := by
  have hxx := (order_self64 X).trans hX
  clear hX
  have hm := run_mul64
  have hng := run_neg64
  have hx1 := run_toint d v hv1
  have hx2 := fun w : World => run_float_arith (P := Tryz.prog) w .sub 123 .f64 T 4890909195324358656 d hd1
  clear hv1 hd1
  rcases hn with rfl | rfl
  all_goals
    go_enter Tryz.func133, Tryz.ntmps133
    go_wp2_with (first
    | (go_at_call 191; (with_reducible refine (val4_any _ _ _).mono ?_); rintro e w' ⟨x, k, rfl, hr, rfl⟩; (obtain rfl : x = X := hv.out x hr); clear hr)
    | (go_at_call 143; (with_reducible refine (Trunc_any _ _).mono ?_); rintro e w' ⟨r, j, rfl, hr, rfl⟩; (obtain rfl : r = T := ari_of hT.out hr); clear hr)
    | (go_at_call 54; (with_reducible refine (cut2_64 _ _).mono ?_); rintro e w' ⟨rfl, rfl⟩)
    | (go_at_call 54; (with_reducible refine (cut2_32 _ _ (by decide) (by decide)).mono ?_); rintro e w' ⟨rfl, rfl⟩)
    | (go_at_call 54; (with_reducible refine (cut2_32 _ _ (u64_nn _).1 (u64_nn _).2).mono ?_); rintro e w' ⟨rfl, rfl⟩))
    go_ret2
    exact ⟨rfl, by first | exact ⟨⟨_, rfl⟩⟩ | exact ⟨⟨_, World.drewN_drewN _ _ _⟩⟩ | exact Drawn0.refl _⟩
set_option maxRecDepth 100000 in
set_option maxHeartbeats 8000000 in
theorem trn_64u_mid (n : Int) (a : Int) (X T : Nat) (w : World) (hn : n = 32 ∨ n = 64) (hv : Hid (∀ r, Val n a r → r = X)) (hX : isN double X = false) (hT : Hid (whl .zero X = some T)) (h1 : (FloatKind.f64.format.order T 0 == some .lt) = false) (h2 : (FloatKind.f64.format.order T 4895412794951729152 == some .gt || FloatKind.f64.format.order T 4895412794951729152 == some .eq) = false) (h4 : (FloatKind.f64.format.order T 4890909195324358656 == some .gt || FloatKind.f64.format.order T 4890909195324358656 == some .eq) = false) (v : Int) (hv1 : floatToIntVal .f64 T .i64 = some v) : Calls Tryz.prog 133 #[.int .i64 n, .int .i64 64, .bool false, .bool true, .int .u64 a] w fun e w' => e = .returned (.tuple #[.int .u64 (IntKind.u64.wrap v), .int .i64 0]) ∧ Drawn0 w w' := by
  have hxx := (order_self64 X).trans hX
  clear hX
  have hm := run_mul64
  have hng := run_neg64
  have hx1 := run_toint T v hv1
  clear hv1
  rcases hn with rfl | rfl
  all_goals
    go_enter Tryz.func133, Tryz.ntmps133
    go_wp2_with (first
    | (go_at_call 191; (with_reducible refine (val4_any _ _ _).mono ?_); rintro e w' ⟨x, k, rfl, hr, rfl⟩; (obtain rfl : x = X := hv.out x hr); clear hr)
    | (go_at_call 143; (with_reducible refine (Trunc_any _ _).mono ?_); rintro e w' ⟨r, j, rfl, hr, rfl⟩; (obtain rfl : r = T := ari_of hT.out hr); clear hr)
    | (go_at_call 54; (with_reducible refine (cut2_64 _ _).mono ?_); rintro e w' ⟨rfl, rfl⟩)
    | (go_at_call 54; (with_reducible refine (cut2_32 _ _ (by decide) (by decide)).mono ?_); rintro e w' ⟨rfl, rfl⟩)
    | (go_at_call 54; (with_reducible refine (cut2_32 _ _ (u64_nn _).1 (u64_nn _).2).mono ?_); rintro e w' ⟨rfl, rfl⟩))
    go_ret2
    exact ⟨rfl, by first | exact ⟨⟨_, rfl⟩⟩ | exact ⟨⟨_, World.drewN_drewN _ _ _⟩⟩ | exact Drawn0.refl _⟩
end Go.Proofs.YtkhhhceeoljheaaGreatDoor
set_option linter.unusedVariables false
namespace Go.Proofs.YtkhhhceeoljheaaGreatDoor
open Go.RowKit Go.Proofs.YtkhhhceeoljheaaGreatDoor.Fl Ieee Go.Proofs.YtkhhhceeoljheaaGreatDoorW.PrintWords
theorem bool_f {b : Bool} (h : ¬ b = true) : b = false := by cases b <;> simp_all
theorem trn_32s (n : Int) (a : Int) (X T u : Nat) (w : World) (hn : n = 32 ∨ n = 64) (hv : Hid (∀ r, Val n a r → r = X)) (hX : isN double X = false) (hT : Hid (whl .zero X = some T)) (hu : trn 32 true T = some u) : Calls Tryz.prog 133 #[.int .i64 n, .int .i64 32, .bool true, .bool true, .int .u64 a] w fun e w' => e = .returned (.tuple #[.int .u64 u, .int .i64 0]) ∧ Drawn0 w w' := by
  unfold trn at hu
  by_cases h1 : (double.order T (lo 32 true) == some .lt) = true
  · rw [if_pos h1] at hu
    obtain rfl : 2147483648 = u := Option.some.inj hu
    exact trn_32s_lo n a X T w hn hv hX hT h1
  rw [if_neg h1] at hu
  replace h1 := bool_f h1
  by_cases h2 : geq (double.order T (hi 32 true)) = true
  · rw [if_pos h2] at hu
    obtain rfl : 2147483647 = u := Option.some.inj hu
    exact trn_32s_hi n a X T w hn hv hX hT h1 h2
  rw [if_neg h2] at hu
  replace h2 := bool_f h2
  by_cases h3 : (double.order T 0 == some .lt) = true
  · rw [if_pos h3] at hu
    obtain ⟨v, hv1, hvu⟩ := Option.map_eq_some_iff.1 hu
    have h := trn_32s_neg n a X T w hn hv hX hT h1 h2 h3 v hv1
    refine h.mono ?_
    rintro e w' ⟨rfl, hw⟩
    refine ⟨ret_un ?_, hw⟩
    rw [← hvu]
    have := u64_nn v
    rw [if_pos rfl]; omega
  rw [if_neg h3] at hu
  replace h3 := bool_f h3
  by_cases h4 : geq (double.order T 4890909195324358656) = true
  · rw [if_pos h4] at hu
    obtain ⟨d, hd1, hu⟩ := Option.bind_eq_some_iff.1 hu
    obtain ⟨v, hv1, hvu⟩ := Option.map_eq_some_iff.1 hu
    have h := trn_32s_big n a X T w hn hv hX hT h1 h2 h3 h4 d v hd1 hv1
    refine h.mono ?_
    rintro e w' ⟨rfl, hw⟩
    refine ⟨ret_un ?_, hw⟩
    rw [← hvu]
    have := u64_nn (IntKind.u64.wrap v + 9223372036854775808)
    omega
  rw [if_neg h4] at hu
  replace h4 := bool_f h4
  obtain ⟨v, hv1, hvu⟩ := Option.map_eq_some_iff.1 hu
  have h := trn_32s_mid n a X T w hn hv hX hT h1 h2 h3 h4 v hv1
  refine h.mono ?_
  rintro e w' ⟨rfl, hw⟩
  refine ⟨ret_un ?_, hw⟩
  rw [← hvu]
  have := u64_nn v
  omega
theorem trn_32u (n : Int) (a : Int) (X T u : Nat) (w : World) (hn : n = 32 ∨ n = 64) (hv : Hid (∀ r, Val n a r → r = X)) (hX : isN double X = false) (hT : Hid (whl .zero X = some T)) (hu : trn 32 false T = some u) : Calls Tryz.prog 133 #[.int .i64 n, .int .i64 32, .bool false, .bool true, .int .u64 a] w fun e w' => e = .returned (.tuple #[.int .u64 u, .int .i64 0]) ∧ Drawn0 w w' := by
  unfold trn at hu
  by_cases h1 : (double.order T (lo 32 false) == some .lt) = true
  · rw [if_pos h1] at hu
    obtain rfl : 0 = u := Option.some.inj hu
    exact trn_32u_lo n a X T w hn hv hX hT h1
  rw [if_neg h1] at hu
  replace h1 := bool_f h1
  by_cases h2 : geq (double.order T (hi 32 false)) = true
  · rw [if_pos h2] at hu
    obtain rfl : 4294967295 = u := Option.some.inj hu
    exact trn_32u_hi n a X T w hn hv hX hT h1 h2
  rw [if_neg h2] at hu
  replace h2 := bool_f h2
  by_cases h3 : (double.order T 0 == some .lt) = true
  · rw [if_pos h3] at hu
    have h1' : (double.order T 0 == some .lt) = false := h1
    rw [h1'] at h3; cases h3
  rw [if_neg h3] at hu
  replace h3 := bool_f h3
  by_cases h4 : geq (double.order T 4890909195324358656) = true
  · rw [if_pos h4] at hu
    obtain ⟨d, hd1, hu⟩ := Option.bind_eq_some_iff.1 hu
    obtain ⟨v, hv1, hvu⟩ := Option.map_eq_some_iff.1 hu
    have h := trn_32u_big n a X T w hn hv hX hT h1 h2 h4 d v hd1 hv1
    refine h.mono ?_
    rintro e w' ⟨rfl, hw⟩
    refine ⟨ret_un ?_, hw⟩
    rw [← hvu]
    have := u64_nn (IntKind.u64.wrap v + 9223372036854775808)
    omega
  rw [if_neg h4] at hu
  replace h4 := bool_f h4
  obtain ⟨v, hv1, hvu⟩ := Option.map_eq_some_iff.1 hu
  have h := trn_32u_mid n a X T w hn hv hX hT h1 h2 h4 v hv1
  refine h.mono ?_
  rintro e w' ⟨rfl, hw⟩
  refine ⟨ret_un ?_, hw⟩
  rw [← hvu]
  have := u64_nn v
  omega
theorem trn_64s (n : Int) (a : Int) (X T u : Nat) (w : World) (hn : n = 32 ∨ n = 64) (hv : Hid (∀ r, Val n a r → r = X)) (hX : isN double X = false) (hT : Hid (whl .zero X = some T)) (hu : trn 64 true T = some u) : Calls Tryz.prog 133 #[.int .i64 n, .int .i64 64, .bool true, .bool true, .int .u64 a] w fun e w' => e = .returned (.tuple #[.int .u64 u, .int .i64 0]) ∧ Drawn0 w w' := by
  unfold trn at hu
  by_cases h1 : (double.order T (lo 64 true) == some .lt) = true
  · rw [if_pos h1] at hu
    obtain rfl : 9223372036854775808 = u := Option.some.inj hu
    exact trn_64s_lo n a X T w hn hv hX hT h1
  rw [if_neg h1] at hu
  replace h1 := bool_f h1
  by_cases h2 : geq (double.order T (hi 64 true)) = true
  · rw [if_pos h2] at hu
    obtain rfl : 9223372036854775807 = u := Option.some.inj hu
    exact trn_64s_hi n a X T w hn hv hX hT h1 h2
  rw [if_neg h2] at hu
  replace h2 := bool_f h2
  by_cases h3 : (double.order T 0 == some .lt) = true
  · rw [if_pos h3] at hu
    obtain ⟨v, hv1, hvu⟩ := Option.map_eq_some_iff.1 hu
    have h := trn_64s_neg n a X T w hn hv hX hT h1 h2 h3 v hv1
    refine h.mono ?_
    rintro e w' ⟨rfl, hw⟩
    refine ⟨ret_un ?_, hw⟩
    rw [← hvu]
    have := u64_nn v
    rw [if_neg (by decide)]; omega
  rw [if_neg h3] at hu
  replace h3 := bool_f h3
  by_cases h4 : geq (double.order T 4890909195324358656) = true
  · rw [if_pos h4] at hu
    have h2' : geq (double.order T 4890909195324358656) = false := h2
    rw [h2'] at h4; cases h4
  rw [if_neg h4] at hu
  replace h4 := bool_f h4
  obtain ⟨v, hv1, hvu⟩ := Option.map_eq_some_iff.1 hu
  have h := trn_64s_mid n a X T w hn hv hX hT h1 h2 h3 v hv1
  refine h.mono ?_
  rintro e w' ⟨rfl, hw⟩
  refine ⟨ret_un ?_, hw⟩
  rw [← hvu]
  have := u64_nn v
  omega
theorem trn_64u (n : Int) (a : Int) (X T u : Nat) (w : World) (hn : n = 32 ∨ n = 64) (hv : Hid (∀ r, Val n a r → r = X)) (hX : isN double X = false) (hT : Hid (whl .zero X = some T)) (hu : trn 64 false T = some u) : Calls Tryz.prog 133 #[.int .i64 n, .int .i64 64, .bool false, .bool true, .int .u64 a] w fun e w' => e = .returned (.tuple #[.int .u64 u, .int .i64 0]) ∧ Drawn0 w w' := by
  unfold trn at hu
  by_cases h1 : (double.order T (lo 64 false) == some .lt) = true
  · rw [if_pos h1] at hu
    obtain rfl : 0 = u := Option.some.inj hu
    exact trn_64u_lo n a X T w hn hv hX hT h1
  rw [if_neg h1] at hu
  replace h1 := bool_f h1
  by_cases h2 : geq (double.order T (hi 64 false)) = true
  · rw [if_pos h2] at hu
    obtain rfl : 18446744073709551615 = u := Option.some.inj hu
    exact trn_64u_hi n a X T w hn hv hX hT h1 h2
  rw [if_neg h2] at hu
  replace h2 := bool_f h2
  by_cases h3 : (double.order T 0 == some .lt) = true
  · rw [if_pos h3] at hu
    have h1' : (double.order T 0 == some .lt) = false := h1
    rw [h1'] at h3; cases h3
  rw [if_neg h3] at hu
  replace h3 := bool_f h3
  by_cases h4 : geq (double.order T 4890909195324358656) = true
  · rw [if_pos h4] at hu
    obtain ⟨d, hd1, hu⟩ := Option.bind_eq_some_iff.1 hu
    obtain ⟨v, hv1, hvu⟩ := Option.map_eq_some_iff.1 hu
    have h := trn_64u_big n a X T w hn hv hX hT h1 h2 h4 d v hd1 hv1
    refine h.mono ?_
    rintro e w' ⟨rfl, hw⟩
    refine ⟨ret_un ?_, hw⟩
    rw [← hvu]
    have := u64_nn (IntKind.u64.wrap v + 9223372036854775808)
    omega
  rw [if_neg h4] at hu
  replace h4 := bool_f h4
  obtain ⟨v, hv1, hvu⟩ := Option.map_eq_some_iff.1 hu
  have h := trn_64u_mid n a X T w hn hv hX hT h1 h2 h4 v hv1
  refine h.mono ?_
  rintro e w' ⟨rfl, hw⟩
  refine ⟨ret_un ?_, hw⟩
  rw [← hvu]
  have := u64_nn v
  omega
def held (n tt : Int) (s : Bool) (a : Nat) : Option Nat :=
  if n = 32 then (if isN single (a % 4294967296) = true then some 0 else (whl .zero (wide (a % 4294967296))).bind (trn tt s))
  else (if isN double a = true then some 0 else (whl .zero a).bind (trn tt s))
theorem wrap32b (a : Nat) : (IntKind.u32.wrap (a : Int)).toNat = a % 4294967296 := by
  rw [IntKind.wrap_u32]; omega
theorem held_any (n tt : Int) (s : Bool) (a u : Nat) (w : World) (hn : n = 32 ∨ n = 64) (ht : tt = 32 ∨ tt = 64) (hu : held n tt s a = some u) : Calls Tryz.prog 133 #[.int .i64 n, .int .i64 tt, .bool s, .bool true, .int .u64 a] w fun e w' => e = .returned (.tuple #[.int .u64 u, .int .i64 0]) ∧ Drawn0 w w' := by
  have key : ∀ X, Hid (∀ r, Val n a r → r = X) → isN double X = false → (whl .zero X).bind (trn tt s) = some u → Calls Tryz.prog 133 #[.int .i64 n, .int .i64 tt, .bool s, .bool true, .int .u64 a] w fun e w' => e = .returned (.tuple #[.int .u64 u, .int .i64 0]) ∧ Drawn0 w w' := by
    intro X hv hX hh
    obtain ⟨T, hT, hh⟩ := Option.bind_eq_some_iff.1 hh
    rcases ht with rfl | rfl <;> cases s
    · exact trn_32u n a X T u w hn hv hX hT hh
    · exact trn_32s n a X T u w hn hv hX hT hh
    · exact trn_64u n a X T u w hn hv hX hT hh
    · exact trn_64s n a X T u w hn hv hX hT hh
  have nan : (Hid (∀ r, Val n a r → isN double r = true)) → u = 0 → Calls Tryz.prog 133 #[.int .i64 n, .int .i64 tt, .bool s, .bool true, .int .u64 a] w fun e w' => e = .returned (.tuple #[.int .u64 u, .int .i64 0]) ∧ Drawn0 w w' := by
    intro hv h0
    subst h0
    exact trn_nan n tt s a w hn ht hv
  unfold held at hu
  rcases hn with rfl | rfl
  · rw [if_pos rfl] at hu
    by_cases c : isN single (a % 4294967296) = true
    · rw [if_pos c] at hu
      refine nan ?_ (Option.some.inj hu).symm
      intro r hr
      unfold Val Wid at hr
      rw [if_pos rfl, wrap32b, if_pos c] at hr
      exact hr
    · rw [if_neg c] at hu
      refine key (wide (a % 4294967296)) ?_ (wide_isN _ (bool_f c)) hu
      intro r hr
      unfold Val Wid at hr
      rw [if_pos rfl, wrap32b, if_neg c] at hr
      exact hr
  · rw [if_neg (by decide)] at hu
    by_cases c : isN double a = true
    · rw [if_pos c] at hu
      refine nan ?_ (Option.some.inj hu).symm
      intro r hr
      unfold Val at hr
      rw [if_neg (by decide)] at hr
      rw [hr]; exact c
    · rw [if_neg c] at hu
      refine key a ?_ (bool_f c) hu
      intro r hr
      unfold Val at hr
      rw [if_neg (by decide)] at hr
      exact hr
end Go.Proofs.YtkhhhceeoljheaaGreatDoor
