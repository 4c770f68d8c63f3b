import Derived.Test.YtkhhhceeoljheaaGreatDoorFxScalU
import Derived.Test.YtkhhhceeoljheaaGreatDoorFxWWords
import Derived.RegionTactic
import Derived.ChangeAlike
set_option linter.unusedVariables false
set_option linter.unusedSimpArgs false
namespace Go.Proofs.YtkhhhceeoljheaaGreatDoor
open Go.RowKit Go.Proofs.YtkhhhceeoljheaaGreatDoor.Fl Ieee Go.Proofs.YtkhhhceeoljheaaGreatDoorW.PrintWords
def Nar (x r : Nat) : Prop := r < 4294967296 ∧ (isN double x = true → isN single r = true) ∧ ∀ z, floatToFloatBits .f64 x .f32 = some z → r = z
theorem nanconv32 (t : Nat) (b : Nat) : isN single (Question.cut (.nanConv .f32 b) t) = true ∧ Question.cut (.nanConv .f32 b) t < 4294967296 := by
  show decide (single.infRung < siz single ((t % 2) * 2 ^ 31 + 0x7f800000 + 1 + (t / 2) % (2 ^ 23 - 1))) = true ∧ (t % 2) * 2 ^ 31 + 0x7f800000 + 1 + (t / 2) % (2 ^ 23 - 1) < 4294967296
  have hm : (t / 2) % (2 ^ 23 - 1) < 2 ^ 23 - 1 := Nat.mod_lt _ (by decide)
  have h : siz single ((t % 2) * 2 ^ 31 + 0x7f800000 + 1 + (t / 2) % (2 ^ 23 - 1)) = 0x7f800000 + 1 + (t / 2) % (2 ^ 23 - 1) := by
    unfold siz; rw [sS]
    omega
  rw [h, sI]; constructor
  · simp; omega
  · omega
theorem word_lt (f : Format) (s : Bool) (r : Nat) (h : r < f.signWeight) : f.word s r < 2 * f.signWeight := by
  unfold Format.word; split <;> omega
theorem rung_le (f : Format) (m : Nat) (e : Int) : rung f m e ≤ f.infRung := by
  unfold rung; split <;> omega
theorem write_lt32 (d : Datum) (h : d.isNaN = false) : single.write d < 4294967296 := by
  have hI : single.infRung < single.signWeight := by rw [sI, sS]; omega
  cases d with
  | number s m e =>
    show single.nearest s m e < _
    rw [nearest_eq]; have := word_lt single s (rung single m e) (Nat.lt_of_le_of_lt (rung_le _ _ _) hI)
    rw [sS] at this; omega
  | infinity s =>
    have := word_lt single s single.infRung hI
    rw [sS] at this; exact this
  | nan s t => cases h
theorem run_narrow (x : Nat) (w : World) : ∃ r j, Nar x r ∧ (convert 123 128 (.float .f64 x)).run Tryz.prog w = .ok (.float .f32 r) (w.drewN j) := by
  have hd : (Tryz.prog.underlying 128) = some (.float .f32) := Tryz.underlying128; have hs : (Tryz.prog.underlying 123) = some (.float .f64) := Tryz.underlying123; have hne : FloatKind.f64 ≠ FloatKind.f32 := by decide
  by_cases h : isN double x = true
  · have hr : FloatKind.f64.decode x = .nan (neg double x) (siz double x - double.infRung) := isN_read double (by decide) x h
    have hq := nanconv32 (w.tape w.drawn (.nanConv .f32 x)) x; refine ⟨Question.cut (.nanConv .f32 x) (w.tape w.drawn (.nanConv .f32 x)), 1, ⟨hq.2, fun _ => hq.1, ?_⟩, ?_⟩
    · intro z hz
      unfold floatToFloatBits at hz; rw [if_neg hne, hr] at hz; cases hz
    · simp [convert, run_underlying hs, run_underlying hd, Conv.floatToFloat, hr, choose, Sem.run, Question.forced, World.drewN]
  · have hf : isN double x = false := by simpa using h
    cases hz : floatToFloatBits .f64 x .f32 with
    | some z =>
      refine ⟨z, 0, ⟨?_, fun h2 => absurd h2 h, fun y hy => Option.some.inj (hz.symm.trans hy)⟩, run_convert_float_float w 123 128 .f64 .f32 x z (by rw [hs]; rfl) hd hz⟩; unfold floatToFloatBits at hz; rw [if_neg hne] at hz; split at hz
      · cases hz
      · cases hz; exact write_lt32 _ rfl
      · split at hz
        · cases hz
        · cases hz; exact write_lt32 _ rfl
    | none =>
      refine ⟨Question.cut (.floatToFloat x) (w.tape w.drawn (.floatToFloat x)), 1, ⟨Nat.mod_lt _ (by decide), fun h2 => absurd h2 h, fun y hy => by rw [hz] at hy; cases hy⟩, ?_⟩; unfold floatToFloatBits at hz; rw [if_neg hne] at hz
      cases hd2 : FloatKind.f64.decode x with
      | nan s t =>
        exfalso
        have hd3 : double.read x = .nan s t := hd2; rw [read_eq] at hd3; have h2 : ¬ double.infRung < siz double x := by simpa [isN] using hf
        split at hd3
        · cases hd3
        · split at hd3
          · cases hd3
          · split at hd3
            · cases hd3
            · omega
      | infinity s => rw [hd2] at hz; cases hz
      | number s m e =>
        rw [hd2] at hz; simp only at hz; split at hz
        · rename_i ho
          simp [convert, run_underlying hs, run_underlying hd, Conv.floatToFloat, hd2, ho, choose, Sem.run, Question.forced, World.drewN]
        · cases hz
noncomputable def narR (x : Nat) (w : World) : Nat := Classical.choose (run_narrow x w)
noncomputable def narK (x : Nat) (w : World) : Nat := Classical.choose (Classical.choose_spec (run_narrow x w))
theorem narR_is (x : Nat) (w : World) : Nar x (narR x w) := (Classical.choose_spec (Classical.choose_spec (run_narrow x w))).1
theorem narR_lt (x : Nat) (w : World) : narR x w < 4294967296 := (narR_is x w).1
theorem run_nar (x : Nat) (w : World) : (convert 123 128 (.float .f64 x)).run Tryz.prog w = .ok (.float .f32 (narR x w)) (w.drewN (narK x w)) := (Classical.choose_spec (Classical.choose_spec (run_narrow x w))).2
noncomputable def evR (x : Nat) (w : World) : Nat := Classical.choose (run_even x w)
noncomputable def evK (x : Nat) (w : World) : Nat := Classical.choose (Classical.choose_spec (run_even x w))
theorem evR_is (x : Nat) (w : World) : Ari double (whl .even x) (evR x w) := (Classical.choose_spec (Classical.choose_spec (run_even x w))).1
theorem run_ev (x : Nat) (w : World) : (callFunc 144 #[.float .f64 x]).run Tryz.prog w = .ok (.value (.float .f64 (evR x w))) (w.drewN (evK x w)) := (Classical.choose_spec (Classical.choose_spec (run_even x w))).2
theorem cut32 (a : Nat) (w : World) (ha : a < 18446744073709551616) : Calls Tryz.prog 138 #[.int .i64 32, .int .u64 a] w fun e w' => e = .returned (.int .u64 ((a % 4294967296 : Nat) : Int)) ∧ w = w' := by
  have h0 : (0 : Int) ≤ a := by omega
  have h1 : (a : Int) ≤ 18446744073709551615 := by omega
  go_enter Tryz.func138, Tryz.ntmps138
  go_wp2
  go_ret; exact ⟨rfl, rfl⟩
theorem cut64 (a : Int) (w : World) : Calls Tryz.prog 138 #[.int .i64 64, .int .u64 a] w fun e w' => e = .returned (.int .u64 a) ∧ w = w' := by
  go_enter Tryz.func138, Tryz.ntmps138
  go_wp2
  go_ret; exact ⟨rfl, rfl⟩
theorem sign32 (w : World) : Calls Tryz.prog 139 #[.int .i64 32] w fun e w' => e = .returned (.int .u64 2147483648) ∧ w = w' := by
  go_enter Tryz.func139, Tryz.ntmps139
  go_wp2
  go_ret; exact ⟨rfl, rfl⟩
theorem sign64 (w : World) : Calls Tryz.prog 139 #[.int .i64 64] w fun e w' => e = .returned (.int .u64 9223372036854775808) ∧ w = w' := by
  go_enter Tryz.func139, Tryz.ntmps139
  go_wp2
  go_ret; exact ⟨rfl, rfl⟩
def mth (op : Int) (x : Nat) : Option Nat := if op = 3 then double.sqrt x else if op = 4 then whl .up x else if op = 5 then whl .down x else if op = 6 then whl .zero x else whl .even x
def un32 (op : Int) (b : Nat) : Option Nat :=
  if op = 1 then some (b % 2147483648) else if op = 2 then some (if 2147483648 ≤ b then b - 2147483648 else b + 2147483648)
  else if isN single b = true then some 2143289344
  else match mth op (wide b) with
  | none => some 2143289344
  | some y => (floatToFloatBits .f64 y .f32).map bt32
def un64 (op : Int) (b : Nat) : Nat :=
  if op = 1 then b % 9223372036854775808 else if op = 2 then (if 9223372036854775808 ≤ b then b - 9223372036854775808 else b + 9223372036854775808)
  else match mth op b with
  | none => 9221120237041090560
  | some y => bt64 y
theorem whl_nan (way : Toward) (x : Nat) (h : isN double x = true) : whl way x = none := by unfold whl; rw [if_pos h]
theorem mth_nan (op : Int) (x : Nat) (h : isN double x = true) : mth op x = none := by
  unfold mth; rw [whl_nan _ _ h, whl_nan _ _ h, whl_nan _ _ h, whl_nan _ _ h]; have : double.sqrt x = none := by unfold Format.sqrt; rw [isN_read double (by decide) x h]; rfl
  rw [this]; simp
theorem un32_fin (op : Int) (h3 : 3 ≤ op) (b r r2 z u : Nat) (hr : Wid b r) (h2 : Ari double (mth op r) r2) (hz : Nar r2 z) (hu : un32 op b = some u) : bt32 z = u := by
  unfold un32 at hu; rw [if_neg (by omega), if_neg (by omega)] at hu; unfold Wid at hr; obtain ⟨-, hz1, hz2⟩ := hz; by_cases c : isN single b = true
  · rw [if_pos c] at hu hr
    rw [mth_nan op r hr] at h2; have := hz1 h2; unfold bt32; rw [if_pos this]; exact Option.some.inj hu
  · rw [if_neg c] at hu hr
    subst hr
    cases hm : mth op (wide b) with
    | none =>
      rw [hm] at hu h2; have := hz1 h2
      unfold bt32; rw [if_pos this]; exact Option.some.inj hu
    | some y =>
      rw [hm] at hu h2; have h2 : r2 = y := h2; subst h2; simp only at hu
      cases hq : floatToFloatBits .f64 r2 .f32 with
      | none => rw [hq] at hu; cases hu
      | some q =>
        rw [hq] at hu; rw [hz2 q hq]; exact Option.some.inj hu
theorem un64_fin (op : Int) (h3 : 3 ≤ op) (b r2 : Nat) (h2 : Ari double (mth op b) r2) : bt64 r2 = un64 op b := by
  unfold un64; rw [if_neg (by omega), if_neg (by omega)]
  cases hm : mth op b with
  | none =>
    rw [hm] at h2; have h2 : isN double r2 = true := h2; show bt64 r2 = 9221120237041090560
    unfold bt64; rw [if_pos h2]
  | some y =>
    rw [hm] at h2; have h2 : r2 = y := h2; rw [h2]
theorem wrap32 (a : Nat) : (IntKind.u32.wrap ((a % 4294967296 : Nat) : Int)).toNat = a % 4294967296 := by
  unfold IntKind.wrap; simp [IntKind.bits, IntKind.signed]; omega
theorem u64_id (x : Int) (h0 : 0 ≤ x) (h1 : x < 18446744073709551616) : IntKind.u64.wrap x = x := by
  unfold IntKind.wrap; simp [IntKind.bits, IntKind.signed]; omega
theorem ret_u {a : Int} {n : Int} {b : Nat} (h : a = (b : Int)) : Ending.returned (.tuple #[.int .u64 a, .int .i64 n]) = .returned (.tuple #[.int .u64 b, .int .i64 n]) := by rw [h]
set_option maxRecDepth 100000 in
set_option maxHeartbeats 2000000 in
theorem un32_1 (a u : Nat) (w : World) (ha : a < 18446744073709551616) (hu : un32 1 (a % 4294967296) = some u) : Calls Tryz.prog 62 #[.int .i64 32, .int .i64 1, .int .u64 a] w fun e w' => e = .returned (.tuple #[.int .u64 u, .int .i64 0]) ∧ Drawn0 w w' := by
  have HU := Lib.hid hu; clear hu; have hb : a % 4294967296 < 4294967296 := Nat.mod_lt _ (by omega); obtain ⟨b, hb2⟩ : ∃ b, a % 4294967296 = b := ⟨_, rfl⟩
  have hc := cut32 a w ha; rw [hb2] at hc hb HU; clear hb2; have h1 : (0 : Int) ≤ b := by omega
  have h2 : (b : Int) ≤ 4294967295 := by omega
  by_cases h3 : 2147483648 ≤ b
  all_goals
    have h4 := h3
    first
      | (replace h4 : decide ((2147483648 : Int) ≤ (b : Int)) = true := decide_eq_true (by omega))
      | (replace h4 : decide ((2147483648 : Int) ≤ (b : Int)) = false := decide_eq_false (by omega))
    have H3 := Lib.hid h3; clear h3; go_enter Tryz.func62, Tryz.ntmps62
    go_wp2_with (first
      | (go_at_call 138; refine hc.mono ?_; rintro e w' ⟨rfl, rfl⟩)
      | (go_at_call 139; refine (sign32 _).mono ?_; rintro e w' ⟨rfl, rfl⟩))
    go_ret2; have H := Option.some.inj HU.out; have H4 := H3.out; exact ⟨ret_u (by rw [← H]; first | omega | (split <;> first | omega | (rw [u64_id _ (by omega) (by omega)]; omega))), Drawn0.refl _⟩
set_option maxRecDepth 100000 in
set_option maxHeartbeats 2000000 in
theorem un32_2 (a u : Nat) (w : World) (ha : a < 18446744073709551616) (hu : un32 2 (a % 4294967296) = some u) : Calls Tryz.prog 62 #[.int .i64 32, .int .i64 2, .int .u64 a] w fun e w' => e = .returned (.tuple #[.int .u64 u, .int .i64 0]) ∧ Drawn0 w w' := by
  have HU := Lib.hid hu; clear hu; have hb : a % 4294967296 < 4294967296 := Nat.mod_lt _ (by omega); obtain ⟨b, hb2⟩ : ∃ b, a % 4294967296 = b := ⟨_, rfl⟩
  have hc := cut32 a w ha; rw [hb2] at hc hb HU; clear hb2; have h1 : (0 : Int) ≤ b := by omega
  have h2 : (b : Int) ≤ 4294967295 := by omega
  by_cases h3 : 2147483648 ≤ b
  all_goals
    have h4 := h3
    first
      | (replace h4 : decide ((2147483648 : Int) ≤ (b : Int)) = true := decide_eq_true (by omega))
      | (replace h4 : decide ((2147483648 : Int) ≤ (b : Int)) = false := decide_eq_false (by omega))
    have H3 := Lib.hid h3; clear h3; go_enter Tryz.func62, Tryz.ntmps62
    go_wp2_with (first
      | (go_at_call 138; refine hc.mono ?_; rintro e w' ⟨rfl, rfl⟩)
      | (go_at_call 139; refine (sign32 _).mono ?_; rintro e w' ⟨rfl, rfl⟩))
    go_ret2; have H := Option.some.inj HU.out; have H4 := H3.out; exact ⟨ret_u (by rw [← H]; first | omega | (split <;> first | omega | (rw [u64_id _ (by omega) (by omega)]; omega))), Drawn0.refl _⟩
set_option maxRecDepth 100000 in
set_option maxHeartbeats 2000000 in
theorem un32_3 (a u : Nat) (w : World) (ha : a < 18446744073709551616) (hu : un32 3 (a % 4294967296) = some u) : Calls Tryz.prog 62 #[.int .i64 32, .int .i64 3, .int .u64 a] w fun e w' => e = .returned (.tuple #[.int .u64 u, .int .i64 0]) ∧ Drawn0 w w' := by
  have HU := Lib.hid hu; clear hu; have HW := Lib.hid (wrap32 a); obtain ⟨b, hb2⟩ : ∃ b, a % 4294967296 = b := ⟨_, rfl⟩
  have hc := cut32 a w ha; rw [hb2] at hc HU HW; clear hb2; have hn := run_nar; go_enter Tryz.func62, Tryz.ntmps62
  go_wp2_with (first
    | (go_at_call 138; refine hc.mono ?_; rintro e w' ⟨rfl, rfl⟩)
    | (go_at_call 139; refine (sign32 _).mono ?_; rintro e w' ⟨rfl, rfl⟩)
    | (go_at_call 137; (with_reducible refine (value_any _ _ _).mono ?_); rintro e w' ⟨r, k, rfl, hr, rfl⟩; have HR := Lib.hid hr; clear hr)
    | (go_at_call 140; (with_reducible refine (Sqrt_any _ _).mono ?_); rintro e w' ⟨r2, j, rfl, hr2, rfl⟩; have HR2 := Lib.hid hr2; clear hr2)
    | (go_at_call 145; (with_reducible refine (B32_any _ _ (narR_lt _ _)).mono ?_); rintro e w' ⟨rfl, rfl⟩))
  go_ret2; have h1 := HR.out; unfold Val at h1; rw [if_pos rfl, HW.out] at h1; exact ⟨ret_u (congrArg Nat.cast (un32_fin 3 (by decide) b r _ _ u h1 HR2.out (narR_is _ _) HU.out)), ⟨⟨_, rfl⟩⟩⟩
set_option maxRecDepth 100000 in
set_option maxHeartbeats 2000000 in
theorem un32_4 (a u : Nat) (w : World) (ha : a < 18446744073709551616) (hu : un32 4 (a % 4294967296) = some u) : Calls Tryz.prog 62 #[.int .i64 32, .int .i64 4, .int .u64 a] w fun e w' => e = .returned (.tuple #[.int .u64 u, .int .i64 0]) ∧ Drawn0 w w' := by
  have HU := Lib.hid hu; clear hu; have HW := Lib.hid (wrap32 a); obtain ⟨b, hb2⟩ : ∃ b, a % 4294967296 = b := ⟨_, rfl⟩
  have hc := cut32 a w ha; rw [hb2] at hc HU HW; clear hb2; have hn := run_nar; go_enter Tryz.func62, Tryz.ntmps62
  go_wp2_with (first
    | (go_at_call 138; refine hc.mono ?_; rintro e w' ⟨rfl, rfl⟩)
    | (go_at_call 139; refine (sign32 _).mono ?_; rintro e w' ⟨rfl, rfl⟩)
    | (go_at_call 137; (with_reducible refine (value_any _ _ _).mono ?_); rintro e w' ⟨r, k, rfl, hr, rfl⟩; have HR := Lib.hid hr; clear hr)
    | (go_at_call 141; (with_reducible refine (Ceil_any _ _).mono ?_); rintro e w' ⟨r2, j, rfl, hr2, rfl⟩; have HR2 := Lib.hid hr2; clear hr2)
    | (go_at_call 145; (with_reducible refine (B32_any _ _ (narR_lt _ _)).mono ?_); rintro e w' ⟨rfl, rfl⟩))
  go_ret2; have h1 := HR.out; unfold Val at h1; rw [if_pos rfl, HW.out] at h1; exact ⟨ret_u (congrArg Nat.cast (un32_fin 4 (by decide) b r _ _ u h1 HR2.out (narR_is _ _) HU.out)), ⟨⟨_, rfl⟩⟩⟩
set_option maxRecDepth 100000 in
set_option maxHeartbeats 2000000 in
theorem un32_5 (a u : Nat) (w : World) (ha : a < 18446744073709551616) (hu : un32 5 (a % 4294967296) = some u) : Calls Tryz.prog 62 #[.int .i64 32, .int .i64 5, .int .u64 a] w fun e w' => e = .returned (.tuple #[.int .u64 u, .int .i64 0]) ∧ Drawn0 w w' := by
  have HU := Lib.hid hu; clear hu; have HW := Lib.hid (wrap32 a); obtain ⟨b, hb2⟩ : ∃ b, a % 4294967296 = b := ⟨_, rfl⟩
  have hc := cut32 a w ha; rw [hb2] at hc HU HW; clear hb2; have hn := run_nar; go_enter Tryz.func62, Tryz.ntmps62
  go_wp2_with (first
    | (go_at_call 138; refine hc.mono ?_; rintro e w' ⟨rfl, rfl⟩)
    | (go_at_call 139; refine (sign32 _).mono ?_; rintro e w' ⟨rfl, rfl⟩)
    | (go_at_call 137; (with_reducible refine (value_any _ _ _).mono ?_); rintro e w' ⟨r, k, rfl, hr, rfl⟩; have HR := Lib.hid hr; clear hr)
    | (go_at_call 142; (with_reducible refine (Floor_any _ _).mono ?_); rintro e w' ⟨r2, j, rfl, hr2, rfl⟩; have HR2 := Lib.hid hr2; clear hr2)
    | (go_at_call 145; (with_reducible refine (B32_any _ _ (narR_lt _ _)).mono ?_); rintro e w' ⟨rfl, rfl⟩))
  go_ret2; have h1 := HR.out; unfold Val at h1; rw [if_pos rfl, HW.out] at h1; exact ⟨ret_u (congrArg Nat.cast (un32_fin 5 (by decide) b r _ _ u h1 HR2.out (narR_is _ _) HU.out)), ⟨⟨_, rfl⟩⟩⟩
set_option maxRecDepth 100000 in
set_option maxHeartbeats 2000000 in
theorem un32_6 (a u : Nat) (w : World) (ha : a < 18446744073709551616) (hu : un32 6 (a % 4294967296) = some u) : Calls Tryz.prog 62 #[.int .i64 32, .int .i64 6, .int .u64 a] w fun e w' => e = .returned (.tuple #[.int .u64 u, .int .i64 0]) ∧ Drawn0 w w' := by
  have HU := Lib.hid hu; clear hu; have HW := Lib.hid (wrap32 a); obtain ⟨b, hb2⟩ : ∃ b, a % 4294967296 = b := ⟨_, rfl⟩
  have hc := cut32 a w ha; rw [hb2] at hc HU HW; clear hb2; have hn := run_nar; go_enter Tryz.func62, Tryz.ntmps62
  go_wp2_with (first
    | (go_at_call 138; refine hc.mono ?_; rintro e w' ⟨rfl, rfl⟩)
    | (go_at_call 139; refine (sign32 _).mono ?_; rintro e w' ⟨rfl, rfl⟩)
    | (go_at_call 137; (with_reducible refine (value_any _ _ _).mono ?_); rintro e w' ⟨r, k, rfl, hr, rfl⟩; have HR := Lib.hid hr; clear hr)
    | (go_at_call 143; (with_reducible refine (Trunc_any _ _).mono ?_); rintro e w' ⟨r2, j, rfl, hr2, rfl⟩; have HR2 := Lib.hid hr2; clear hr2)
    | (go_at_call 145; (with_reducible refine (B32_any _ _ (narR_lt _ _)).mono ?_); rintro e w' ⟨rfl, rfl⟩))
  go_ret2; have h1 := HR.out; unfold Val at h1; rw [if_pos rfl, HW.out] at h1; exact ⟨ret_u (congrArg Nat.cast (un32_fin 6 (by decide) b r _ _ u h1 HR2.out (narR_is _ _) HU.out)), ⟨⟨_, rfl⟩⟩⟩
set_option maxRecDepth 100000 in
set_option maxHeartbeats 2000000 in
theorem un32_7 (a u : Nat) (w : World) (ha : a < 18446744073709551616) (hu : un32 7 (a % 4294967296) = some u) : Calls Tryz.prog 62 #[.int .i64 32, .int .i64 7, .int .u64 a] w fun e w' => e = .returned (.tuple #[.int .u64 u, .int .i64 0]) ∧ Drawn0 w w' := by
  have HU := Lib.hid hu; clear hu; have HW := Lib.hid (wrap32 a); obtain ⟨b, hb2⟩ : ∃ b, a % 4294967296 = b := ⟨_, rfl⟩
  have hc := cut32 a w ha; rw [hb2] at hc HU HW; clear hb2; have hn := run_nar; have hev := run_ev; go_enter Tryz.func62, Tryz.ntmps62
  go_wp2_with (first
    | (go_at_call 138; refine hc.mono ?_; rintro e w' ⟨rfl, rfl⟩)
    | (go_at_call 139; refine (sign32 _).mono ?_; rintro e w' ⟨rfl, rfl⟩)
    | (go_at_call 137; (with_reducible refine (value_any _ _ _).mono ?_); rintro e w' ⟨r, k, rfl, hr, rfl⟩; have HR := Lib.hid hr; clear hr)
    | (go_at_call 145; (with_reducible refine (B32_any _ _ (narR_lt _ _)).mono ?_); rintro e w' ⟨rfl, rfl⟩))
  go_ret2; have h1 := HR.out; unfold Val at h1; rw [if_pos rfl, HW.out] at h1; exact ⟨ret_u (congrArg Nat.cast (un32_fin 7 (by decide) b r _ _ u h1 (evR_is _ _) (narR_is _ _) HU.out)), ⟨⟨_, rfl⟩⟩⟩
set_option maxRecDepth 100000 in
set_option maxHeartbeats 2000000 in
theorem un64_1 (b : Nat) (w : World) (hb : b < 18446744073709551616) : Calls Tryz.prog 62 #[.int .i64 64, .int .i64 1, .int .u64 b] w fun e w' => e = .returned (.tuple #[.int .u64 (un64 1 b : Nat), .int .i64 0]) ∧ Drawn0 w w' := by
  obtain ⟨u, hu⟩ : ∃ u, un64 1 b = u := ⟨_, rfl⟩
  rw [hu]; have HU := Lib.hid hu; clear hu; have h1 : (0 : Int) ≤ b := by omega
  have h2 : (b : Int) ≤ 18446744073709551615 := by omega
  by_cases h3 : 9223372036854775808 ≤ b
  all_goals
    have h4 := h3
    first
      | (replace h4 : decide ((9223372036854775808 : Int) ≤ (b : Int)) = true := decide_eq_true (by omega))
      | (replace h4 : decide ((9223372036854775808 : Int) ≤ (b : Int)) = false := decide_eq_false (by omega))
    have H3 := Lib.hid h3; clear h3; go_enter Tryz.func62, Tryz.ntmps62
    go_wp2_with (first
      | (go_at_call 138; refine (cut64 _ _).mono ?_; rintro e w' ⟨rfl, rfl⟩)
      | (go_at_call 139; refine (sign64 _).mono ?_; rintro e w' ⟨rfl, rfl⟩))
    go_ret2; have H : b % 9223372036854775808 = u := HU.out; have H4 := H3.out; exact ⟨ret_u (by rw [← H]; first | omega | (split <;> first | omega | (rw [u64_id _ (by omega) (by omega)]; omega))), Drawn0.refl _⟩
set_option maxRecDepth 100000 in
set_option maxHeartbeats 2000000 in
theorem un64_2 (b : Nat) (w : World) (hb : b < 18446744073709551616) : Calls Tryz.prog 62 #[.int .i64 64, .int .i64 2, .int .u64 b] w fun e w' => e = .returned (.tuple #[.int .u64 (un64 2 b : Nat), .int .i64 0]) ∧ Drawn0 w w' := by
  obtain ⟨u, hu⟩ : ∃ u, un64 2 b = u := ⟨_, rfl⟩
  rw [hu]; have HU := Lib.hid hu; clear hu; have h1 : (0 : Int) ≤ b := by omega
  have h2 : (b : Int) ≤ 18446744073709551615 := by omega
  by_cases h3 : 9223372036854775808 ≤ b
  all_goals
    have h4 := h3
    first
      | (replace h4 : decide ((9223372036854775808 : Int) ≤ (b : Int)) = true := decide_eq_true (by omega))
      | (replace h4 : decide ((9223372036854775808 : Int) ≤ (b : Int)) = false := decide_eq_false (by omega))
    have H3 := Lib.hid h3; clear h3; go_enter Tryz.func62, Tryz.ntmps62
    go_wp2_with (first
      | (go_at_call 138; refine (cut64 _ _).mono ?_; rintro e w' ⟨rfl, rfl⟩)
      | (go_at_call 139; refine (sign64 _).mono ?_; rintro e w' ⟨rfl, rfl⟩))
    go_ret2; have H : (if 9223372036854775808 ≤ b then b - 9223372036854775808 else b + 9223372036854775808) = u := HU.out; have H4 := H3.out; exact ⟨ret_u (by rw [← H]; first | omega | (split <;> first | omega | (rw [u64_id _ (by omega) (by omega)]; omega))), Drawn0.refl _⟩
set_option maxRecDepth 100000 in
set_option maxHeartbeats 2000000 in
theorem un64_3 (b : Nat) (w : World) : Calls Tryz.prog 62 #[.int .i64 64, .int .i64 3, .int .u64 b] w fun e w' => e = .returned (.tuple #[.int .u64 (un64 3 b : Nat), .int .i64 0]) ∧ Drawn0 w w' := by
  obtain ⟨u, hu⟩ : ∃ u, un64 3 b = u := ⟨_, rfl⟩
  rw [hu]; have HU := Lib.hid hu; clear hu; go_enter Tryz.func62, Tryz.ntmps62
  go_wp2_with (first
    | (go_at_call 138; refine (cut64 _ _).mono ?_; rintro e w' ⟨rfl, rfl⟩)
    | (go_at_call 139; refine (sign64 _).mono ?_; rintro e w' ⟨rfl, rfl⟩)
    | (go_at_call 137; (with_reducible refine (value_any _ _ _).mono ?_); rintro e w' ⟨r, k, rfl, hr, rfl⟩; have HR := Lib.hid hr; clear hr)
    | (go_at_call 140; (with_reducible refine (Sqrt_any _ _).mono ?_); rintro e w' ⟨r2, j, rfl, hr2, rfl⟩; have HR2 := Lib.hid hr2; clear hr2)
    | (go_at_call 146; (with_reducible refine (B64_any _ _).mono ?_); rintro e w' ⟨rfl, rfl⟩))
  go_ret2; have h1 : r = b := by have := HR.out; unfold Val at this; rw [if_neg (by decide)] at this; exact this
  subst h1; exact ⟨ret_u (congrArg Nat.cast ((un64_fin 3 (by decide) _ _ HR2.out).trans HU.out)), ⟨⟨_, rfl⟩⟩⟩
set_option maxRecDepth 100000 in
set_option maxHeartbeats 2000000 in
theorem un64_4 (b : Nat) (w : World) : Calls Tryz.prog 62 #[.int .i64 64, .int .i64 4, .int .u64 b] w fun e w' => e = .returned (.tuple #[.int .u64 (un64 4 b : Nat), .int .i64 0]) ∧ Drawn0 w w' := by
  obtain ⟨u, hu⟩ : ∃ u, un64 4 b = u := ⟨_, rfl⟩
  rw [hu]; have HU := Lib.hid hu; clear hu; go_enter Tryz.func62, Tryz.ntmps62
  go_wp2_with (first
    | (go_at_call 138; refine (cut64 _ _).mono ?_; rintro e w' ⟨rfl, rfl⟩)
    | (go_at_call 139; refine (sign64 _).mono ?_; rintro e w' ⟨rfl, rfl⟩)
    | (go_at_call 137; (with_reducible refine (value_any _ _ _).mono ?_); rintro e w' ⟨r, k, rfl, hr, rfl⟩; have HR := Lib.hid hr; clear hr)
    | (go_at_call 141; (with_reducible refine (Ceil_any _ _).mono ?_); rintro e w' ⟨r2, j, rfl, hr2, rfl⟩; have HR2 := Lib.hid hr2; clear hr2)
    | (go_at_call 146; (with_reducible refine (B64_any _ _).mono ?_); rintro e w' ⟨rfl, rfl⟩))
  go_ret2; have h1 : r = b := by have := HR.out; unfold Val at this; rw [if_neg (by decide)] at this; exact this
  subst h1; exact ⟨ret_u (congrArg Nat.cast ((un64_fin 4 (by decide) _ _ HR2.out).trans HU.out)), ⟨⟨_, rfl⟩⟩⟩
set_option maxRecDepth 100000 in
set_option maxHeartbeats 2000000 in
theorem un64_5 (b : Nat) (w : World) : Calls Tryz.prog 62 #[.int .i64 64, .int .i64 5, .int .u64 b] w fun e w' => e = .returned (.tuple #[.int .u64 (un64 5 b : Nat), .int .i64 0]) ∧ Drawn0 w w' := by
  obtain ⟨u, hu⟩ : ∃ u, un64 5 b = u := ⟨_, rfl⟩
  rw [hu]; have HU := Lib.hid hu; clear hu; go_enter Tryz.func62, Tryz.ntmps62
  go_wp2_with (first
    | (go_at_call 138; refine (cut64 _ _).mono ?_; rintro e w' ⟨rfl, rfl⟩)
    | (go_at_call 139; refine (sign64 _).mono ?_; rintro e w' ⟨rfl, rfl⟩)
    | (go_at_call 137; (with_reducible refine (value_any _ _ _).mono ?_); rintro e w' ⟨r, k, rfl, hr, rfl⟩; have HR := Lib.hid hr; clear hr)
    | (go_at_call 142; (with_reducible refine (Floor_any _ _).mono ?_); rintro e w' ⟨r2, j, rfl, hr2, rfl⟩; have HR2 := Lib.hid hr2; clear hr2)
    | (go_at_call 146; (with_reducible refine (B64_any _ _).mono ?_); rintro e w' ⟨rfl, rfl⟩))
  go_ret2; have h1 : r = b := by have := HR.out; unfold Val at this; rw [if_neg (by decide)] at this; exact this
  subst h1; exact ⟨ret_u (congrArg Nat.cast ((un64_fin 5 (by decide) _ _ HR2.out).trans HU.out)), ⟨⟨_, rfl⟩⟩⟩
set_option maxRecDepth 100000 in
set_option maxHeartbeats 2000000 in
theorem un64_6 (b : Nat) (w : World) : Calls Tryz.prog 62 #[.int .i64 64, .int .i64 6, .int .u64 b] w fun e w' => e = .returned (.tuple #[.int .u64 (un64 6 b : Nat), .int .i64 0]) ∧ Drawn0 w w' := by
  obtain ⟨u, hu⟩ : ∃ u, un64 6 b = u := ⟨_, rfl⟩
  rw [hu]; have HU := Lib.hid hu; clear hu; go_enter Tryz.func62, Tryz.ntmps62
  go_wp2_with (first
    | (go_at_call 138; refine (cut64 _ _).mono ?_; rintro e w' ⟨rfl, rfl⟩)
    | (go_at_call 139; refine (sign64 _).mono ?_; rintro e w' ⟨rfl, rfl⟩)
    | (go_at_call 137; (with_reducible refine (value_any _ _ _).mono ?_); rintro e w' ⟨r, k, rfl, hr, rfl⟩; have HR := Lib.hid hr; clear hr)
    | (go_at_call 143; (with_reducible refine (Trunc_any _ _).mono ?_); rintro e w' ⟨r2, j, rfl, hr2, rfl⟩; have HR2 := Lib.hid hr2; clear hr2)
    | (go_at_call 146; (with_reducible refine (B64_any _ _).mono ?_); rintro e w' ⟨rfl, rfl⟩))
  go_ret2; have h1 : r = b := by have := HR.out; unfold Val at this; rw [if_neg (by decide)] at this; exact this
  subst h1; exact ⟨ret_u (congrArg Nat.cast ((un64_fin 6 (by decide) _ _ HR2.out).trans HU.out)), ⟨⟨_, rfl⟩⟩⟩
set_option maxRecDepth 100000 in
set_option maxHeartbeats 2000000 in
theorem un64_7 (b : Nat) (w : World) : Calls Tryz.prog 62 #[.int .i64 64, .int .i64 7, .int .u64 b] w fun e w' => e = .returned (.tuple #[.int .u64 (un64 7 b : Nat), .int .i64 0]) ∧ Drawn0 w w' := by
  obtain ⟨u, hu⟩ : ∃ u, un64 7 b = u := ⟨_, rfl⟩
  rw [hu]; have HU := Lib.hid hu; clear hu; have hev := run_ev; go_enter Tryz.func62, Tryz.ntmps62
  go_wp2_with (first
    | (go_at_call 138; refine (cut64 _ _).mono ?_; rintro e w' ⟨rfl, rfl⟩)
    | (go_at_call 139; refine (sign64 _).mono ?_; rintro e w' ⟨rfl, rfl⟩)
    | (go_at_call 137; (with_reducible refine (value_any _ _ _).mono ?_); rintro e w' ⟨r, k, rfl, hr, rfl⟩; have HR := Lib.hid hr; clear hr)
    | (go_at_call 146; (with_reducible refine (B64_any _ _).mono ?_); rintro e w' ⟨rfl, rfl⟩))
  go_ret2; have h1 : r = b := by have := HR.out; unfold Val at this; rw [if_neg (by decide)] at this; exact this
  subst h1; exact ⟨ret_u (congrArg Nat.cast ((un64_fin 7 (by decide) _ _ (evR_is _ _)).trans HU.out)), ⟨⟨_, rfl⟩⟩⟩
theorem un32_any (op : Int) (a u : Nat) (w : World) (ho : 1 ≤ op ∧ op ≤ 7) (ha : a < 18446744073709551616) (hu : un32 op (a % 4294967296) = some u) : Calls Tryz.prog 62 #[.int .i64 32, .int .i64 op, .int .u64 a] w fun e w' => e = .returned (.tuple #[.int .u64 u, .int .i64 0]) ∧ Drawn0 w w' := by
  have : op = 1 ∨ op = 2 ∨ op = 3 ∨ op = 4 ∨ op = 5 ∨ op = 6 ∨ op = 7 := by omega
  rcases this with rfl | rfl | rfl | rfl | rfl | rfl | rfl
  · exact un32_1 a u w ha hu
  · exact un32_2 a u w ha hu
  · exact un32_3 a u w ha hu
  · exact un32_4 a u w ha hu
  · exact un32_5 a u w ha hu
  · exact un32_6 a u w ha hu
  · exact un32_7 a u w ha hu
theorem un64_any (op : Int) (b : Nat) (w : World) (ho : 1 ≤ op ∧ op ≤ 7) (hb : b < 18446744073709551616) : Calls Tryz.prog 62 #[.int .i64 64, .int .i64 op, .int .u64 b] w fun e w' => e = .returned (.tuple #[.int .u64 (un64 op b : Nat), .int .i64 0]) ∧ Drawn0 w w' := by
  have : op = 1 ∨ op = 2 ∨ op = 3 ∨ op = 4 ∨ op = 5 ∨ op = 6 ∨ op = 7 := by omega
  rcases this with rfl | rfl | rfl | rfl | rfl | rfl | rfl
  · exact un64_1 b w hb
  · exact un64_2 b w hb
  · exact un64_3 b w
  · exact un64_4 b w
  · exact un64_5 b w
  · exact un64_6 b w
  · exact un64_7 b w
end Go.Proofs.YtkhhhceeoljheaaGreatDoor
namespace Go.Proofs.YtkhhhceeoljheaaGreatDoor
open Go.RowKit Go.Proofs.YtkhhhceeoljheaaGreatDoor.Fl Ieee Go.Proofs.YtkhhhceeoljheaaGreatDoorW.PrintWords
theorem nanbits32_lt (t x y : Nat) : Question.cut (.nanBits .f32 x y) t < 4294967296 := by
  show (t % 2) * 2 ^ 31 + 0x7f800000 + 1 + (t / 2) % (2 ^ 23 - 1) < 4294967296
  have hm : (t / 2) % (2 ^ 23 - 1) < 2 ^ 23 - 1 := Nat.mod_lt _ (by decide); omega
theorem run_ari32 (op : BinOp) (hop : op = .add ∨ op = .sub ∨ op = .mul ∨ op = .quo) (t : TypeId) (x y : Nat) (w : World) : ∃ r j, (Ari single (floatBits op .f32 x y) r ∧ r < 4294967296) ∧ (binOp op t (.float .f32 x) (.float .f32 y)).run Tryz.prog w = .ok (.float .f32 r) (w.drewN j) := by
  cases h : floatBits op .f32 x y with
  | some r =>
    have := floatBits_wf h; simp [Lit.wf] at this
    exact ⟨r, 0, ⟨rfl, this⟩, run_float_arith w op t .f32 x y r h⟩
  | none =>
    refine ⟨Question.cut (.nanBits .f32 x y) (w.tape w.drawn (.nanBits .f32 x y)), 1, ⟨nanbits .f32 _ x y, nanbits32_lt _ _ _⟩, ?_⟩; unfold floatBits at h; rcases hop with rfl | rfl | rfl | rfl <;> simp only at h <;> simp [binOp, Op.floatArith, h, choose, Sem.run, Question.forced, World.drewN]
noncomputable def arR (op : BinOp) (hop : op = .add ∨ op = .sub ∨ op = .mul ∨ op = .quo) (x y : Nat) (w : World) : Nat := Classical.choose (run_ari32 op hop 128 x y w)
noncomputable def arK (op : BinOp) (hop : op = .add ∨ op = .sub ∨ op = .mul ∨ op = .quo) (x y : Nat) (w : World) : Nat := Classical.choose (Classical.choose_spec (run_ari32 op hop 128 x y w))
theorem arR_is (op : BinOp) (hop : op = .add ∨ op = .sub ∨ op = .mul ∨ op = .quo) (x y : Nat) (w : World) : Ari single (floatBits op .f32 x y) (arR op hop x y w) := (Classical.choose_spec (Classical.choose_spec (run_ari32 op hop 128 x y w))).1.1
theorem arR_lt (op : BinOp) (hop : op = .add ∨ op = .sub ∨ op = .mul ∨ op = .quo) (x y : Nat) (w : World) : arR op hop x y w < 4294967296 := (Classical.choose_spec (Classical.choose_spec (run_ari32 op hop 128 x y w))).1.2
theorem run_ar (op : BinOp) (hop : op = .add ∨ op = .sub ∨ op = .mul ∨ op = .quo) (x y : Nat) (w : World) : (binOp op 128 (.float .f32 x) (.float .f32 y)).run Tryz.prog w = .ok (.float .f32 (arR op hop x y w)) (w.drewN (arK op hop x y w)) := (Classical.choose_spec (Classical.choose_spec (run_ari32 op hop 128 x y w))).2
def orN (c : Nat) (g : Nat → Nat) (o : Option Nat) : Nat := match o with | none => c | some r => g r
def ends (op : Int) (zx zy lt ge : Bool) (a b : Nat) : Nat := if zx && zy && ((op == 5) == ge) then a else if zx && zy || lt != (op == 5) then b else a
def bop (op : Int) : BinOp := if op = 1 then .add else if op = 2 then .sub else if op = 3 then .mul else .quo
def bin32 (op : Int) (a b : Nat) : Nat :=
  if op = 7 then a % 2147483648 + (b - b % 2147483648)
  else if isN single a || isN single b then 2143289344
  else if op = 5 ∨ op = 6 then ends op (single.order a 0 == some .eq) (single.order b 0 == some .eq) (single.order a b == some .lt) (decide (2147483648 ≤ a)) a b
  else orN 2143289344 bt32 (floatBits (bop op) .f32 a b)
def bin64 (op : Int) (a b : Nat) : Nat :=
  if op = 7 then a % 9223372036854775808 + (b - b % 9223372036854775808)
  else if isN double a || isN double b then 9221120237041090560
  else if op = 5 ∨ op = 6 then ends op (double.order a 0 == some .eq) (double.order b 0 == some .eq) (double.order a b == some .lt) (decide (9223372036854775808 ≤ a)) a b
  else orN 9221120237041090560 bt64 (floatBits (bop op) .f64 a b)
theorem ari_bt32 (o : Option Nat) (r : Nat) (h : Ari single o r) : bt32 r = orN 2143289344 bt32 o := by
  cases o with
  | none => have h : isN single r = true := h
            show bt32 r = 2143289344
            unfold bt32; rw [if_pos h]
  | some x => have h : r = x := h
              rw [h]; rfl
theorem ari_bt64 (o : Option Nat) (r : Nat) (h : Ari double o r) : bt64 r = orN 9221120237041090560 bt64 o := by
  cases o with
  | none => have h : isN double r = true := h
            show bt64 r = 9221120237041090560
            unfold bt64; rw [if_pos h]
  | some x => have h : r = x := h
              rw [h]; rfl
theorem val_32 (a r : Nat) (h : Val 32 ((a % 4294967296 : Nat) : Int) r) : Wid (a % 4294967296) r := by
  unfold Val at h; rw [if_pos rfl, wrap32 a] at h; exact h
theorem val_64 (a : Nat) (r : Nat) (h : Val 64 (a : Int) r) : r = a := by
  unfold Val at h; rw [if_neg (by decide)] at h; exact h
theorem wide_zero0 : wide 0 = 0 := by decide
theorem nan_zero : isN single 0 = false := by decide
theorem same64 (x y : Nat) : FloatKind.f64.format.order x y = double.order x y := rfl
set_option maxRecDepth 100000 in
set_option maxHeartbeats 4000000 in
theorem bin32_7 (a b : Nat) (w : World) (ha : a < 18446744073709551616) (hb : b < 18446744073709551616) : Calls Tryz.prog 63 #[.int .i64 32, .int .i64 7, .int .u64 a, .int .u64 b] w fun e w' => e = .returned (.tuple #[.int .u64 (bin32 7 (a % 4294967296) (b % 4294967296) : Nat), .int .i64 0]) ∧ Drawn0 w w' := by
  have hp : a % 4294967296 < 4294967296 := Nat.mod_lt _ (by omega); have hq : b % 4294967296 < 4294967296 := Nat.mod_lt _ (by omega); have hc := cut32 a w ha; have hd := cut32 b w hb; obtain ⟨p, hp2⟩ : ∃ p, a % 4294967296 = p := ⟨_, rfl⟩
  obtain ⟨q, hq2⟩ : ∃ q, b % 4294967296 = q := ⟨_, rfl⟩
  rw [hp2] at hc hp ⊢; rw [hq2] at hd hq ⊢; clear hp2 hq2; obtain ⟨u, hu⟩ : ∃ u, bin32 7 p q = u := ⟨_, rfl⟩
  rw [hu]; have HU := Lib.hid hu; clear hu; have h0 : (0 : Int) ≤ p := by omega
  have h1 : (p : Int) ≤ 4294967295 := by omega
  have h2 : (0 : Int) ≤ q := by omega
  have h3 : (q : Int) ≤ 4294967295 := by omega
  go_enter Tryz.func63, Tryz.ntmps63
  go_wp2_with (first
    | (go_at_call 138; (with_reducible refine hc.mono ?_); rintro e w' ⟨rfl, rfl⟩)
    | (go_at_call 138; (with_reducible refine hd.mono ?_); rintro e w' ⟨rfl, rfl⟩)
    | (go_at_call 137; (with_reducible refine (value_any _ _ _).mono ?_); rintro e w' ⟨r, k, rfl, hr, rfl⟩; clear hr)
    | (go_at_call 139; (with_reducible refine (sign32 _).mono ?_); rintro e w' ⟨rfl, rfl⟩))
  go_quiet (fail)
  go_wp2
  go_ret2; have H : p % 2147483648 + (q - q % 2147483648) = u := HU.out; exact ⟨ret_u (by rw [← H]; first | omega | (rw [u64_id _ (by omega) (by omega)]; omega) | (simp only [IntKind.wrap_u64]; omega)), by first | exact ⟨⟨_, rfl⟩⟩ | exact ⟨⟨_, World.drewN_drewN _ _ _⟩⟩⟩
set_option maxRecDepth 100000 in
set_option maxHeartbeats 4000000 in
theorem bin64_7 (p q : Nat) (w : World) (hp : p < 18446744073709551616) (hq : q < 18446744073709551616) : Calls Tryz.prog 63 #[.int .i64 64, .int .i64 7, .int .u64 p, .int .u64 q] w fun e w' => e = .returned (.tuple #[.int .u64 (bin64 7 p q : Nat), .int .i64 0]) ∧ Drawn0 w w' := by
  obtain ⟨u, hu⟩ : ∃ u, bin64 7 p q = u := ⟨_, rfl⟩
  rw [hu]; have HU := Lib.hid hu; clear hu; have h0 : (0 : Int) ≤ p := by omega
  have h1 : (p : Int) ≤ 18446744073709551615 := by omega
  have h2 : (0 : Int) ≤ q := by omega
  have h3 : (q : Int) ≤ 18446744073709551615 := by omega
  go_enter Tryz.func63, Tryz.ntmps63
  go_wp2_with (first
    | (go_at_call 138; (with_reducible refine (cut64 _ _).mono ?_); rintro e w' ⟨rfl, rfl⟩)
    | (go_at_call 137; (with_reducible refine (value_any _ _ _).mono ?_); rintro e w' ⟨r, k, rfl, hr, rfl⟩; clear hr)
    | (go_at_call 139; (with_reducible refine (sign64 _).mono ?_); rintro e w' ⟨rfl, rfl⟩))
  go_quiet (fail)
  go_wp2
  go_ret2; have H : p % 9223372036854775808 + (q - q % 9223372036854775808) = u := HU.out; exact ⟨ret_u (by rw [← H]; first | omega | (rw [u64_id _ (by omega) (by omega)]; omega) | (simp only [IntKind.wrap_u64]; omega)), by first | exact ⟨⟨_, rfl⟩⟩ | exact ⟨⟨_, World.drewN_drewN _ _ _⟩⟩⟩
end Go.Proofs.YtkhhhceeoljheaaGreatDoor
set_option linter.unusedVariables false
namespace Go.Proofs.YtkhhhceeoljheaaGreatDoor
open Go.RowKit Go.Proofs.YtkhhhceeoljheaaGreatDoor.Fl Ieee Go.Proofs.YtkhhhceeoljheaaGreatDoorW.PrintWords
theorem nanq32 (p r : Nat) (h : Wid p r) : (FloatKind.f64.format.order r r != some .eq) = isN single p := by
  rw [order_self64]; unfold Wid at h; cases c : isN single p
  · rw [if_neg (by rw [c]; decide)] at h
    rw [h]; exact wide_isN p c
  · rw [if_pos c] at h; exact h
theorem nanq64 (p r : Nat) (h : r = p) : (FloatKind.f64.format.order r r != some .eq) = isN double p := by
  rw [order_self64, h]
theorem num32 (p r : Nat) (h : Wid p r) (hn : isN single p = false) : r = wide p := by
  unfold Wid at h; rw [if_neg (by rw [hn]; decide)] at h; exact h
theorem F32_nat (p : Nat) (w : World) (hp : p < 4294967296) : Calls Tryz.prog 149 #[.int .u64 p] w fun e w' => e = .returned (.float .f32 p) ∧ w = w' := by
  have h := F32_any p w; have e := wrap32 p; rw [Nat.mod_eq_of_lt hp] at e; rw [e] at h; exact h
set_option maxRecDepth 100000 in
set_option maxHeartbeats 4000000 in
theorem bin32_nan_1 (a b : Nat) (w : World) (ha : a < 18446744073709551616) (hb : b < 18446744073709551616) (hn : isN single (a % 4294967296) = true ∨ isN single (a % 4294967296) = false ∧ isN single (b % 4294967296) = true) : Calls Tryz.prog 63 #[.int .i64 32, .int .i64 1, .int .u64 a, .int .u64 b] w fun e w' => e = .returned (.tuple #[.int .u64 2143289344, .int .i64 0]) ∧ Drawn0 w w' := by
  have hp : a % 4294967296 < 4294967296 := Nat.mod_lt _ (by omega); have hq : b % 4294967296 < 4294967296 := Nat.mod_lt _ (by omega); have hc := cut32 a w ha; have hd := cut32 b w hb; have HVP := Lib.hid (fun r => val_32 a r); have HVQ := Lib.hid (fun r => val_32 b r); obtain ⟨p, hp2⟩ : ∃ p, a % 4294967296 = p := ⟨_, rfl⟩
  obtain ⟨q, hq2⟩ : ∃ q, b % 4294967296 = q := ⟨_, rfl⟩
  rw [hp2] at hc hp HVP hn; rw [hq2] at hd hq HVQ hn; clear hp2 hq2 ha hb; rcases hn with hn | ⟨hn, hm⟩
  · have HN := Lib.hid hn
    clear hn; go_enter Tryz.func63, Tryz.ntmps63
    go_wp2_with (first
    | (go_at_call 138; (with_reducible refine hc.mono ?_); rintro e w' ⟨rfl, rfl⟩)
    | (go_at_call 138; (with_reducible refine hd.mono ?_); rintro e w' ⟨rfl, rfl⟩)
    | (go_at_call 137; (with_reducible refine (value_any _ (p : Int) _).mono ?_); rintro e w' ⟨x, k, rfl, hr, rfl⟩; have hx := (nanq32 p x (HVP.out x hr)).trans HN.out; clear hr)
    | (go_at_call 137; (with_reducible refine (value_any _ (q : Int) _).mono ?_); rintro e w' ⟨y, l, rfl, hr, rfl⟩; clear hr)
    | (go_at_call 139; (with_reducible refine (sign32 _).mono ?_); rintro e w' ⟨rfl, rfl⟩)
    | (go_at_call 147; (with_reducible refine (canon32 _).mono ?_); rintro e w' ⟨rfl, rfl⟩))
    go_ret2; exact ⟨rfl, by first | exact ⟨⟨_, rfl⟩⟩ | exact ⟨⟨_, World.drewN_drewN _ _ _⟩⟩ | exact Drawn0.refl _⟩
  · have HN := Lib.hid hn
    have HM := Lib.hid hm; clear hn hm; go_enter Tryz.func63, Tryz.ntmps63
    go_wp2_with (first
    | (go_at_call 138; (with_reducible refine hc.mono ?_); rintro e w' ⟨rfl, rfl⟩)
    | (go_at_call 138; (with_reducible refine hd.mono ?_); rintro e w' ⟨rfl, rfl⟩)
    | (go_at_call 137; (with_reducible refine (value_any _ (p : Int) _).mono ?_); rintro e w' ⟨x, k, rfl, hr, rfl⟩; have hx := (nanq32 p x (HVP.out x hr)).trans HN.out; clear hr)
    | (go_at_call 137; (with_reducible refine (value_any _ (q : Int) _).mono ?_); rintro e w' ⟨y, l, rfl, hr, rfl⟩; have hy := (nanq32 q y (HVQ.out y hr)).trans HM.out; clear hr)
    | (go_at_call 139; (with_reducible refine (sign32 _).mono ?_); rintro e w' ⟨rfl, rfl⟩)
    | (go_at_call 147; (with_reducible refine (canon32 _).mono ?_); rintro e w' ⟨rfl, rfl⟩))
    go_ret2; exact ⟨rfl, by first | exact ⟨⟨_, rfl⟩⟩ | exact ⟨⟨_, World.drewN_drewN _ _ _⟩⟩ | exact Drawn0.refl _⟩
set_option maxRecDepth 100000 in
set_option maxHeartbeats 4000000 in
theorem bin32_nan_2 (a b : Nat) (w : World) (ha : a < 18446744073709551616) (hb : b < 18446744073709551616) (hn : isN single (a % 4294967296) = true ∨ isN single (a % 4294967296) = false ∧ isN single (b % 4294967296) = true) : Calls Tryz.prog 63 #[.int .i64 32, .int .i64 2, .int .u64 a, .int .u64 b] w fun e w' => e = .returned (.tuple #[.int .u64 2143289344, .int .i64 0]) ∧ Drawn0 w w' := by
  have hp : a % 4294967296 < 4294967296 := Nat.mod_lt _ (by omega); have hq : b % 4294967296 < 4294967296 := Nat.mod_lt _ (by omega); have hc := cut32 a w ha; have hd := cut32 b w hb; have HVP := Lib.hid (fun r => val_32 a r); have HVQ := Lib.hid (fun r => val_32 b r); obtain ⟨p, hp2⟩ : ∃ p, a % 4294967296 = p := ⟨_, rfl⟩
  obtain ⟨q, hq2⟩ : ∃ q, b % 4294967296 = q := ⟨_, rfl⟩
  rw [hp2] at hc hp HVP hn; rw [hq2] at hd hq HVQ hn; clear hp2 hq2 ha hb; rcases hn with hn | ⟨hn, hm⟩
  · have HN := Lib.hid hn
    clear hn; go_enter Tryz.func63, Tryz.ntmps63
    go_wp2_with (first
    | (go_at_call 138; (with_reducible refine hc.mono ?_); rintro e w' ⟨rfl, rfl⟩)
    | (go_at_call 138; (with_reducible refine hd.mono ?_); rintro e w' ⟨rfl, rfl⟩)
    | (go_at_call 137; (with_reducible refine (value_any _ (p : Int) _).mono ?_); rintro e w' ⟨x, k, rfl, hr, rfl⟩; have hx := (nanq32 p x (HVP.out x hr)).trans HN.out; clear hr)
    | (go_at_call 137; (with_reducible refine (value_any _ (q : Int) _).mono ?_); rintro e w' ⟨y, l, rfl, hr, rfl⟩; clear hr)
    | (go_at_call 139; (with_reducible refine (sign32 _).mono ?_); rintro e w' ⟨rfl, rfl⟩)
    | (go_at_call 147; (with_reducible refine (canon32 _).mono ?_); rintro e w' ⟨rfl, rfl⟩))
    go_ret2; exact ⟨rfl, by first | exact ⟨⟨_, rfl⟩⟩ | exact ⟨⟨_, World.drewN_drewN _ _ _⟩⟩ | exact Drawn0.refl _⟩
  · have HN := Lib.hid hn
    have HM := Lib.hid hm; clear hn hm; go_enter Tryz.func63, Tryz.ntmps63
    go_wp2_with (first
    | (go_at_call 138; (with_reducible refine hc.mono ?_); rintro e w' ⟨rfl, rfl⟩)
    | (go_at_call 138; (with_reducible refine hd.mono ?_); rintro e w' ⟨rfl, rfl⟩)
    | (go_at_call 137; (with_reducible refine (value_any _ (p : Int) _).mono ?_); rintro e w' ⟨x, k, rfl, hr, rfl⟩; have hx := (nanq32 p x (HVP.out x hr)).trans HN.out; clear hr)
    | (go_at_call 137; (with_reducible refine (value_any _ (q : Int) _).mono ?_); rintro e w' ⟨y, l, rfl, hr, rfl⟩; have hy := (nanq32 q y (HVQ.out y hr)).trans HM.out; clear hr)
    | (go_at_call 139; (with_reducible refine (sign32 _).mono ?_); rintro e w' ⟨rfl, rfl⟩)
    | (go_at_call 147; (with_reducible refine (canon32 _).mono ?_); rintro e w' ⟨rfl, rfl⟩))
    go_ret2; exact ⟨rfl, by first | exact ⟨⟨_, rfl⟩⟩ | exact ⟨⟨_, World.drewN_drewN _ _ _⟩⟩ | exact Drawn0.refl _⟩
set_option maxRecDepth 100000 in
set_option maxHeartbeats 4000000 in
theorem bin32_nan_3 (a b : Nat) (w : World) (ha : a < 18446744073709551616) (hb : b < 18446744073709551616) (hn : isN single (a % 4294967296) = true ∨ isN single (a % 4294967296) = false ∧ isN single (b % 4294967296) = true) : Calls Tryz.prog 63 #[.int .i64 32, .int .i64 3, .int .u64 a, .int .u64 b] w fun e w' => e = .returned (.tuple #[.int .u64 2143289344, .int .i64 0]) ∧ Drawn0 w w' := by
  have hp : a % 4294967296 < 4294967296 := Nat.mod_lt _ (by omega); have hq : b % 4294967296 < 4294967296 := Nat.mod_lt _ (by omega); have hc := cut32 a w ha; have hd := cut32 b w hb; have HVP := Lib.hid (fun r => val_32 a r); have HVQ := Lib.hid (fun r => val_32 b r); obtain ⟨p, hp2⟩ : ∃ p, a % 4294967296 = p := ⟨_, rfl⟩
  obtain ⟨q, hq2⟩ : ∃ q, b % 4294967296 = q := ⟨_, rfl⟩
  rw [hp2] at hc hp HVP hn; rw [hq2] at hd hq HVQ hn; clear hp2 hq2 ha hb; rcases hn with hn | ⟨hn, hm⟩
  · have HN := Lib.hid hn
    clear hn; go_enter Tryz.func63, Tryz.ntmps63
    go_wp2_with (first
    | (go_at_call 138; (with_reducible refine hc.mono ?_); rintro e w' ⟨rfl, rfl⟩)
    | (go_at_call 138; (with_reducible refine hd.mono ?_); rintro e w' ⟨rfl, rfl⟩)
    | (go_at_call 137; (with_reducible refine (value_any _ (p : Int) _).mono ?_); rintro e w' ⟨x, k, rfl, hr, rfl⟩; have hx := (nanq32 p x (HVP.out x hr)).trans HN.out; clear hr)
    | (go_at_call 137; (with_reducible refine (value_any _ (q : Int) _).mono ?_); rintro e w' ⟨y, l, rfl, hr, rfl⟩; clear hr)
    | (go_at_call 139; (with_reducible refine (sign32 _).mono ?_); rintro e w' ⟨rfl, rfl⟩)
    | (go_at_call 147; (with_reducible refine (canon32 _).mono ?_); rintro e w' ⟨rfl, rfl⟩))
    go_ret2; exact ⟨rfl, by first | exact ⟨⟨_, rfl⟩⟩ | exact ⟨⟨_, World.drewN_drewN _ _ _⟩⟩ | exact Drawn0.refl _⟩
  · have HN := Lib.hid hn
    have HM := Lib.hid hm; clear hn hm; go_enter Tryz.func63, Tryz.ntmps63
    go_wp2_with (first
    | (go_at_call 138; (with_reducible refine hc.mono ?_); rintro e w' ⟨rfl, rfl⟩)
    | (go_at_call 138; (with_reducible refine hd.mono ?_); rintro e w' ⟨rfl, rfl⟩)
    | (go_at_call 137; (with_reducible refine (value_any _ (p : Int) _).mono ?_); rintro e w' ⟨x, k, rfl, hr, rfl⟩; have hx := (nanq32 p x (HVP.out x hr)).trans HN.out; clear hr)
    | (go_at_call 137; (with_reducible refine (value_any _ (q : Int) _).mono ?_); rintro e w' ⟨y, l, rfl, hr, rfl⟩; have hy := (nanq32 q y (HVQ.out y hr)).trans HM.out; clear hr)
    | (go_at_call 139; (with_reducible refine (sign32 _).mono ?_); rintro e w' ⟨rfl, rfl⟩)
    | (go_at_call 147; (with_reducible refine (canon32 _).mono ?_); rintro e w' ⟨rfl, rfl⟩))
    go_ret2; exact ⟨rfl, by first | exact ⟨⟨_, rfl⟩⟩ | exact ⟨⟨_, World.drewN_drewN _ _ _⟩⟩ | exact Drawn0.refl _⟩
set_option maxRecDepth 100000 in
set_option maxHeartbeats 4000000 in
theorem bin32_nan_4 (a b : Nat) (w : World) (ha : a < 18446744073709551616) (hb : b < 18446744073709551616) (hn : isN single (a % 4294967296) = true ∨ isN single (a % 4294967296) = false ∧ isN single (b % 4294967296) = true) : Calls Tryz.prog 63 #[.int .i64 32, .int .i64 4, .int .u64 a, .int .u64 b] w fun e w' => e = .returned (.tuple #[.int .u64 2143289344, .int .i64 0]) ∧ Drawn0 w w' := by
  have hp : a % 4294967296 < 4294967296 := Nat.mod_lt _ (by omega); have hq : b % 4294967296 < 4294967296 := Nat.mod_lt _ (by omega); have hc := cut32 a w ha; have hd := cut32 b w hb; have HVP := Lib.hid (fun r => val_32 a r); have HVQ := Lib.hid (fun r => val_32 b r); obtain ⟨p, hp2⟩ : ∃ p, a % 4294967296 = p := ⟨_, rfl⟩
  obtain ⟨q, hq2⟩ : ∃ q, b % 4294967296 = q := ⟨_, rfl⟩
  rw [hp2] at hc hp HVP hn; rw [hq2] at hd hq HVQ hn; clear hp2 hq2 ha hb; rcases hn with hn | ⟨hn, hm⟩
  · have HN := Lib.hid hn
    clear hn; go_enter Tryz.func63, Tryz.ntmps63
    go_wp2_with (first
    | (go_at_call 138; (with_reducible refine hc.mono ?_); rintro e w' ⟨rfl, rfl⟩)
    | (go_at_call 138; (with_reducible refine hd.mono ?_); rintro e w' ⟨rfl, rfl⟩)
    | (go_at_call 137; (with_reducible refine (value_any _ (p : Int) _).mono ?_); rintro e w' ⟨x, k, rfl, hr, rfl⟩; have hx := (nanq32 p x (HVP.out x hr)).trans HN.out; clear hr)
    | (go_at_call 137; (with_reducible refine (value_any _ (q : Int) _).mono ?_); rintro e w' ⟨y, l, rfl, hr, rfl⟩; clear hr)
    | (go_at_call 139; (with_reducible refine (sign32 _).mono ?_); rintro e w' ⟨rfl, rfl⟩)
    | (go_at_call 147; (with_reducible refine (canon32 _).mono ?_); rintro e w' ⟨rfl, rfl⟩))
    go_ret2; exact ⟨rfl, by first | exact ⟨⟨_, rfl⟩⟩ | exact ⟨⟨_, World.drewN_drewN _ _ _⟩⟩ | exact Drawn0.refl _⟩
  · have HN := Lib.hid hn
    have HM := Lib.hid hm; clear hn hm; go_enter Tryz.func63, Tryz.ntmps63
    go_wp2_with (first
    | (go_at_call 138; (with_reducible refine hc.mono ?_); rintro e w' ⟨rfl, rfl⟩)
    | (go_at_call 138; (with_reducible refine hd.mono ?_); rintro e w' ⟨rfl, rfl⟩)
    | (go_at_call 137; (with_reducible refine (value_any _ (p : Int) _).mono ?_); rintro e w' ⟨x, k, rfl, hr, rfl⟩; have hx := (nanq32 p x (HVP.out x hr)).trans HN.out; clear hr)
    | (go_at_call 137; (with_reducible refine (value_any _ (q : Int) _).mono ?_); rintro e w' ⟨y, l, rfl, hr, rfl⟩; have hy := (nanq32 q y (HVQ.out y hr)).trans HM.out; clear hr)
    | (go_at_call 139; (with_reducible refine (sign32 _).mono ?_); rintro e w' ⟨rfl, rfl⟩)
    | (go_at_call 147; (with_reducible refine (canon32 _).mono ?_); rintro e w' ⟨rfl, rfl⟩))
    go_ret2; exact ⟨rfl, by first | exact ⟨⟨_, rfl⟩⟩ | exact ⟨⟨_, World.drewN_drewN _ _ _⟩⟩ | exact Drawn0.refl _⟩
set_option maxRecDepth 100000 in
set_option maxHeartbeats 4000000 in
theorem bin32_nan_5 (a b : Nat) (w : World) (ha : a < 18446744073709551616) (hb : b < 18446744073709551616) (hn : isN single (a % 4294967296) = true ∨ isN single (a % 4294967296) = false ∧ isN single (b % 4294967296) = true) : Calls Tryz.prog 63 #[.int .i64 32, .int .i64 5, .int .u64 a, .int .u64 b] w fun e w' => e = .returned (.tuple #[.int .u64 2143289344, .int .i64 0]) ∧ Drawn0 w w' := by
  have hp : a % 4294967296 < 4294967296 := Nat.mod_lt _ (by omega); have hq : b % 4294967296 < 4294967296 := Nat.mod_lt _ (by omega); have hc := cut32 a w ha; have hd := cut32 b w hb; have HVP := Lib.hid (fun r => val_32 a r); have HVQ := Lib.hid (fun r => val_32 b r); obtain ⟨p, hp2⟩ : ∃ p, a % 4294967296 = p := ⟨_, rfl⟩
  obtain ⟨q, hq2⟩ : ∃ q, b % 4294967296 = q := ⟨_, rfl⟩
  rw [hp2] at hc hp HVP hn; rw [hq2] at hd hq HVQ hn; clear hp2 hq2 ha hb; rcases hn with hn | ⟨hn, hm⟩
  · have HN := Lib.hid hn
    clear hn; go_enter Tryz.func63, Tryz.ntmps63
    go_wp2_with (first
    | (go_at_call 138; (with_reducible refine hc.mono ?_); rintro e w' ⟨rfl, rfl⟩)
    | (go_at_call 138; (with_reducible refine hd.mono ?_); rintro e w' ⟨rfl, rfl⟩)
    | (go_at_call 137; (with_reducible refine (value_any _ (p : Int) _).mono ?_); rintro e w' ⟨x, k, rfl, hr, rfl⟩; have hx := (nanq32 p x (HVP.out x hr)).trans HN.out; clear hr)
    | (go_at_call 137; (with_reducible refine (value_any _ (q : Int) _).mono ?_); rintro e w' ⟨y, l, rfl, hr, rfl⟩; clear hr)
    | (go_at_call 139; (with_reducible refine (sign32 _).mono ?_); rintro e w' ⟨rfl, rfl⟩)
    | (go_at_call 147; (with_reducible refine (canon32 _).mono ?_); rintro e w' ⟨rfl, rfl⟩))
    go_ret2; exact ⟨rfl, by first | exact ⟨⟨_, rfl⟩⟩ | exact ⟨⟨_, World.drewN_drewN _ _ _⟩⟩ | exact Drawn0.refl _⟩
  · have HN := Lib.hid hn
    have HM := Lib.hid hm; clear hn hm; go_enter Tryz.func63, Tryz.ntmps63
    go_wp2_with (first
    | (go_at_call 138; (with_reducible refine hc.mono ?_); rintro e w' ⟨rfl, rfl⟩)
    | (go_at_call 138; (with_reducible refine hd.mono ?_); rintro e w' ⟨rfl, rfl⟩)
    | (go_at_call 137; (with_reducible refine (value_any _ (p : Int) _).mono ?_); rintro e w' ⟨x, k, rfl, hr, rfl⟩; have hx := (nanq32 p x (HVP.out x hr)).trans HN.out; clear hr)
    | (go_at_call 137; (with_reducible refine (value_any _ (q : Int) _).mono ?_); rintro e w' ⟨y, l, rfl, hr, rfl⟩; have hy := (nanq32 q y (HVQ.out y hr)).trans HM.out; clear hr)
    | (go_at_call 139; (with_reducible refine (sign32 _).mono ?_); rintro e w' ⟨rfl, rfl⟩)
    | (go_at_call 147; (with_reducible refine (canon32 _).mono ?_); rintro e w' ⟨rfl, rfl⟩))
    go_ret2; exact ⟨rfl, by first | exact ⟨⟨_, rfl⟩⟩ | exact ⟨⟨_, World.drewN_drewN _ _ _⟩⟩ | exact Drawn0.refl _⟩
set_option maxRecDepth 100000 in
set_option maxHeartbeats 4000000 in
theorem bin32_nan_6 (a b : Nat) (w : World) (ha : a < 18446744073709551616) (hb : b < 18446744073709551616) (hn : isN single (a % 4294967296) = true ∨ isN single (a % 4294967296) = false ∧ isN single (b % 4294967296) = true) : Calls Tryz.prog 63 #[.int .i64 32, .int .i64 6, .int .u64 a, .int .u64 b] w fun e w' => e = .returned (.tuple #[.int .u64 2143289344, .int .i64 0]) ∧ Drawn0 w w' := by
  have hp : a % 4294967296 < 4294967296 := Nat.mod_lt _ (by omega); have hq : b % 4294967296 < 4294967296 := Nat.mod_lt _ (by omega); have hc := cut32 a w ha; have hd := cut32 b w hb; have HVP := Lib.hid (fun r => val_32 a r); have HVQ := Lib.hid (fun r => val_32 b r); obtain ⟨p, hp2⟩ : ∃ p, a % 4294967296 = p := ⟨_, rfl⟩
  obtain ⟨q, hq2⟩ : ∃ q, b % 4294967296 = q := ⟨_, rfl⟩
  rw [hp2] at hc hp HVP hn; rw [hq2] at hd hq HVQ hn; clear hp2 hq2 ha hb; rcases hn with hn | ⟨hn, hm⟩
  · have HN := Lib.hid hn
    clear hn; go_enter Tryz.func63, Tryz.ntmps63
    go_wp2_with (first
    | (go_at_call 138; (with_reducible refine hc.mono ?_); rintro e w' ⟨rfl, rfl⟩)
    | (go_at_call 138; (with_reducible refine hd.mono ?_); rintro e w' ⟨rfl, rfl⟩)
    | (go_at_call 137; (with_reducible refine (value_any _ (p : Int) _).mono ?_); rintro e w' ⟨x, k, rfl, hr, rfl⟩; have hx := (nanq32 p x (HVP.out x hr)).trans HN.out; clear hr)
    | (go_at_call 137; (with_reducible refine (value_any _ (q : Int) _).mono ?_); rintro e w' ⟨y, l, rfl, hr, rfl⟩; clear hr)
    | (go_at_call 139; (with_reducible refine (sign32 _).mono ?_); rintro e w' ⟨rfl, rfl⟩)
    | (go_at_call 147; (with_reducible refine (canon32 _).mono ?_); rintro e w' ⟨rfl, rfl⟩))
    go_ret2; exact ⟨rfl, by first | exact ⟨⟨_, rfl⟩⟩ | exact ⟨⟨_, World.drewN_drewN _ _ _⟩⟩ | exact Drawn0.refl _⟩
  · have HN := Lib.hid hn
    have HM := Lib.hid hm; clear hn hm; go_enter Tryz.func63, Tryz.ntmps63
    go_wp2_with (first
    | (go_at_call 138; (with_reducible refine hc.mono ?_); rintro e w' ⟨rfl, rfl⟩)
    | (go_at_call 138; (with_reducible refine hd.mono ?_); rintro e w' ⟨rfl, rfl⟩)
    | (go_at_call 137; (with_reducible refine (value_any _ (p : Int) _).mono ?_); rintro e w' ⟨x, k, rfl, hr, rfl⟩; have hx := (nanq32 p x (HVP.out x hr)).trans HN.out; clear hr)
    | (go_at_call 137; (with_reducible refine (value_any _ (q : Int) _).mono ?_); rintro e w' ⟨y, l, rfl, hr, rfl⟩; have hy := (nanq32 q y (HVQ.out y hr)).trans HM.out; clear hr)
    | (go_at_call 139; (with_reducible refine (sign32 _).mono ?_); rintro e w' ⟨rfl, rfl⟩)
    | (go_at_call 147; (with_reducible refine (canon32 _).mono ?_); rintro e w' ⟨rfl, rfl⟩))
    go_ret2; exact ⟨rfl, by first | exact ⟨⟨_, rfl⟩⟩ | exact ⟨⟨_, World.drewN_drewN _ _ _⟩⟩ | exact Drawn0.refl _⟩
set_option maxRecDepth 100000 in
set_option maxHeartbeats 4000000 in
theorem bin64_nan_1 (p q : Nat) (w : World) (hp : p < 18446744073709551616) (hq : q < 18446744073709551616) (hn : isN double p = true ∨ isN double p = false ∧ isN double q = true) : Calls Tryz.prog 63 #[.int .i64 64, .int .i64 1, .int .u64 p, .int .u64 q] w fun e w' => e = .returned (.tuple #[.int .u64 9221120237041090560, .int .i64 0]) ∧ Drawn0 w w' := by
  have HVP := Lib.hid (fun r => val_64 p r); have HVQ := Lib.hid (fun r => val_64 q r); rcases hn with hn | ⟨hn, hm⟩
  · have HN := Lib.hid hn
    clear hn; go_enter Tryz.func63, Tryz.ntmps63
    go_wp2_with (first
    | (go_at_call 138; (with_reducible refine (cut64 _ _).mono ?_); rintro e w' ⟨rfl, rfl⟩)
    | (go_at_call 137; (with_reducible refine (value_any _ (p : Int) _).mono ?_); rintro e w' ⟨x, k, rfl, hr, rfl⟩; have hx := (nanq64 p x (HVP.out x hr)).trans HN.out; clear hr)
    | (go_at_call 137; (with_reducible refine (value_any _ (q : Int) _).mono ?_); rintro e w' ⟨y, l, rfl, hr, rfl⟩; clear hr)
    | (go_at_call 139; (with_reducible refine (sign64 _).mono ?_); rintro e w' ⟨rfl, rfl⟩)
    | (go_at_call 147; (with_reducible refine (canon64 _).mono ?_); rintro e w' ⟨rfl, rfl⟩))
    go_ret2; exact ⟨rfl, by first | exact ⟨⟨_, rfl⟩⟩ | exact ⟨⟨_, World.drewN_drewN _ _ _⟩⟩ | exact Drawn0.refl _⟩
  · have HN := Lib.hid hn
    have HM := Lib.hid hm; clear hn hm; go_enter Tryz.func63, Tryz.ntmps63
    go_wp2_with (first
    | (go_at_call 138; (with_reducible refine (cut64 _ _).mono ?_); rintro e w' ⟨rfl, rfl⟩)
    | (go_at_call 137; (with_reducible refine (value_any _ (p : Int) _).mono ?_); rintro e w' ⟨x, k, rfl, hr, rfl⟩; have hx := (nanq64 p x (HVP.out x hr)).trans HN.out; clear hr)
    | (go_at_call 137; (with_reducible refine (value_any _ (q : Int) _).mono ?_); rintro e w' ⟨y, l, rfl, hr, rfl⟩; have hy := (nanq64 q y (HVQ.out y hr)).trans HM.out; clear hr)
    | (go_at_call 139; (with_reducible refine (sign64 _).mono ?_); rintro e w' ⟨rfl, rfl⟩)
    | (go_at_call 147; (with_reducible refine (canon64 _).mono ?_); rintro e w' ⟨rfl, rfl⟩))
    go_ret2; exact ⟨rfl, by first | exact ⟨⟨_, rfl⟩⟩ | exact ⟨⟨_, World.drewN_drewN _ _ _⟩⟩ | exact Drawn0.refl _⟩
set_option maxRecDepth 100000 in
set_option maxHeartbeats 4000000 in
theorem bin64_nan_2 (p q : Nat) (w : World) (hp : p < 18446744073709551616) (hq : q < 18446744073709551616) (hn : isN double p = true ∨ isN double p = false ∧ isN double q = true) : Calls Tryz.prog 63 #[.int .i64 64, .int .i64 2, .int .u64 p, .int .u64 q] w fun e w' => e = .returned (.tuple #[.int .u64 9221120237041090560, .int .i64 0]) ∧ Drawn0 w w' := by
  have HVP := Lib.hid (fun r => val_64 p r); have HVQ := Lib.hid (fun r => val_64 q r); rcases hn with hn | ⟨hn, hm⟩
  · have HN := Lib.hid hn
    clear hn; go_enter Tryz.func63, Tryz.ntmps63
    go_wp2_with (first
    | (go_at_call 138; (with_reducible refine (cut64 _ _).mono ?_); rintro e w' ⟨rfl, rfl⟩)
    | (go_at_call 137; (with_reducible refine (value_any _ (p : Int) _).mono ?_); rintro e w' ⟨x, k, rfl, hr, rfl⟩; have hx := (nanq64 p x (HVP.out x hr)).trans HN.out; clear hr)
    | (go_at_call 137; (with_reducible refine (value_any _ (q : Int) _).mono ?_); rintro e w' ⟨y, l, rfl, hr, rfl⟩; clear hr)
    | (go_at_call 139; (with_reducible refine (sign64 _).mono ?_); rintro e w' ⟨rfl, rfl⟩)
    | (go_at_call 147; (with_reducible refine (canon64 _).mono ?_); rintro e w' ⟨rfl, rfl⟩))
    go_ret2; exact ⟨rfl, by first | exact ⟨⟨_, rfl⟩⟩ | exact ⟨⟨_, World.drewN_drewN _ _ _⟩⟩ | exact Drawn0.refl _⟩
  · have HN := Lib.hid hn
    have HM := Lib.hid hm; clear hn hm; go_enter Tryz.func63, Tryz.ntmps63
    go_wp2_with (first
    | (go_at_call 138; (with_reducible refine (cut64 _ _).mono ?_); rintro e w' ⟨rfl, rfl⟩)
    | (go_at_call 137; (with_reducible refine (value_any _ (p : Int) _).mono ?_); rintro e w' ⟨x, k, rfl, hr, rfl⟩; have hx := (nanq64 p x (HVP.out x hr)).trans HN.out; clear hr)
    | (go_at_call 137; (with_reducible refine (value_any _ (q : Int) _).mono ?_); rintro e w' ⟨y, l, rfl, hr, rfl⟩; have hy := (nanq64 q y (HVQ.out y hr)).trans HM.out; clear hr)
    | (go_at_call 139; (with_reducible refine (sign64 _).mono ?_); rintro e w' ⟨rfl, rfl⟩)
    | (go_at_call 147; (with_reducible refine (canon64 _).mono ?_); rintro e w' ⟨rfl, rfl⟩))
    go_ret2; exact ⟨rfl, by first | exact ⟨⟨_, rfl⟩⟩ | exact ⟨⟨_, World.drewN_drewN _ _ _⟩⟩ | exact Drawn0.refl _⟩
set_option maxRecDepth 100000 in
set_option maxHeartbeats 4000000 in
theorem bin64_nan_3 (p q : Nat) (w : World) (hp : p < 18446744073709551616) (hq : q < 18446744073709551616) (hn : isN double p = true ∨ isN double p = false ∧ isN double q = true) : Calls Tryz.prog 63 #[.int .i64 64, .int .i64 3, .int .u64 p, .int .u64 q] w fun e w' => e = .returned (.tuple #[.int .u64 9221120237041090560, .int .i64 0]) ∧ Drawn0 w w' := by
  have HVP := Lib.hid (fun r => val_64 p r); have HVQ := Lib.hid (fun r => val_64 q r); rcases hn with hn | ⟨hn, hm⟩
  · have HN := Lib.hid hn
    clear hn; go_enter Tryz.func63, Tryz.ntmps63
    go_wp2_with (first
    | (go_at_call 138; (with_reducible refine (cut64 _ _).mono ?_); rintro e w' ⟨rfl, rfl⟩)
    | (go_at_call 137; (with_reducible refine (value_any _ (p : Int) _).mono ?_); rintro e w' ⟨x, k, rfl, hr, rfl⟩; have hx := (nanq64 p x (HVP.out x hr)).trans HN.out; clear hr)
    | (go_at_call 137; (with_reducible refine (value_any _ (q : Int) _).mono ?_); rintro e w' ⟨y, l, rfl, hr, rfl⟩; clear hr)
    | (go_at_call 139; (with_reducible refine (sign64 _).mono ?_); rintro e w' ⟨rfl, rfl⟩)
    | (go_at_call 147; (with_reducible refine (canon64 _).mono ?_); rintro e w' ⟨rfl, rfl⟩))
    go_ret2; exact ⟨rfl, by first | exact ⟨⟨_, rfl⟩⟩ | exact ⟨⟨_, World.drewN_drewN _ _ _⟩⟩ | exact Drawn0.refl _⟩
  · have HN := Lib.hid hn
    have HM := Lib.hid hm; clear hn hm; go_enter Tryz.func63, Tryz.ntmps63
    go_wp2_with (first
    | (go_at_call 138; (with_reducible refine (cut64 _ _).mono ?_); rintro e w' ⟨rfl, rfl⟩)
    | (go_at_call 137; (with_reducible refine (value_any _ (p : Int) _).mono ?_); rintro e w' ⟨x, k, rfl, hr, rfl⟩; have hx := (nanq64 p x (HVP.out x hr)).trans HN.out; clear hr)
    | (go_at_call 137; (with_reducible refine (value_any _ (q : Int) _).mono ?_); rintro e w' ⟨y, l, rfl, hr, rfl⟩; have hy := (nanq64 q y (HVQ.out y hr)).trans HM.out; clear hr)
    | (go_at_call 139; (with_reducible refine (sign64 _).mono ?_); rintro e w' ⟨rfl, rfl⟩)
    | (go_at_call 147; (with_reducible refine (canon64 _).mono ?_); rintro e w' ⟨rfl, rfl⟩))
    go_ret2; exact ⟨rfl, by first | exact ⟨⟨_, rfl⟩⟩ | exact ⟨⟨_, World.drewN_drewN _ _ _⟩⟩ | exact Drawn0.refl _⟩
set_option maxRecDepth 100000 in
set_option maxHeartbeats 4000000 in
theorem bin64_nan_4 (p q : Nat) (w : World) (hp : p < 18446744073709551616) (hq : q < 18446744073709551616) (hn : isN double p = true ∨ isN double p = false ∧ isN double q = true) : Calls Tryz.prog 63 #[.int .i64 64, .int .i64 4, .int .u64 p, .int .u64 q] w fun e w' => e = .returned (.tuple #[.int .u64 9221120237041090560, .int .i64 0]) ∧ Drawn0 w w' := by
  have HVP := Lib.hid (fun r => val_64 p r); have HVQ := Lib.hid (fun r => val_64 q r); rcases hn with hn | ⟨hn, hm⟩
  · have HN := Lib.hid hn
    clear hn; go_enter Tryz.func63, Tryz.ntmps63
    go_wp2_with (first
    | (go_at_call 138; (with_reducible refine (cut64 _ _).mono ?_); rintro e w' ⟨rfl, rfl⟩)
    | (go_at_call 137; (with_reducible refine (value_any _ (p : Int) _).mono ?_); rintro e w' ⟨x, k, rfl, hr, rfl⟩; have hx := (nanq64 p x (HVP.out x hr)).trans HN.out; clear hr)
    | (go_at_call 137; (with_reducible refine (value_any _ (q : Int) _).mono ?_); rintro e w' ⟨y, l, rfl, hr, rfl⟩; clear hr)
    | (go_at_call 139; (with_reducible refine (sign64 _).mono ?_); rintro e w' ⟨rfl, rfl⟩)
    | (go_at_call 147; (with_reducible refine (canon64 _).mono ?_); rintro e w' ⟨rfl, rfl⟩))
    go_ret2; exact ⟨rfl, by first | exact ⟨⟨_, rfl⟩⟩ | exact ⟨⟨_, World.drewN_drewN _ _ _⟩⟩ | exact Drawn0.refl _⟩
  · have HN := Lib.hid hn
    have HM := Lib.hid hm; clear hn hm; go_enter Tryz.func63, Tryz.ntmps63
    go_wp2_with (first
    | (go_at_call 138; (with_reducible refine (cut64 _ _).mono ?_); rintro e w' ⟨rfl, rfl⟩)
    | (go_at_call 137; (with_reducible refine (value_any _ (p : Int) _).mono ?_); rintro e w' ⟨x, k, rfl, hr, rfl⟩; have hx := (nanq64 p x (HVP.out x hr)).trans HN.out; clear hr)
    | (go_at_call 137; (with_reducible refine (value_any _ (q : Int) _).mono ?_); rintro e w' ⟨y, l, rfl, hr, rfl⟩; have hy := (nanq64 q y (HVQ.out y hr)).trans HM.out; clear hr)
    | (go_at_call 139; (with_reducible refine (sign64 _).mono ?_); rintro e w' ⟨rfl, rfl⟩)
    | (go_at_call 147; (with_reducible refine (canon64 _).mono ?_); rintro e w' ⟨rfl, rfl⟩))
    go_ret2; exact ⟨rfl, by first | exact ⟨⟨_, rfl⟩⟩ | exact ⟨⟨_, World.drewN_drewN _ _ _⟩⟩ | exact Drawn0.refl _⟩
set_option maxRecDepth 100000 in
set_option maxHeartbeats 4000000 in
theorem bin64_nan_5 (p q : Nat) (w : World) (hp : p < 18446744073709551616) (hq : q < 18446744073709551616) (hn : isN double p = true ∨ isN double p = false ∧ isN double q = true) : Calls Tryz.prog 63 #[.int .i64 64, .int .i64 5, .int .u64 p, .int .u64 q] w fun e w' => e = .returned (.tuple #[.int .u64 9221120237041090560, .int .i64 0]) ∧ Drawn0 w w' := by
  have HVP := Lib.hid (fun r => val_64 p r); have HVQ := Lib.hid (fun r => val_64 q r); rcases hn with hn | ⟨hn, hm⟩
  · have HN := Lib.hid hn
    clear hn; go_enter Tryz.func63, Tryz.ntmps63
    go_wp2_with (first
    | (go_at_call 138; (with_reducible refine (cut64 _ _).mono ?_); rintro e w' ⟨rfl, rfl⟩)
    | (go_at_call 137; (with_reducible refine (value_any _ (p : Int) _).mono ?_); rintro e w' ⟨x, k, rfl, hr, rfl⟩; have hx := (nanq64 p x (HVP.out x hr)).trans HN.out; clear hr)
    | (go_at_call 137; (with_reducible refine (value_any _ (q : Int) _).mono ?_); rintro e w' ⟨y, l, rfl, hr, rfl⟩; clear hr)
    | (go_at_call 139; (with_reducible refine (sign64 _).mono ?_); rintro e w' ⟨rfl, rfl⟩)
    | (go_at_call 147; (with_reducible refine (canon64 _).mono ?_); rintro e w' ⟨rfl, rfl⟩))
    go_ret2; exact ⟨rfl, by first | exact ⟨⟨_, rfl⟩⟩ | exact ⟨⟨_, World.drewN_drewN _ _ _⟩⟩ | exact Drawn0.refl _⟩
  · have HN := Lib.hid hn
    have HM := Lib.hid hm; clear hn hm; go_enter Tryz.func63, Tryz.ntmps63
    go_wp2_with (first
    | (go_at_call 138; (with_reducible refine (cut64 _ _).mono ?_); rintro e w' ⟨rfl, rfl⟩)
    | (go_at_call 137; (with_reducible refine (value_any _ (p : Int) _).mono ?_); rintro e w' ⟨x, k, rfl, hr, rfl⟩; have hx := (nanq64 p x (HVP.out x hr)).trans HN.out; clear hr)
    | (go_at_call 137; (with_reducible refine (value_any _ (q : Int) _).mono ?_); rintro e w' ⟨y, l, rfl, hr, rfl⟩; have hy := (nanq64 q y (HVQ.out y hr)).trans HM.out; clear hr)
    | (go_at_call 139; (with_reducible refine (sign64 _).mono ?_); rintro e w' ⟨rfl, rfl⟩)
    | (go_at_call 147; (with_reducible refine (canon64 _).mono ?_); rintro e w' ⟨rfl, rfl⟩))
    go_ret2; exact ⟨rfl, by first | exact ⟨⟨_, rfl⟩⟩ | exact ⟨⟨_, World.drewN_drewN _ _ _⟩⟩ | exact Drawn0.refl _⟩
set_option maxRecDepth 100000 in
set_option maxHeartbeats 4000000 in
theorem bin64_nan_6 (p q : Nat) (w : World) (hp : p < 18446744073709551616) (hq : q < 18446744073709551616) (hn : isN double p = true ∨ isN double p = false ∧ isN double q = true) : Calls Tryz.prog 63 #[.int .i64 64, .int .i64 6, .int .u64 p, .int .u64 q] w fun e w' => e = .returned (.tuple #[.int .u64 9221120237041090560, .int .i64 0]) ∧ Drawn0 w w' := by
  have HVP := Lib.hid (fun r => val_64 p r); have HVQ := Lib.hid (fun r => val_64 q r); rcases hn with hn | ⟨hn, hm⟩
  · have HN := Lib.hid hn
    clear hn; go_enter Tryz.func63, Tryz.ntmps63
    go_wp2_with (first
    | (go_at_call 138; (with_reducible refine (cut64 _ _).mono ?_); rintro e w' ⟨rfl, rfl⟩)
    | (go_at_call 137; (with_reducible refine (value_any _ (p : Int) _).mono ?_); rintro e w' ⟨x, k, rfl, hr, rfl⟩; have hx := (nanq64 p x (HVP.out x hr)).trans HN.out; clear hr)
    | (go_at_call 137; (with_reducible refine (value_any _ (q : Int) _).mono ?_); rintro e w' ⟨y, l, rfl, hr, rfl⟩; clear hr)
    | (go_at_call 139; (with_reducible refine (sign64 _).mono ?_); rintro e w' ⟨rfl, rfl⟩)
    | (go_at_call 147; (with_reducible refine (canon64 _).mono ?_); rintro e w' ⟨rfl, rfl⟩))
    go_ret2; exact ⟨rfl, by first | exact ⟨⟨_, rfl⟩⟩ | exact ⟨⟨_, World.drewN_drewN _ _ _⟩⟩ | exact Drawn0.refl _⟩
  · have HN := Lib.hid hn
    have HM := Lib.hid hm; clear hn hm; go_enter Tryz.func63, Tryz.ntmps63
    go_wp2_with (first
    | (go_at_call 138; (with_reducible refine (cut64 _ _).mono ?_); rintro e w' ⟨rfl, rfl⟩)
    | (go_at_call 137; (with_reducible refine (value_any _ (p : Int) _).mono ?_); rintro e w' ⟨x, k, rfl, hr, rfl⟩; have hx := (nanq64 p x (HVP.out x hr)).trans HN.out; clear hr)
    | (go_at_call 137; (with_reducible refine (value_any _ (q : Int) _).mono ?_); rintro e w' ⟨y, l, rfl, hr, rfl⟩; have hy := (nanq64 q y (HVQ.out y hr)).trans HM.out; clear hr)
    | (go_at_call 139; (with_reducible refine (sign64 _).mono ?_); rintro e w' ⟨rfl, rfl⟩)
    | (go_at_call 147; (with_reducible refine (canon64 _).mono ?_); rintro e w' ⟨rfl, rfl⟩))
    go_ret2; exact ⟨rfl, by first | exact ⟨⟨_, rfl⟩⟩ | exact ⟨⟨_, World.drewN_drewN _ _ _⟩⟩ | exact Drawn0.refl _⟩
end Go.Proofs.YtkhhhceeoljheaaGreatDoor
set_option linter.unusedVariables false
namespace Go.Proofs.YtkhhhceeoljheaaGreatDoor
open Go.RowKit Go.Proofs.YtkhhhceeoljheaaGreatDoor.Fl Ieee Go.Proofs.YtkhhhceeoljheaaGreatDoorW.PrintWords
theorem val_w (p r : Nat) (hw : (IntKind.u32.wrap (p : Int)).toNat = p) (h : Val 32 (p : Int) r) : Wid p r := by
  unfold Val at h; rw [if_pos rfl, hw] at h; exact h
set_option maxRecDepth 100000 in
set_option maxHeartbeats 8000000 in
theorem bin32_e5 (a b p q : Nat) (w : World) (hc : Calls Tryz.prog 138 #[.int .i64 32, .int .u64 a] w fun e w' => e = .returned (.int .u64 p) ∧ w = w') (hd : Calls Tryz.prog 138 #[.int .i64 32, .int .u64 b] w fun e w' => e = .returned (.int .u64 q) ∧ w = w') (hwp : (IntKind.u32.wrap (p : Int)).toNat = p) (hwq : (IntKind.u32.wrap (q : Int)).toNat = q) (hp : p < 4294967296) (hq : q < 4294967296) (hn : isN single p = false) (hm : isN single q = false) : Calls Tryz.prog 63 #[.int .i64 32, .int .i64 5, .int .u64 a, .int .u64 b] w fun e w' => e = .returned (.tuple #[.int .u64 (ends 5 (single.order p 0 == some .eq) (single.order q 0 == some .eq) (single.order p q == some .lt) (decide (2147483648 ≤ p)) p q : Nat), .int .i64 0]) ∧ Drawn0 w w' := by
  have HVP := Lib.hid (fun (r : Nat) (h : Val 32 (p : Int) r) => num32 p r (val_w p r hwp h) hn); have HVQ := Lib.hid (fun (r : Nat) (h : Val 32 (q : Int) r) => num32 q r (val_w q r hwq h) hm); obtain ⟨X, hX⟩ : ∃ X, wide p = X := ⟨_, rfl⟩
  obtain ⟨Y, hY⟩ : ∃ Y, wide q = Y := ⟨_, rfl⟩
  have oX : (FloatKind.f64.format.order X X != some .eq) = false := by rw [← hX, order_self64]; exact wide_isN p hn
  have oY : (FloatKind.f64.format.order Y Y != some .eq) = false := by rw [← hY, order_self64]; exact wide_isN q hm
  have fx : FloatKind.f64.format.order X 0 = single.order p 0 := by rw [← hX, same64]; have := order_wide p 0 hn nan_zero; rw [wide_zero0] at this; exact this
  have fy : FloatKind.f64.format.order Y 0 = single.order q 0 := by rw [← hY, same64]; have := order_wide q 0 hm nan_zero; rw [wide_zero0] at this; exact this
  have fl : FloatKind.f64.format.order X Y = single.order p q := by rw [← hX, ← hY, same64]; exact order_wide p q hn hm
  rw [← fx, ← fy, ← fl]; clear fx fy fl; obtain ⟨zx, hx0⟩ : ∃ z, (FloatKind.f64.format.order X 0 == some .eq) = z := ⟨_, rfl⟩
  obtain ⟨zy, hy0⟩ : ∃ z, (FloatKind.f64.format.order Y 0 == some .eq) = z := ⟨_, rfl⟩
  obtain ⟨lt, hlt⟩ : ∃ z, (FloatKind.f64.format.order X Y == some .lt) = z := ⟨_, rfl⟩
  obtain ⟨ge, hge⟩ : ∃ z, decide (2147483648 ≤ p) = z := ⟨_, rfl⟩
  have hge2 : decide ((2147483648 : Int) ≤ (p : Int)) = ge := by rw [← hge]; exact decide_eq_decide.2 (by omega)
  rw [hx0, hy0, hlt, hge]; have HX := Lib.hid hX; have HY := Lib.hid hY; clear hX hY hp hq hn hm hge; clear hwp hwq; cases zx <;> cases zy <;> cases lt <;> cases ge
  all_goals
    go_enter Tryz.func63, Tryz.ntmps63
    go_wp2_with (first
    | (go_at_call 138; (with_reducible refine hc.mono ?_); rintro e w' ⟨rfl, rfl⟩)
    | (go_at_call 138; (with_reducible refine hd.mono ?_); rintro e w' ⟨rfl, rfl⟩)
    | (go_at_call 137; (with_reducible refine (value_any _ (p : Int) _).mono ?_); rintro e w' ⟨x, k, rfl, hr, rfl⟩; (obtain rfl : x = X := (HVP.out x hr).trans HX.out); clear hr)
    | (go_at_call 137; (with_reducible refine (value_any _ (q : Int) _).mono ?_); rintro e w' ⟨y, l, rfl, hr, rfl⟩; (obtain rfl : y = Y := (HVQ.out y hr).trans HY.out); clear hr)
    | (go_at_call 139; (with_reducible refine (sign32 _).mono ?_); rintro e w' ⟨rfl, rfl⟩))
    go_ret2; exact ⟨rfl, by first | exact ⟨⟨_, rfl⟩⟩ | exact ⟨⟨_, World.drewN_drewN _ _ _⟩⟩ | exact Drawn0.refl _⟩
set_option maxRecDepth 100000 in
set_option maxHeartbeats 8000000 in
theorem bin32_e6 (a b p q : Nat) (w : World) (hc : Calls Tryz.prog 138 #[.int .i64 32, .int .u64 a] w fun e w' => e = .returned (.int .u64 p) ∧ w = w') (hd : Calls Tryz.prog 138 #[.int .i64 32, .int .u64 b] w fun e w' => e = .returned (.int .u64 q) ∧ w = w') (hwp : (IntKind.u32.wrap (p : Int)).toNat = p) (hwq : (IntKind.u32.wrap (q : Int)).toNat = q) (hp : p < 4294967296) (hq : q < 4294967296) (hn : isN single p = false) (hm : isN single q = false) : Calls Tryz.prog 63 #[.int .i64 32, .int .i64 6, .int .u64 a, .int .u64 b] w fun e w' => e = .returned (.tuple #[.int .u64 (ends 6 (single.order p 0 == some .eq) (single.order q 0 == some .eq) (single.order p q == some .lt) (decide (2147483648 ≤ p)) p q : Nat), .int .i64 0]) ∧ Drawn0 w w' := by
  have HVP := Lib.hid (fun (r : Nat) (h : Val 32 (p : Int) r) => num32 p r (val_w p r hwp h) hn); have HVQ := Lib.hid (fun (r : Nat) (h : Val 32 (q : Int) r) => num32 q r (val_w q r hwq h) hm); obtain ⟨X, hX⟩ : ∃ X, wide p = X := ⟨_, rfl⟩
  obtain ⟨Y, hY⟩ : ∃ Y, wide q = Y := ⟨_, rfl⟩
  have oX : (FloatKind.f64.format.order X X != some .eq) = false := by rw [← hX, order_self64]; exact wide_isN p hn
  have oY : (FloatKind.f64.format.order Y Y != some .eq) = false := by rw [← hY, order_self64]; exact wide_isN q hm
  have fx : FloatKind.f64.format.order X 0 = single.order p 0 := by rw [← hX, same64]; have := order_wide p 0 hn nan_zero; rw [wide_zero0] at this; exact this
  have fy : FloatKind.f64.format.order Y 0 = single.order q 0 := by rw [← hY, same64]; have := order_wide q 0 hm nan_zero; rw [wide_zero0] at this; exact this
  have fl : FloatKind.f64.format.order X Y = single.order p q := by rw [← hX, ← hY, same64]; exact order_wide p q hn hm
  rw [← fx, ← fy, ← fl]; clear fx fy fl; obtain ⟨zx, hx0⟩ : ∃ z, (FloatKind.f64.format.order X 0 == some .eq) = z := ⟨_, rfl⟩
  obtain ⟨zy, hy0⟩ : ∃ z, (FloatKind.f64.format.order Y 0 == some .eq) = z := ⟨_, rfl⟩
  obtain ⟨lt, hlt⟩ : ∃ z, (FloatKind.f64.format.order X Y == some .lt) = z := ⟨_, rfl⟩
  obtain ⟨ge, hge⟩ : ∃ z, decide (2147483648 ≤ p) = z := ⟨_, rfl⟩
  have hge2 : decide ((2147483648 : Int) ≤ (p : Int)) = ge := by rw [← hge]; exact decide_eq_decide.2 (by omega)
  rw [hx0, hy0, hlt, hge]; have HX := Lib.hid hX; have HY := Lib.hid hY; clear hX hY hp hq hn hm hge; clear hwp hwq; cases zx <;> cases zy <;> cases lt <;> cases ge
  all_goals
    go_enter Tryz.func63, Tryz.ntmps63
    go_wp2_with (first
    | (go_at_call 138; (with_reducible refine hc.mono ?_); rintro e w' ⟨rfl, rfl⟩)
    | (go_at_call 138; (with_reducible refine hd.mono ?_); rintro e w' ⟨rfl, rfl⟩)
    | (go_at_call 137; (with_reducible refine (value_any _ (p : Int) _).mono ?_); rintro e w' ⟨x, k, rfl, hr, rfl⟩; (obtain rfl : x = X := (HVP.out x hr).trans HX.out); clear hr)
    | (go_at_call 137; (with_reducible refine (value_any _ (q : Int) _).mono ?_); rintro e w' ⟨y, l, rfl, hr, rfl⟩; (obtain rfl : y = Y := (HVQ.out y hr).trans HY.out); clear hr)
    | (go_at_call 139; (with_reducible refine (sign32 _).mono ?_); rintro e w' ⟨rfl, rfl⟩))
    go_ret2; exact ⟨rfl, by first | exact ⟨⟨_, rfl⟩⟩ | exact ⟨⟨_, World.drewN_drewN _ _ _⟩⟩ | exact Drawn0.refl _⟩
set_option maxRecDepth 100000 in
set_option maxHeartbeats 8000000 in
theorem bin64_e5 (p q : Nat) (w : World) (hp : p < 18446744073709551616) (hq : q < 18446744073709551616) (hn : isN double p = false) (hm : isN double q = false) : Calls Tryz.prog 63 #[.int .i64 64, .int .i64 5, .int .u64 p, .int .u64 q] w fun e w' => e = .returned (.tuple #[.int .u64 (ends 5 (double.order p 0 == some .eq) (double.order q 0 == some .eq) (double.order p q == some .lt) (decide (9223372036854775808 ≤ p)) p q : Nat), .int .i64 0]) ∧ Drawn0 w w' := by
  have HVP := Lib.hid (fun (r : Nat) (h : Val 64 (p : Int) r) => val_64 p r h); have HVQ := Lib.hid (fun (r : Nat) (h : Val 64 (q : Int) r) => val_64 q r h); obtain ⟨X, hX⟩ : ∃ X, p = X := ⟨_, rfl⟩
  obtain ⟨Y, hY⟩ : ∃ Y, q = Y := ⟨_, rfl⟩
  have oX : (FloatKind.f64.format.order X X != some .eq) = false := by rw [← hX, order_self64]; exact hn
  have oY : (FloatKind.f64.format.order Y Y != some .eq) = false := by rw [← hY, order_self64]; exact hm
  have fx : FloatKind.f64.format.order X 0 = double.order p 0 := by rw [← hX, same64]
  have fy : FloatKind.f64.format.order Y 0 = double.order q 0 := by rw [← hY, same64]
  have fl : FloatKind.f64.format.order X Y = double.order p q := by rw [← hX, ← hY, same64]
  rw [← fx, ← fy, ← fl]; clear fx fy fl; obtain ⟨zx, hx0⟩ : ∃ z, (FloatKind.f64.format.order X 0 == some .eq) = z := ⟨_, rfl⟩
  obtain ⟨zy, hy0⟩ : ∃ z, (FloatKind.f64.format.order Y 0 == some .eq) = z := ⟨_, rfl⟩
  obtain ⟨lt, hlt⟩ : ∃ z, (FloatKind.f64.format.order X Y == some .lt) = z := ⟨_, rfl⟩
  obtain ⟨ge, hge⟩ : ∃ z, decide (9223372036854775808 ≤ p) = z := ⟨_, rfl⟩
  have hge2 : decide ((9223372036854775808 : Int) ≤ (p : Int)) = ge := by rw [← hge]; exact decide_eq_decide.2 (by omega)
  rw [hx0, hy0, hlt, hge]; have HX := Lib.hid hX; have HY := Lib.hid hY; clear hX hY hp hq hn hm hge; skip
  cases zx <;> cases zy <;> cases lt <;> cases ge
  all_goals
    go_enter Tryz.func63, Tryz.ntmps63
    go_wp2_with (first
    | (go_at_call 138; (with_reducible refine (cut64 _ _).mono ?_); rintro e w' ⟨rfl, rfl⟩)
    | (go_at_call 137; (with_reducible refine (value_any _ (p : Int) _).mono ?_); rintro e w' ⟨x, k, rfl, hr, rfl⟩; (obtain rfl : x = X := (HVP.out x hr).trans HX.out); clear hr)
    | (go_at_call 137; (with_reducible refine (value_any _ (q : Int) _).mono ?_); rintro e w' ⟨y, l, rfl, hr, rfl⟩; (obtain rfl : y = Y := (HVQ.out y hr).trans HY.out); clear hr)
    | (go_at_call 139; (with_reducible refine (sign64 _).mono ?_); rintro e w' ⟨rfl, rfl⟩))
    go_ret2; exact ⟨rfl, by first | exact ⟨⟨_, rfl⟩⟩ | exact ⟨⟨_, World.drewN_drewN _ _ _⟩⟩ | exact Drawn0.refl _⟩
set_option maxRecDepth 100000 in
set_option maxHeartbeats 8000000 in
theorem bin64_e6 (p q : Nat) (w : World) (hp : p < 18446744073709551616) (hq : q < 18446744073709551616) (hn : isN double p = false) (hm : isN double q = false) : Calls Tryz.prog 63 #[.int .i64 64, .int .i64 6, .int .u64 p, .int .u64 q] w fun e w' => e = .returned (.tuple #[.int .u64 (ends 6 (double.order p 0 == some .eq) (double.order q 0 == some .eq) (double.order p q == some .lt) (decide (9223372036854775808 ≤ p)) p q : Nat), .int .i64 0]) ∧ Drawn0 w w' := by
  have HVP := Lib.hid (fun (r : Nat) (h : Val 64 (p : Int) r) => val_64 p r h); have HVQ := Lib.hid (fun (r : Nat) (h : Val 64 (q : Int) r) => val_64 q r h); obtain ⟨X, hX⟩ : ∃ X, p = X := ⟨_, rfl⟩
  obtain ⟨Y, hY⟩ : ∃ Y, q = Y := ⟨_, rfl⟩
  have oX : (FloatKind.f64.format.order X X != some .eq) = false := by rw [← hX, order_self64]; exact hn
  have oY : (FloatKind.f64.format.order Y Y != some .eq) = false := by rw [← hY, order_self64]; exact hm
  have fx : FloatKind.f64.format.order X 0 = double.order p 0 := by rw [← hX, same64]
  have fy : FloatKind.f64.format.order Y 0 = double.order q 0 := by rw [← hY, same64]
  have fl : FloatKind.f64.format.order X Y = double.order p q := by rw [← hX, ← hY, same64]
  rw [← fx, ← fy, ← fl]; clear fx fy fl; obtain ⟨zx, hx0⟩ : ∃ z, (FloatKind.f64.format.order X 0 == some .eq) = z := ⟨_, rfl⟩
  obtain ⟨zy, hy0⟩ : ∃ z, (FloatKind.f64.format.order Y 0 == some .eq) = z := ⟨_, rfl⟩
  obtain ⟨lt, hlt⟩ : ∃ z, (FloatKind.f64.format.order X Y == some .lt) = z := ⟨_, rfl⟩
  obtain ⟨ge, hge⟩ : ∃ z, decide (9223372036854775808 ≤ p) = z := ⟨_, rfl⟩
  have hge2 : decide ((9223372036854775808 : Int) ≤ (p : Int)) = ge := by rw [← hge]; exact decide_eq_decide.2 (by omega)
  rw [hx0, hy0, hlt, hge]; have HX := Lib.hid hX; have HY := Lib.hid hY; clear hX hY hp hq hn hm hge; skip
  cases zx <;> cases zy <;> cases lt <;> cases ge
  all_goals
    go_enter Tryz.func63, Tryz.ntmps63
    go_wp2_with (first
    | (go_at_call 138; (with_reducible refine (cut64 _ _).mono ?_); rintro e w' ⟨rfl, rfl⟩)
    | (go_at_call 137; (with_reducible refine (value_any _ (p : Int) _).mono ?_); rintro e w' ⟨x, k, rfl, hr, rfl⟩; (obtain rfl : x = X := (HVP.out x hr).trans HX.out); clear hr)
    | (go_at_call 137; (with_reducible refine (value_any _ (q : Int) _).mono ?_); rintro e w' ⟨y, l, rfl, hr, rfl⟩; (obtain rfl : y = Y := (HVQ.out y hr).trans HY.out); clear hr)
    | (go_at_call 139; (with_reducible refine (sign64 _).mono ?_); rintro e w' ⟨rfl, rfl⟩))
    go_ret2; exact ⟨rfl, by first | exact ⟨⟨_, rfl⟩⟩ | exact ⟨⟨_, World.drewN_drewN _ _ _⟩⟩ | exact Drawn0.refl _⟩
end Go.Proofs.YtkhhhceeoljheaaGreatDoor
set_option linter.unusedVariables false
namespace Go.Proofs.YtkhhhceeoljheaaGreatDoor
open Go.RowKit Go.Proofs.YtkhhhceeoljheaaGreatDoor.Fl Ieee Go.Proofs.YtkhhhceeoljheaaGreatDoorW.PrintWords
set_option maxRecDepth 100000 in
set_option maxHeartbeats 8000000 in
theorem bin32_a1 (a b p q : Nat) (w : World) (hc : Calls Tryz.prog 138 #[.int .i64 32, .int .u64 a] w fun e w' => e = .returned (.int .u64 p) ∧ w = w') (hd : Calls Tryz.prog 138 #[.int .i64 32, .int .u64 b] w fun e w' => e = .returned (.int .u64 q) ∧ w = w') (hwp : (IntKind.u32.wrap (p : Int)).toNat = p) (hwq : (IntKind.u32.wrap (q : Int)).toNat = q) (hp : p < 4294967296) (hq : q < 4294967296) (hn : isN single p = false) (hm : isN single q = false) : Calls Tryz.prog 63 #[.int .i64 32, .int .i64 1, .int .u64 a, .int .u64 b] w fun e w' => e = .returned (.tuple #[.int .u64 (orN 2143289344 bt32 (floatBits .add .f32 p q) : Nat), .int .i64 0]) ∧ Drawn0 w w' := by
  have HVP := Lib.hid (fun (r : Nat) (h : Val 32 (p : Int) r) => num32 p r (val_w p r hwp h) hn); have HVQ := Lib.hid (fun (r : Nat) (h : Val 32 (q : Int) r) => num32 q r (val_w q r hwq h) hm); obtain ⟨X, hX⟩ : ∃ X, wide p = X := ⟨_, rfl⟩
  obtain ⟨Y, hY⟩ : ∃ Y, wide q = Y := ⟨_, rfl⟩
  have oX : (FloatKind.f64.format.order X X != some .eq) = false := by rw [← hX, order_self64]; exact wide_isN p hn
  have oY : (FloatKind.f64.format.order Y Y != some .eq) = false := by rw [← hY, order_self64]; exact wide_isN q hm
  have hF := F32_nat; have har := run_ar .add (by simp); have HX := Lib.hid hX; have HY := Lib.hid hY; have HPL := Lib.hid hp; have HQL := Lib.hid hq; clear hX hY hp hq hn hm hwp hwq hF; go_enter Tryz.func63, Tryz.ntmps63
  go_wp2_with (first
    | (go_at_call 138; (with_reducible refine hc.mono ?_); rintro e w' ⟨rfl, rfl⟩)
    | (go_at_call 138; (with_reducible refine hd.mono ?_); rintro e w' ⟨rfl, rfl⟩)
    | (go_at_call 137; (with_reducible refine (value_any _ (p : Int) _).mono ?_); rintro e w' ⟨x, k, rfl, hr, rfl⟩; (obtain rfl : x = X := (HVP.out x hr).trans HX.out); clear hr)
    | (go_at_call 137; (with_reducible refine (value_any _ (q : Int) _).mono ?_); rintro e w' ⟨y, l, rfl, hr, rfl⟩; (obtain rfl : y = Y := (HVQ.out y hr).trans HY.out); clear hr)
    | (go_at_call 149; (with_reducible refine (F32_nat p _ HPL.out).mono ?_); rintro e w' ⟨rfl, rfl⟩)
    | (go_at_call 149; (with_reducible refine (F32_nat q _ HQL.out).mono ?_); rintro e w' ⟨rfl, rfl⟩)
    | (go_at_call 145; (with_reducible refine (B32_any _ _ (arR_lt _ _ _ _ _)).mono ?_); rintro e w' ⟨rfl, rfl⟩)
    | (go_at_call 139; (with_reducible refine (sign32 _).mono ?_); rintro e w' ⟨rfl, rfl⟩))
  go_ret2; exact ⟨ret_u (congrArg Nat.cast (ari_bt32 _ _ (arR_is _ _ _ _ _))), by first | exact ⟨⟨_, rfl⟩⟩ | exact ⟨⟨_, World.drewN_drewN _ _ _⟩⟩ | exact Drawn0.refl _⟩
set_option maxRecDepth 100000 in
set_option maxHeartbeats 8000000 in
theorem bin32_a2 (a b p q : Nat) (w : World) (hc : Calls Tryz.prog 138 #[.int .i64 32, .int .u64 a] w fun e w' => e = .returned (.int .u64 p) ∧ w = w') (hd : Calls Tryz.prog 138 #[.int .i64 32, .int .u64 b] w fun e w' => e = .returned (.int .u64 q) ∧ w = w') (hwp : (IntKind.u32.wrap (p : Int)).toNat = p) (hwq : (IntKind.u32.wrap (q : Int)).toNat = q) (hp : p < 4294967296) (hq : q < 4294967296) (hn : isN single p = false) (hm : isN single q = false) : Calls Tryz.prog 63 #[.int .i64 32, .int .i64 2, .int .u64 a, .int .u64 b] w fun e w' => e = .returned (.tuple #[.int .u64 (orN 2143289344 bt32 (floatBits .sub .f32 p q) : Nat), .int .i64 0]) ∧ Drawn0 w w' := by
  have HVP := Lib.hid (fun (r : Nat) (h : Val 32 (p : Int) r) => num32 p r (val_w p r hwp h) hn); have HVQ := Lib.hid (fun (r : Nat) (h : Val 32 (q : Int) r) => num32 q r (val_w q r hwq h) hm); obtain ⟨X, hX⟩ : ∃ X, wide p = X := ⟨_, rfl⟩
  obtain ⟨Y, hY⟩ : ∃ Y, wide q = Y := ⟨_, rfl⟩
  have oX : (FloatKind.f64.format.order X X != some .eq) = false := by rw [← hX, order_self64]; exact wide_isN p hn
  have oY : (FloatKind.f64.format.order Y Y != some .eq) = false := by rw [← hY, order_self64]; exact wide_isN q hm
  have hF := F32_nat; have har := run_ar .sub (by simp); have HX := Lib.hid hX; have HY := Lib.hid hY; have HPL := Lib.hid hp; have HQL := Lib.hid hq; clear hX hY hp hq hn hm hwp hwq hF; go_enter Tryz.func63, Tryz.ntmps63
  go_wp2_with (first
    | (go_at_call 138; (with_reducible refine hc.mono ?_); rintro e w' ⟨rfl, rfl⟩)
    | (go_at_call 138; (with_reducible refine hd.mono ?_); rintro e w' ⟨rfl, rfl⟩)
    | (go_at_call 137; (with_reducible refine (value_any _ (p : Int) _).mono ?_); rintro e w' ⟨x, k, rfl, hr, rfl⟩; (obtain rfl : x = X := (HVP.out x hr).trans HX.out); clear hr)
    | (go_at_call 137; (with_reducible refine (value_any _ (q : Int) _).mono ?_); rintro e w' ⟨y, l, rfl, hr, rfl⟩; (obtain rfl : y = Y := (HVQ.out y hr).trans HY.out); clear hr)
    | (go_at_call 149; (with_reducible refine (F32_nat p _ HPL.out).mono ?_); rintro e w' ⟨rfl, rfl⟩)
    | (go_at_call 149; (with_reducible refine (F32_nat q _ HQL.out).mono ?_); rintro e w' ⟨rfl, rfl⟩)
    | (go_at_call 145; (with_reducible refine (B32_any _ _ (arR_lt _ _ _ _ _)).mono ?_); rintro e w' ⟨rfl, rfl⟩)
    | (go_at_call 139; (with_reducible refine (sign32 _).mono ?_); rintro e w' ⟨rfl, rfl⟩))
  go_ret2; exact ⟨ret_u (congrArg Nat.cast (ari_bt32 _ _ (arR_is _ _ _ _ _))), by first | exact ⟨⟨_, rfl⟩⟩ | exact ⟨⟨_, World.drewN_drewN _ _ _⟩⟩ | exact Drawn0.refl _⟩
set_option maxRecDepth 100000 in
set_option maxHeartbeats 8000000 in
theorem bin32_a3 (a b p q : Nat) (w : World) (hc : Calls Tryz.prog 138 #[.int .i64 32, .int .u64 a] w fun e w' => e = .returned (.int .u64 p) ∧ w = w') (hd : Calls Tryz.prog 138 #[.int .i64 32, .int .u64 b] w fun e w' => e = .returned (.int .u64 q) ∧ w = w') (hwp : (IntKind.u32.wrap (p : Int)).toNat = p) (hwq : (IntKind.u32.wrap (q : Int)).toNat = q) (hp : p < 4294967296) (hq : q < 4294967296) (hn : isN single p = false) (hm : isN single q = false) : Calls Tryz.prog 63 #[.int .i64 32, .int .i64 3, .int .u64 a, .int .u64 b] w fun e w' => e = .returned (.tuple #[.int .u64 (orN 2143289344 bt32 (floatBits .mul .f32 p q) : Nat), .int .i64 0]) ∧ Drawn0 w w' := by
  have HVP := Lib.hid (fun (r : Nat) (h : Val 32 (p : Int) r) => num32 p r (val_w p r hwp h) hn); have HVQ := Lib.hid (fun (r : Nat) (h : Val 32 (q : Int) r) => num32 q r (val_w q r hwq h) hm); obtain ⟨X, hX⟩ : ∃ X, wide p = X := ⟨_, rfl⟩
  obtain ⟨Y, hY⟩ : ∃ Y, wide q = Y := ⟨_, rfl⟩
  have oX : (FloatKind.f64.format.order X X != some .eq) = false := by rw [← hX, order_self64]; exact wide_isN p hn
  have oY : (FloatKind.f64.format.order Y Y != some .eq) = false := by rw [← hY, order_self64]; exact wide_isN q hm
  have hF := F32_nat; have har := run_ar .mul (by simp); have HX := Lib.hid hX; have HY := Lib.hid hY; have HPL := Lib.hid hp; have HQL := Lib.hid hq; clear hX hY hp hq hn hm hwp hwq hF; go_enter Tryz.func63, Tryz.ntmps63
  go_wp2_with (first
    | (go_at_call 138; (with_reducible refine hc.mono ?_); rintro e w' ⟨rfl, rfl⟩)
    | (go_at_call 138; (with_reducible refine hd.mono ?_); rintro e w' ⟨rfl, rfl⟩)
    | (go_at_call 137; (with_reducible refine (value_any _ (p : Int) _).mono ?_); rintro e w' ⟨x, k, rfl, hr, rfl⟩; (obtain rfl : x = X := (HVP.out x hr).trans HX.out); clear hr)
    | (go_at_call 137; (with_reducible refine (value_any _ (q : Int) _).mono ?_); rintro e w' ⟨y, l, rfl, hr, rfl⟩; (obtain rfl : y = Y := (HVQ.out y hr).trans HY.out); clear hr)
    | (go_at_call 149; (with_reducible refine (F32_nat p _ HPL.out).mono ?_); rintro e w' ⟨rfl, rfl⟩)
    | (go_at_call 149; (with_reducible refine (F32_nat q _ HQL.out).mono ?_); rintro e w' ⟨rfl, rfl⟩)
    | (go_at_call 145; (with_reducible refine (B32_any _ _ (arR_lt _ _ _ _ _)).mono ?_); rintro e w' ⟨rfl, rfl⟩)
    | (go_at_call 139; (with_reducible refine (sign32 _).mono ?_); rintro e w' ⟨rfl, rfl⟩))
  go_ret2; exact ⟨ret_u (congrArg Nat.cast (ari_bt32 _ _ (arR_is _ _ _ _ _))), by first | exact ⟨⟨_, rfl⟩⟩ | exact ⟨⟨_, World.drewN_drewN _ _ _⟩⟩ | exact Drawn0.refl _⟩
set_option maxRecDepth 100000 in
set_option maxHeartbeats 8000000 in
theorem bin32_a4 (a b p q : Nat) (w : World) (hc : Calls Tryz.prog 138 #[.int .i64 32, .int .u64 a] w fun e w' => e = .returned (.int .u64 p) ∧ w = w') (hd : Calls Tryz.prog 138 #[.int .i64 32, .int .u64 b] w fun e w' => e = .returned (.int .u64 q) ∧ w = w') (hwp : (IntKind.u32.wrap (p : Int)).toNat = p) (hwq : (IntKind.u32.wrap (q : Int)).toNat = q) (hp : p < 4294967296) (hq : q < 4294967296) (hn : isN single p = false) (hm : isN single q = false) : Calls Tryz.prog 63 #[.int .i64 32, .int .i64 4, .int .u64 a, .int .u64 b] w fun e w' => e = .returned (.tuple #[.int .u64 (orN 2143289344 bt32 (floatBits .quo .f32 p q) : Nat), .int .i64 0]) ∧ Drawn0 w w' := by
  have HVP := Lib.hid (fun (r : Nat) (h : Val 32 (p : Int) r) => num32 p r (val_w p r hwp h) hn); have HVQ := Lib.hid (fun (r : Nat) (h : Val 32 (q : Int) r) => num32 q r (val_w q r hwq h) hm); obtain ⟨X, hX⟩ : ∃ X, wide p = X := ⟨_, rfl⟩
  obtain ⟨Y, hY⟩ : ∃ Y, wide q = Y := ⟨_, rfl⟩
  have oX : (FloatKind.f64.format.order X X != some .eq) = false := by rw [← hX, order_self64]; exact wide_isN p hn
  have oY : (FloatKind.f64.format.order Y Y != some .eq) = false := by rw [← hY, order_self64]; exact wide_isN q hm
  have hF := F32_nat; have har := run_ar .quo (by simp); have HX := Lib.hid hX; have HY := Lib.hid hY; have HPL := Lib.hid hp; have HQL := Lib.hid hq; clear hX hY hp hq hn hm hwp hwq hF; go_enter Tryz.func63, Tryz.ntmps63
  go_wp2_with (first
    | (go_at_call 138; (with_reducible refine hc.mono ?_); rintro e w' ⟨rfl, rfl⟩)
    | (go_at_call 138; (with_reducible refine hd.mono ?_); rintro e w' ⟨rfl, rfl⟩)
    | (go_at_call 137; (with_reducible refine (value_any _ (p : Int) _).mono ?_); rintro e w' ⟨x, k, rfl, hr, rfl⟩; (obtain rfl : x = X := (HVP.out x hr).trans HX.out); clear hr)
    | (go_at_call 137; (with_reducible refine (value_any _ (q : Int) _).mono ?_); rintro e w' ⟨y, l, rfl, hr, rfl⟩; (obtain rfl : y = Y := (HVQ.out y hr).trans HY.out); clear hr)
    | (go_at_call 149; (with_reducible refine (F32_nat p _ HPL.out).mono ?_); rintro e w' ⟨rfl, rfl⟩)
    | (go_at_call 149; (with_reducible refine (F32_nat q _ HQL.out).mono ?_); rintro e w' ⟨rfl, rfl⟩)
    | (go_at_call 145; (with_reducible refine (B32_any _ _ (arR_lt _ _ _ _ _)).mono ?_); rintro e w' ⟨rfl, rfl⟩)
    | (go_at_call 139; (with_reducible refine (sign32 _).mono ?_); rintro e w' ⟨rfl, rfl⟩))
  go_ret2; exact ⟨ret_u (congrArg Nat.cast (ari_bt32 _ _ (arR_is _ _ _ _ _))), by first | exact ⟨⟨_, rfl⟩⟩ | exact ⟨⟨_, World.drewN_drewN _ _ _⟩⟩ | exact Drawn0.refl _⟩
set_option maxRecDepth 100000 in
set_option maxHeartbeats 8000000 in
theorem bin64_a1 (p q : Nat) (w : World) (hp : p < 18446744073709551616) (hq : q < 18446744073709551616) (hn : isN double p = false) (hm : isN double q = false) : Calls Tryz.prog 63 #[.int .i64 64, .int .i64 1, .int .u64 p, .int .u64 q] w fun e w' => e = .returned (.tuple #[.int .u64 (orN 9221120237041090560 bt64 (floatBits .add .f64 p q) : Nat), .int .i64 0]) ∧ Drawn0 w w' := by
  have HVP := Lib.hid (fun (r : Nat) (h : Val 64 (p : Int) r) => val_64 p r h); have HVQ := Lib.hid (fun (r : Nat) (h : Val 64 (q : Int) r) => val_64 q r h); obtain ⟨X, hX⟩ : ∃ X, p = X := ⟨_, rfl⟩
  obtain ⟨Y, hY⟩ : ∃ Y, q = Y := ⟨_, rfl⟩
  have oX : (FloatKind.f64.format.order X X != some .eq) = false := by rw [← hX, order_self64]; exact hn
  have oY : (FloatKind.f64.format.order Y Y != some .eq) = false := by rw [← hY, order_self64]; exact hm
  have HX := Lib.hid hX; have HY := Lib.hid hY; clear hX hY hp hq hn hm; go_enter Tryz.func63, Tryz.ntmps63
  go_wp2_with (first
    | (go_at_call 138; (with_reducible refine (cut64 _ _).mono ?_); rintro e w' ⟨rfl, rfl⟩)
    | (go_at_call 137; (with_reducible refine (value_any _ (p : Int) _).mono ?_); rintro e w' ⟨x, k, rfl, hr, rfl⟩; (obtain rfl : x = X := (HVP.out x hr).trans HX.out); clear hr)
    | (go_at_call 137; (with_reducible refine (value_any _ (q : Int) _).mono ?_); rintro e w' ⟨y, l, rfl, hr, rfl⟩; (obtain rfl : y = Y := (HVQ.out y hr).trans HY.out); clear hr)
    | (go_at_call 148; (with_reducible refine (worked_1 _ _ _).mono ?_); rintro e w' ⟨r, i, rfl, hr, rfl⟩; have HR := Lib.hid hr; clear hr)
    | (go_at_call 146; (with_reducible refine (B64_any _ _).mono ?_); rintro e w' ⟨rfl, rfl⟩)
    | (go_at_call 139; (with_reducible refine (sign64 _).mono ?_); rintro e w' ⟨rfl, rfl⟩))
  go_ret2; have h1 := HR.out; have e1 := HX.out; have e2 := HY.out; subst e1 e2; exact ⟨ret_u (congrArg Nat.cast (ari_bt64 _ _ h1)), by first | exact ⟨⟨_, rfl⟩⟩ | exact ⟨⟨_, World.drewN_drewN _ _ _⟩⟩ | exact Drawn0.refl _⟩
set_option maxRecDepth 100000 in
set_option maxHeartbeats 8000000 in
theorem bin64_a2 (p q : Nat) (w : World) (hp : p < 18446744073709551616) (hq : q < 18446744073709551616) (hn : isN double p = false) (hm : isN double q = false) : Calls Tryz.prog 63 #[.int .i64 64, .int .i64 2, .int .u64 p, .int .u64 q] w fun e w' => e = .returned (.tuple #[.int .u64 (orN 9221120237041090560 bt64 (floatBits .sub .f64 p q) : Nat), .int .i64 0]) ∧ Drawn0 w w' := by
  have HVP := Lib.hid (fun (r : Nat) (h : Val 64 (p : Int) r) => val_64 p r h); have HVQ := Lib.hid (fun (r : Nat) (h : Val 64 (q : Int) r) => val_64 q r h); obtain ⟨X, hX⟩ : ∃ X, p = X := ⟨_, rfl⟩
  obtain ⟨Y, hY⟩ : ∃ Y, q = Y := ⟨_, rfl⟩
  have oX : (FloatKind.f64.format.order X X != some .eq) = false := by rw [← hX, order_self64]; exact hn
  have oY : (FloatKind.f64.format.order Y Y != some .eq) = false := by rw [← hY, order_self64]; exact hm
  have HX := Lib.hid hX; have HY := Lib.hid hY; clear hX hY hp hq hn hm; go_enter Tryz.func63, Tryz.ntmps63
  go_wp2_with (first
    | (go_at_call 138; (with_reducible refine (cut64 _ _).mono ?_); rintro e w' ⟨rfl, rfl⟩)
    | (go_at_call 137; (with_reducible refine (value_any _ (p : Int) _).mono ?_); rintro e w' ⟨x, k, rfl, hr, rfl⟩; (obtain rfl : x = X := (HVP.out x hr).trans HX.out); clear hr)
    | (go_at_call 137; (with_reducible refine (value_any _ (q : Int) _).mono ?_); rintro e w' ⟨y, l, rfl, hr, rfl⟩; (obtain rfl : y = Y := (HVQ.out y hr).trans HY.out); clear hr)
    | (go_at_call 148; (with_reducible refine (worked_2 _ _ _).mono ?_); rintro e w' ⟨r, i, rfl, hr, rfl⟩; have HR := Lib.hid hr; clear hr)
    | (go_at_call 146; (with_reducible refine (B64_any _ _).mono ?_); rintro e w' ⟨rfl, rfl⟩)
    | (go_at_call 139; (with_reducible refine (sign64 _).mono ?_); rintro e w' ⟨rfl, rfl⟩))
  go_ret2; have h1 := HR.out; have e1 := HX.out; have e2 := HY.out; subst e1 e2; exact ⟨ret_u (congrArg Nat.cast (ari_bt64 _ _ h1)), by first | exact ⟨⟨_, rfl⟩⟩ | exact ⟨⟨_, World.drewN_drewN _ _ _⟩⟩ | exact Drawn0.refl _⟩
set_option maxRecDepth 100000 in
set_option maxHeartbeats 8000000 in
theorem bin64_a3 (p q : Nat) (w : World) (hp : p < 18446744073709551616) (hq : q < 18446744073709551616) (hn : isN double p = false) (hm : isN double q = false) : Calls Tryz.prog 63 #[.int .i64 64, .int .i64 3, .int .u64 p, .int .u64 q] w fun e w' => e = .returned (.tuple #[.int .u64 (orN 9221120237041090560 bt64 (floatBits .mul .f64 p q) : Nat), .int .i64 0]) ∧ Drawn0 w w' := by
  have HVP := Lib.hid (fun (r : Nat) (h : Val 64 (p : Int) r) => val_64 p r h); have HVQ := Lib.hid (fun (r : Nat) (h : Val 64 (q : Int) r) => val_64 q r h); obtain ⟨X, hX⟩ : ∃ X, p = X := ⟨_, rfl⟩
  obtain ⟨Y, hY⟩ : ∃ Y, q = Y := ⟨_, rfl⟩
  have oX : (FloatKind.f64.format.order X X != some .eq) = false := by rw [← hX, order_self64]; exact hn
  have oY : (FloatKind.f64.format.order Y Y != some .eq) = false := by rw [← hY, order_self64]; exact hm
  have HX := Lib.hid hX; have HY := Lib.hid hY; clear hX hY hp hq hn hm; go_enter Tryz.func63, Tryz.ntmps63
  go_wp2_with (first
    | (go_at_call 138; (with_reducible refine (cut64 _ _).mono ?_); rintro e w' ⟨rfl, rfl⟩)
    | (go_at_call 137; (with_reducible refine (value_any _ (p : Int) _).mono ?_); rintro e w' ⟨x, k, rfl, hr, rfl⟩; (obtain rfl : x = X := (HVP.out x hr).trans HX.out); clear hr)
    | (go_at_call 137; (with_reducible refine (value_any _ (q : Int) _).mono ?_); rintro e w' ⟨y, l, rfl, hr, rfl⟩; (obtain rfl : y = Y := (HVQ.out y hr).trans HY.out); clear hr)
    | (go_at_call 148; (with_reducible refine (worked_3 _ _ _).mono ?_); rintro e w' ⟨r, i, rfl, hr, rfl⟩; have HR := Lib.hid hr; clear hr)
    | (go_at_call 146; (with_reducible refine (B64_any _ _).mono ?_); rintro e w' ⟨rfl, rfl⟩)
    | (go_at_call 139; (with_reducible refine (sign64 _).mono ?_); rintro e w' ⟨rfl, rfl⟩))
  go_ret2; have h1 := HR.out; have e1 := HX.out; have e2 := HY.out; subst e1 e2; exact ⟨ret_u (congrArg Nat.cast (ari_bt64 _ _ h1)), by first | exact ⟨⟨_, rfl⟩⟩ | exact ⟨⟨_, World.drewN_drewN _ _ _⟩⟩ | exact Drawn0.refl _⟩
set_option maxRecDepth 100000 in
set_option maxHeartbeats 8000000 in
theorem bin64_a4 (p q : Nat) (w : World) (hp : p < 18446744073709551616) (hq : q < 18446744073709551616) (hn : isN double p = false) (hm : isN double q = false) : Calls Tryz.prog 63 #[.int .i64 64, .int .i64 4, .int .u64 p, .int .u64 q] w fun e w' => e = .returned (.tuple #[.int .u64 (orN 9221120237041090560 bt64 (floatBits .quo .f64 p q) : Nat), .int .i64 0]) ∧ Drawn0 w w' := by
  have HVP := Lib.hid (fun (r : Nat) (h : Val 64 (p : Int) r) => val_64 p r h); have HVQ := Lib.hid (fun (r : Nat) (h : Val 64 (q : Int) r) => val_64 q r h); obtain ⟨X, hX⟩ : ∃ X, p = X := ⟨_, rfl⟩
  obtain ⟨Y, hY⟩ : ∃ Y, q = Y := ⟨_, rfl⟩
  have oX : (FloatKind.f64.format.order X X != some .eq) = false := by rw [← hX, order_self64]; exact hn
  have oY : (FloatKind.f64.format.order Y Y != some .eq) = false := by rw [← hY, order_self64]; exact hm
  have HX := Lib.hid hX; have HY := Lib.hid hY; clear hX hY hp hq hn hm; go_enter Tryz.func63, Tryz.ntmps63
  go_wp2_with (first
    | (go_at_call 138; (with_reducible refine (cut64 _ _).mono ?_); rintro e w' ⟨rfl, rfl⟩)
    | (go_at_call 137; (with_reducible refine (value_any _ (p : Int) _).mono ?_); rintro e w' ⟨x, k, rfl, hr, rfl⟩; (obtain rfl : x = X := (HVP.out x hr).trans HX.out); clear hr)
    | (go_at_call 137; (with_reducible refine (value_any _ (q : Int) _).mono ?_); rintro e w' ⟨y, l, rfl, hr, rfl⟩; (obtain rfl : y = Y := (HVQ.out y hr).trans HY.out); clear hr)
    | (go_at_call 148; (with_reducible refine (worked_4 _ _ _).mono ?_); rintro e w' ⟨r, i, rfl, hr, rfl⟩; have HR := Lib.hid hr; clear hr)
    | (go_at_call 146; (with_reducible refine (B64_any _ _).mono ?_); rintro e w' ⟨rfl, rfl⟩)
    | (go_at_call 139; (with_reducible refine (sign64 _).mono ?_); rintro e w' ⟨rfl, rfl⟩))
  go_ret2; have h1 := HR.out; have e1 := HX.out; have e2 := HY.out; subst e1 e2; exact ⟨ret_u (congrArg Nat.cast (ari_bt64 _ _ h1)), by first | exact ⟨⟨_, rfl⟩⟩ | exact ⟨⟨_, World.drewN_drewN _ _ _⟩⟩ | exact Drawn0.refl _⟩
theorem bin32_any (op : Int) (a b : Nat) (w : World) (ho : 1 ≤ op ∧ op ≤ 7) (ha : a < 18446744073709551616) (hb : b < 18446744073709551616) : Calls Tryz.prog 63 #[.int .i64 32, .int .i64 op, .int .u64 a, .int .u64 b] w fun e w' => e = .returned (.tuple #[.int .u64 (bin32 op (a % 4294967296) (b % 4294967296) : Nat), .int .i64 0]) ∧ Drawn0 w w' := by
  by_cases c7 : op = 7
  · subst c7; exact bin32_7 a b w ha hb
  have hc := cut32 a w ha; have hd := cut32 b w hb; have hwp := wrap32 a; have hwq := wrap32 b; have hp : a % 4294967296 < 4294967296 := Nat.mod_lt _ (by omega); have hq : b % 4294967296 < 4294967296 := Nat.mod_lt _ (by omega); unfold bin32; rw [if_neg c7]; by_cases hn : isN single (a % 4294967296) = true ∨ isN single (a % 4294967296) = false ∧ isN single (b % 4294967296) = true
  · have : (isN single (a % 4294967296) || isN single (b % 4294967296)) = true := by rcases hn with h | ⟨h, h2⟩ <;> simp [*]
    rw [if_pos this]; have : op = 1 ∨ op = 2 ∨ op = 3 ∨ op = 4 ∨ op = 5 ∨ op = 6 := by omega
    rcases this with rfl | rfl | rfl | rfl | rfl | rfl
    · exact bin32_nan_1 a b w ha hb hn
    · exact bin32_nan_2 a b w ha hb hn
    · exact bin32_nan_3 a b w ha hb hn
    · exact bin32_nan_4 a b w ha hb hn
    · exact bin32_nan_5 a b w ha hb hn
    · exact bin32_nan_6 a b w ha hb hn
  · have n1 : isN single (a % 4294967296) = false := by cases h : isN single (a % 4294967296) <;> simp_all
    have n2 : isN single (b % 4294967296) = false := by cases h : isN single (b % 4294967296) <;> simp_all
    rw [if_neg (by rw [n1, n2]; decide)]; have : op = 1 ∨ op = 2 ∨ op = 3 ∨ op = 4 ∨ op = 5 ∨ op = 6 := by omega
    rcases this with rfl | rfl | rfl | rfl | rfl | rfl
    · exact bin32_a1 a b _ _ w hc hd hwp hwq hp hq n1 n2
    · exact bin32_a2 a b _ _ w hc hd hwp hwq hp hq n1 n2
    · exact bin32_a3 a b _ _ w hc hd hwp hwq hp hq n1 n2
    · exact bin32_a4 a b _ _ w hc hd hwp hwq hp hq n1 n2
    · exact bin32_e5 a b _ _ w hc hd hwp hwq hp hq n1 n2
    · exact bin32_e6 a b _ _ w hc hd hwp hwq hp hq n1 n2
theorem bin64_any (op : Int) (p q : Nat) (w : World) (ho : 1 ≤ op ∧ op ≤ 7) (hp : p < 18446744073709551616) (hq : q < 18446744073709551616) : Calls Tryz.prog 63 #[.int .i64 64, .int .i64 op, .int .u64 p, .int .u64 q] w fun e w' => e = .returned (.tuple #[.int .u64 (bin64 op p q : Nat), .int .i64 0]) ∧ Drawn0 w w' := by
  by_cases c7 : op = 7
  · subst c7; exact bin64_7 p q w hp hq
  unfold bin64; rw [if_neg c7]; by_cases hn : isN double p = true ∨ isN double p = false ∧ isN double q = true
  · have : (isN double p || isN double q) = true := by rcases hn with h | ⟨h, h2⟩ <;> simp [*]
    rw [if_pos this]; have : op = 1 ∨ op = 2 ∨ op = 3 ∨ op = 4 ∨ op = 5 ∨ op = 6 := by omega
    rcases this with rfl | rfl | rfl | rfl | rfl | rfl
    · exact bin64_nan_1 p q w hp hq hn
    · exact bin64_nan_2 p q w hp hq hn
    · exact bin64_nan_3 p q w hp hq hn
    · exact bin64_nan_4 p q w hp hq hn
    · exact bin64_nan_5 p q w hp hq hn
    · exact bin64_nan_6 p q w hp hq hn
  · have n1 : isN double p = false := by cases h : isN double p <;> simp_all
    have n2 : isN double q = false := by cases h : isN double q <;> simp_all
    rw [if_neg (by rw [n1, n2]; decide)]; have : op = 1 ∨ op = 2 ∨ op = 3 ∨ op = 4 ∨ op = 5 ∨ op = 6 := by omega
    rcases this with rfl | rfl | rfl | rfl | rfl | rfl
    · exact bin64_a1 p q w hp hq n1 n2
    · exact bin64_a2 p q w hp hq n1 n2
    · exact bin64_a3 p q w hp hq n1 n2
    · exact bin64_a4 p q w hp hq n1 n2
    · exact bin64_e5 p q w hp hq n1 n2
    · exact bin64_e6 p q w hp hq n1 n2
end Go.Proofs.YtkhhhceeoljheaaGreatDoor
