import Derived.Test.YtkhhhceeoljheaaGreatDoorProg
import Derived.Test.YtkhhhceeoljheaaGreatDoorFxFpR
import Derived.WalkKit
import Derived.WalkLawsBesides
import Derived.Deep.Draws
import Derived.Below
import Derived.Lib.Hide
import Derived.Laws.MakeOwn
import Derived.Laws.OwnMore
set_option linter.unusedVariables false
set_option linter.unusedSimpArgs false
namespace Go.Proofs.YtkhhhceeoljheaaGreatDoor
open Go.RowKit Go.Proofs.YtkhhhceeoljheaaGreatDoor.Fl Ieee
theorem frombits32 (n : Int) (w : World) : (callFunc 202 #[.int .u32 n]).run Tryz.prog w = .ok (.value (.float .f32 n.toNat)) w := by
  rw [run_callFunc_extern (e := Extern.MathFloatBits.float32frombits) Tryz.func202 (by kernel_rfl) (by kernel_rfl) (by kernel_rfl) (by kernel_rfl)]; rfl
theorem frombits64 (n : Int) (w : World) : (callFunc 221 #[.int .u64 n]).run Tryz.prog w = .ok (.value (.float .f64 n.toNat)) w := by
  rw [run_callFunc_extern (e := Extern.MathFloatBits.float64frombits) Tryz.func221 (by kernel_rfl) (by kernel_rfl) (by kernel_rfl) (by kernel_rfl)]; rfl
theorem bits32 (n : Nat) (w : World) : (callFunc 200 #[.float .f32 n]).run Tryz.prog w = .ok (.value (.int .u32 n)) w := by
  rw [run_callFunc_extern (e := Extern.MathFloatBits.float32bits) Tryz.func200 (by kernel_rfl) (by kernel_rfl) (by kernel_rfl) (by kernel_rfl)]; rfl
theorem bits64 (n : Nat) (w : World) : (callFunc 201 #[.float .f64 n]).run Tryz.prog w = .ok (.value (.int .u64 n)) w := by
  rw [run_callFunc_extern (e := Extern.MathFloatBits.float64bits) Tryz.func201 (by kernel_rfl) (by kernel_rfl) (by kernel_rfl) (by kernel_rfl)]; rfl
theorem F32_any (a : Int) (w : World) : Calls Tryz.prog 149 #[.int .u64 a] w fun e w' => e = .returned (.float .f32 (IntKind.u32.wrap a).toNat) ∧ w = w' := by
  have hx := frombits32; go_enter Tryz.func149, Tryz.ntmps149
  go_wp2
  go_ret; exact ⟨rfl, rfl⟩
theorem F64_any (a : Int) (w : World) : Calls Tryz.prog 192 #[.int .u64 a] w fun e w' => e = .returned (.float .f64 a.toNat) ∧ w = w' := by
  have hx := frombits64; go_enter Tryz.func192, Tryz.ntmps192
  go_wp2
  go_ret; exact ⟨rfl, rfl⟩
def Wid (b r : Nat) : Prop := if isN single b = true then isN double r = true else r = wide b
theorem nanbits64 (t : Nat) (b : Nat) : isN double (Question.cut (.nanConv .f64 b) t) = true := by
  show decide (double.infRung < siz double ((t % 2) * 2 ^ 63 + 0x7ff0000000000000 + 1 + (t / 2) % (2 ^ 52 - 1))) = true
  have h : siz double ((t % 2) * 2 ^ 63 + 0x7ff0000000000000 + 1 + (t / 2) % (2 ^ 52 - 1)) = 0x7ff0000000000000 + 1 + (t / 2) % (2 ^ 52 - 1) := by
    unfold siz; rw [dS]
    have : (t / 2) % (2 ^ 52 - 1) < 2 ^ 52 - 1 := Nat.mod_lt _ (by decide); omega
  rw [h, dI]; simp
  omega
theorem isN_read (f : Format) (hE : 1 ≤ f.exponentBits) (b : Nat) (h : isN f b = true) : f.read b = .nan (neg f b) (siz f b - f.infRung) := by
  have hI := inf_ge f hE; have h2 : f.infRung < siz f b := by simpa [isN] using h
  rw [read_eq, if_neg (by omega), if_neg (by omega), if_neg (by omega)]
theorem run_wide (b : Nat) (w : World) : ∃ r k, Wid b r ∧ (convert 128 123 (.float .f32 b)).run Tryz.prog w = .ok (.float .f64 r) (w.drewN k) := by
  have hs : (Tryz.prog.underlying 128) = some (.float .f32) := Tryz.underlying128; have hd : (Tryz.prog.underlying 123) = some (.float .f64) := Tryz.underlying123; by_cases h : isN single b = true
  · have hr : FloatKind.f32.decode b = .nan (neg single b) (siz single b - single.infRung) := isN_read single (by decide) b h
    refine ⟨Question.cut (.nanConv .f64 b) (w.tape w.drawn (.nanConv .f64 b)), 1, ?_, ?_⟩
    · unfold Wid; rw [if_pos h]; exact nanbits64 _ _
    · simp [convert, run_underlying hs, run_underlying hd, Conv.floatToFloat, hr, choose, Sem.run, Question.forced, World.drewN]
  · refine ⟨wide b, 0, ?_, ?_⟩
    · unfold Wid; rw [if_neg h]
    · refine run_convert_float_float w 128 123 .f32 .f64 b (wide b) (by rw [hs]; rfl) hd ?_
      unfold floatToFloatBits; rw [if_neg (by decide)]; have hn : isN single b = false := by simpa using h
      have h2 : ¬ single.infRung < siz single b := by simpa [isN] using hn
      by_cases c : siz single b < single.infRung
      · obtain ⟨m, e, hm, -, -, -, -⟩ := single_read_bounds b c
        have hw := wide_fin b c; have h3 : FloatKind.f32.decode b = .number (neg single b) m e := hm; have h4 : FloatKind.f64.encode (.number (neg single b) m e) = wide b := by unfold wide; rw [hm]; rfl
        rw [h3]; simp only [h4]; obtain ⟨m2, e2, hm2, -⟩ := read_fin double (wide b) hw.2.1; have h5 : FloatKind.f64.decode (wide b) = .number (neg double (wide b)) m2 e2 := hm2; rw [h5]; rfl
      · have h3 : single.read b = .infinity (neg single b) := by
          rw [read_eq, if_neg (by have := inf_ge single (by decide); omega), if_neg (by omega), if_pos (by omega)]
        have h4 : FloatKind.f32.decode b = .infinity (neg single b) := h3; have h5 : FloatKind.f64.encode (.infinity (neg single b)) = wide b := by unfold wide; rw [h3]; rfl
        rw [h4]; simp only [h5]
def Val (n : Int) (a : Int) (r : Nat) : Prop := if n = 32 then Wid (IntKind.u32.wrap a).toNat r else r = a.toNat
theorem value_any (n a : Int) (w : World) : Calls Tryz.prog 137 #[.int .i64 n, .int .u64 a] w fun e w' => ∃ r k, e = .returned (.float .f64 r) ∧ Val n a r ∧ w' = w.drewN k := by
  by_cases hn : n = 32
  · subst hn
    obtain ⟨r, k, hv, hx⟩ := run_wide (IntKind.u32.wrap a).toNat w; have HV := Lib.hid hv; clear hv; go_enter Tryz.func137, Tryz.ntmps137
    go_wp2_with (first | (go_at_call 149; refine (F32_any _ _).mono ?_; rintro e w' ⟨rfl, rfl⟩))
    go_ret; exact ⟨r, k, rfl, by unfold Val; rw [if_pos rfl]; exact HV.out, rfl⟩
  · have hne : (n == 32) = false := by simpa using hn
    have HN := Lib.hid hn; clear hn; go_enter Tryz.func137, Tryz.ntmps137
    go_wp2_with (first | (go_at_call 192; refine (F64_any _ _).mono ?_; rintro e w' ⟨rfl, rfl⟩))
    go_ret; exact ⟨_, 0, rfl, by unfold Val; rw [if_neg HN.out], rfl⟩
end Go.Proofs.YtkhhhceeoljheaaGreatDoor
namespace Go.Proofs.YtkhhhceeoljheaaGreatDoor
end Go.Proofs.YtkhhhceeoljheaaGreatDoor
namespace Go.Proofs.YtkhhhceeoljheaaGreatDoor
open Go.RowKit Go.Proofs.YtkhhhceeoljheaaGreatDoor.Fl Ieee
theorem order_self (f : Format) (hE : 1 ≤ f.exponentBits) (b : Nat) : (f.order b b != some .eq) = isN f b := by
  rw [order_eq f hE]; cases h : isN f b
  · simp
  · simp
theorem order_self32 (b : Nat) : (FloatKind.f32.format.order b b != some .eq) = isN single b := order_self single (by decide) b
theorem order_self64 (b : Nat) : (FloatKind.f64.format.order b b != some .eq) = isN double b := order_self double (by decide) b
theorem canon32 (w : World) : Calls Tryz.prog 147 #[.int .i64 32] w fun e w' => e = .returned (.int .u64 2143289344) ∧ w = w' := by
  go_enter Tryz.func147, Tryz.ntmps147
  go_wp2
  go_ret; exact ⟨rfl, rfl⟩
theorem canon64 (w : World) : Calls Tryz.prog 147 #[.int .i64 64] w fun e w' => e = .returned (.int .u64 9221120237041090560) ∧ w = w' := by
  go_enter Tryz.func147, Tryz.ntmps147
  go_wp2
  go_ret; exact ⟨rfl, rfl⟩
theorem ret_int {k : IntKind} {a b : Int} (h : a = b) : Ending.returned (.int k a) = .returned (.int k b) := by rw [h]
def bt32 (b : Nat) : Nat := if isN single b = true then 2143289344 else b
def bt64 (b : Nat) : Nat := if isN double b = true then 9221120237041090560 else b
theorem B32_any (b : Nat) (w : World) (hb : b < 4294967296) : Calls Tryz.prog 145 #[.float .f32 b] w fun e w' => e = .returned (.int .u64 (bt32 b)) ∧ w = w' := by
  have hx := bits32; have ho := order_self32 b; have h1 : (0 : Int) ≤ b := by omega
  have h2 : (b : Int) ≤ 4294967295 := by omega
  cases h : isN single b
  · rw [h] at ho
    have H := Lib.hid h; clear h; go_enter Tryz.func145, Tryz.ntmps145
    go_wp2_with (first | (go_at_call 147; refine (canon32 _).mono ?_; rintro e w' ⟨rfl, rfl⟩))
    go_ret; exact ⟨ret_int (by unfold bt32; rw [if_neg (by rw [H.out]; decide)]), rfl⟩
  · rw [h] at ho
    have H := Lib.hid h; clear h; go_enter Tryz.func145, Tryz.ntmps145
    go_wp2_with (first | (go_at_call 147; refine (canon32 _).mono ?_; rintro e w' ⟨rfl, rfl⟩))
    go_ret; exact ⟨ret_int (by unfold bt32; rw [if_pos H.out]; rfl), rfl⟩
theorem B64_any (b : Nat) (w : World) : Calls Tryz.prog 146 #[.float .f64 b] w fun e w' => e = .returned (.int .u64 (bt64 b)) ∧ w = w' := by
  have hx := bits64; have ho := order_self64 b; cases h : isN double b
  · rw [h] at ho
    have H := Lib.hid h; clear h; go_enter Tryz.func146, Tryz.ntmps146
    go_wp2_with (first | (go_at_call 147; refine (canon64 _).mono ?_; rintro e w' ⟨rfl, rfl⟩))
    go_ret; exact ⟨ret_int (by unfold bt64; rw [if_neg (by rw [H.out]; decide)]), rfl⟩
  · rw [h] at ho
    have H := Lib.hid h; clear h; go_enter Tryz.func146, Tryz.ntmps146
    go_wp2_with (first | (go_at_call 147; refine (canon64 _).mono ?_; rintro e w' ⟨rfl, rfl⟩))
    go_ret; exact ⟨ret_int (by unfold bt64; rw [if_pos H.out]; rfl), rfl⟩
def Ari (f : Format) (o : Option Nat) (r : Nat) : Prop := match o with | some x => r = x | none => isN f r = true
theorem nanbits (k : FloatKind) (t x y : Nat) : isN k.format (Question.cut (.nanBits k x y) t) = true := by
  cases k
  · show decide (single.infRung < siz single ((t % 2) * 2 ^ 31 + 0x7f800000 + 1 + (t / 2) % (2 ^ 23 - 1))) = true
    have h : siz single ((t % 2) * 2 ^ 31 + 0x7f800000 + 1 + (t / 2) % (2 ^ 23 - 1)) = 0x7f800000 + 1 + (t / 2) % (2 ^ 23 - 1) := by
      unfold siz; rw [sS]
      have : (t / 2) % (2 ^ 23 - 1) < 2 ^ 23 - 1 := Nat.mod_lt _ (by decide); omega
    rw [h, sI]; simp
    omega
  · show decide (double.infRung < siz double ((t % 2) * 2 ^ 63 + 0x7ff0000000000000 + 1 + (t / 2) % (2 ^ 52 - 1))) = true
    have h : siz double ((t % 2) * 2 ^ 63 + 0x7ff0000000000000 + 1 + (t / 2) % (2 ^ 52 - 1)) = 0x7ff0000000000000 + 1 + (t / 2) % (2 ^ 52 - 1) := by
      unfold siz; rw [dS]
      have : (t / 2) % (2 ^ 52 - 1) < 2 ^ 52 - 1 := Nat.mod_lt _ (by decide); omega
    rw [h, dI]; simp
    omega
theorem run_ari (op : BinOp) (hop : op = .add ∨ op = .sub ∨ op = .mul ∨ op = .quo) (t : TypeId) (k : FloatKind) (x y : Nat) (w : World) : ∃ r j, Ari k.format (floatBits op k x y) r ∧ (binOp op t (.float k x) (.float k y)).run Tryz.prog w = .ok (.float k r) (w.drewN j) := by
  cases h : floatBits op k x y with
  | some r => exact ⟨r, 0, rfl, run_float_arith w op t k x y r h⟩
  | none =>
    refine ⟨Question.cut (.nanBits k x y) (w.tape w.drawn (.nanBits k x y)), 1, nanbits k _ x y, ?_⟩; unfold floatBits at h; rcases hop with rfl | rfl | rfl | rfl <;> simp only at h <;> simp [binOp, Op.floatArith, h, choose, Sem.run, Question.forced, World.drewN]
theorem worked_1 (x y : Nat) (w : World) : Calls Tryz.prog 148 #[.int .i64 1, .float .f64 x, .float .f64 y] w fun e w' => ∃ r j, e = .returned (.float .f64 r) ∧ Ari double (floatBits .add .f64 x y) r ∧ w' = w.drewN j := by
  obtain ⟨r, j, hr, hx⟩ := run_ari .add (by simp) 123 .f64 x y w; have HR := Lib.hid hr; clear hr; go_enter Tryz.func148, Tryz.ntmps148
  go_wp2
  go_ret; exact ⟨r, j, rfl, HR.out, rfl⟩
theorem worked_2 (x y : Nat) (w : World) : Calls Tryz.prog 148 #[.int .i64 2, .float .f64 x, .float .f64 y] w fun e w' => ∃ r j, e = .returned (.float .f64 r) ∧ Ari double (floatBits .sub .f64 x y) r ∧ w' = w.drewN j := by
  obtain ⟨r, j, hr, hx⟩ := run_ari .sub (by simp) 123 .f64 x y w; have HR := Lib.hid hr; clear hr; go_enter Tryz.func148, Tryz.ntmps148
  go_wp2
  go_ret; exact ⟨r, j, rfl, HR.out, rfl⟩
theorem worked_3 (x y : Nat) (w : World) : Calls Tryz.prog 148 #[.int .i64 3, .float .f64 x, .float .f64 y] w fun e w' => ∃ r j, e = .returned (.float .f64 r) ∧ Ari double (floatBits .mul .f64 x y) r ∧ w' = w.drewN j := by
  obtain ⟨r, j, hr, hx⟩ := run_ari .mul (by simp) 123 .f64 x y w; have HR := Lib.hid hr; clear hr; go_enter Tryz.func148, Tryz.ntmps148
  go_wp2
  go_ret; exact ⟨r, j, rfl, HR.out, rfl⟩
theorem worked_4 (x y : Nat) (w : World) : Calls Tryz.prog 148 #[.int .i64 4, .float .f64 x, .float .f64 y] w fun e w' => ∃ r j, e = .returned (.float .f64 r) ∧ Ari double (floatBits .quo .f64 x y) r ∧ w' = w.drewN j := by
  obtain ⟨r, j, hr, hx⟩ := run_ari .quo (by simp) 123 .f64 x y w; have HR := Lib.hid hr; clear hr; go_enter Tryz.func148, Tryz.ntmps148
  go_wp2
  go_ret; exact ⟨r, j, rfl, HR.out, rfl⟩
end Go.Proofs.YtkhhhceeoljheaaGreatDoor
namespace Go.Proofs.YtkhhhceeoljheaaGreatDoor
open Go.RowKit Go.Proofs.YtkhhhceeoljheaaGreatDoor.Fl Ieee
theorem sqrt_eq (x : Nat) : Extern.MathSqrt.sqrt #[.float .f64 x] = (match double.sqrt x with
    | some r => pure (.float .f64 r)
    | none => do pure (.float .f64 (← choose (.nanBits .f64 x x)))) := rfl
theorem ext_root (x : Nat) (w : World) : (callFunc 193 #[.float .f64 x]).run Tryz.prog w = ((Extern.MathSqrt.sqrt #[.float .f64 x]).run Tryz.prog w).andThen fun v w' => .ok (.value v) w' :=
  run_callFunc_extern Tryz.func193 (by kernel_rfl) (by kernel_rfl) (by kernel_rfl) (by kernel_rfl) _ w
theorem run_root (x : Nat) (w : World) : ∃ r j, Ari double (double.sqrt x) r ∧ (callFunc 193 #[.float .f64 x]).run Tryz.prog w = .ok (.value (.float .f64 r)) (w.drewN j) := by
  cases h : double.sqrt x with
  | some r =>
    exact ⟨r, 0, rfl, by rw [ext_root, sqrt_eq, h]; rfl⟩
  | none =>
    refine ⟨Question.cut (.nanBits .f64 x x) (w.tape w.drawn (.nanBits .f64 x x)), 1, nanbits .f64 _ x x, ?_⟩; rw [ext_root, sqrt_eq, h]; rfl
def whl (way : Toward) (x : Nat) : Option Nat := if isN double x = true then none else some (double.write ((double.read x).integral way))
theorem isN_quiet (x : Nat) : isN double (FloatKind.f64.encode (.nan (neg double x) (FloatKind.f64.format.quiet (siz double x - double.infRung)))) = true := by
  show isN double (double.word (neg double x) (double.infRung + (double.quiet (siz double x - double.infRung)) % double.binade)) = true
  have h1 : double.quiet (siz double x - double.infRung) % double.binade ≠ 0 := by
    unfold Format.quiet; intro h0
    have h2 : ((siz double x - double.infRung) ||| 2 ^ (double.fractionBits - 1)).testBit (double.fractionBits - 1) = true := by
      rw [Nat.testBit_or, Nat.testBit_two_pow_self, Bool.or_true]
    have h3 : (((siz double x - double.infRung) ||| 2 ^ (double.fractionBits - 1)) % 2 ^ double.fractionBits).testBit (double.fractionBits - 1) = true := by
      rw [Nat.testBit_mod_two_pow, h2]; decide
    unfold Format.binade at h0; rw [h0] at h3; simp at h3
  have h4 : double.infRung + (double.quiet (siz double x - double.infRung)) % double.binade < double.signWeight := by
    have := Nat.mod_lt (double.quiet (siz double x - double.infRung)) (binade_pos double); rw [dB] at this ⊢; rw [dI, dS]; omega
  unfold isN; rw [siz_word _ _ _ h4]; simp
  omega
theorem whole_eq (name : String) (way : Toward) (x : Nat) : Extern.MathFloor.toIntegral name way #[.float .f64 x] = (match double.read x with
    | .nan s t =>
      if double.quiet t = t then pure (.float .f64 x) else do
      let kept ← choose (.extern "math.Floor,Ceil,Trunc,RoundToEven.signallingNaN kept" 2)
      pure (.float .f64 (if kept == 1 then x else FloatKind.f64.encode (.nan s (double.quiet t))))
    | d => pure (.float .f64 (double.write (d.integral way)))) := rfl
theorem run_whole (name : String) (way : Toward) (x : Nat) (w : World) : ∃ r j, Ari double (whl way x) r ∧ ((Extern.MathFloor.toIntegral name way #[.float .f64 x]).run Tryz.prog w) = .ok (.float .f64 r) (w.drewN j) := by
  unfold whl; rw [whole_eq]; by_cases h : isN double x = true
  · have hr := isN_read double (by decide) x h
    rw [if_pos h, hr]; by_cases q : double.quiet (siz double x - double.infRung) = siz double x - double.infRung
    · exact ⟨x, 0, h, by simp only [if_pos q]; rfl⟩
    · refine ⟨if Question.cut (.extern "math.Floor,Ceil,Trunc,RoundToEven.signallingNaN kept" 2) (w.tape w.drawn (.extern "math.Floor,Ceil,Trunc,RoundToEven.signallingNaN kept" 2)) == 1 then x else FloatKind.f64.encode (.nan (neg double x) (double.quiet (siz double x - double.infRung))), 1, ?_, ?_⟩
      · show isN double _ = true
        split
        · exact h
        · exact isN_quiet x
      · simp only [if_neg q]; rfl
  · rw [if_neg h]
    refine ⟨_, 0, rfl, ?_⟩
    cases hd : double.read x with
    | nan s t =>
      exfalso
      rw [read_eq] at hd; have h2 : ¬ double.infRung < siz double x := by simpa [isN] using h
      split at hd
      · cases hd
      · split at hd
        · cases hd
        · split at hd
          · cases hd
          · omega
    | infinity s => rfl
    | number s m e => rfl
theorem run_ceil (x : Nat) (w : World) : ∃ r j, Ari double (whl .up x) r ∧ (callFunc 194 #[.float .f64 x]).run Tryz.prog w = .ok (.value (.float .f64 r)) (w.drewN j) := by
  obtain ⟨r, j, h1, h2⟩ := run_whole "math.archCeil" .up x w; refine ⟨r, j, h1, ?_⟩; rw [run_callFunc_extern (e := Extern.MathFloor.toIntegral "math.archCeil" .up) Tryz.func194 (by kernel_rfl) (by kernel_rfl) (by kernel_rfl) (by kernel_rfl), h2]; rfl
theorem run_floor (x : Nat) (w : World) : ∃ r j, Ari double (whl .down x) r ∧ (callFunc 196 #[.float .f64 x]).run Tryz.prog w = .ok (.value (.float .f64 r)) (w.drewN j) := by
  obtain ⟨r, j, h1, h2⟩ := run_whole "math.archFloor" .down x w; refine ⟨r, j, h1, ?_⟩; rw [run_callFunc_extern (e := Extern.MathFloor.toIntegral "math.archFloor" .down) Tryz.func196 (by kernel_rfl) (by kernel_rfl) (by kernel_rfl) (by kernel_rfl), h2]; rfl
theorem run_trunc (x : Nat) (w : World) : ∃ r j, Ari double (whl .zero x) r ∧ (callFunc 198 #[.float .f64 x]).run Tryz.prog w = .ok (.value (.float .f64 r)) (w.drewN j) := by
  obtain ⟨r, j, h1, h2⟩ := run_whole "math.archTrunc" .zero x w; refine ⟨r, j, h1, ?_⟩; rw [run_callFunc_extern (e := Extern.MathFloor.toIntegral "math.archTrunc" .zero) Tryz.func198 (by kernel_rfl) (by kernel_rfl) (by kernel_rfl) (by kernel_rfl), h2]; rfl
theorem run_even (x : Nat) (w : World) : ∃ r j, Ari double (whl .even x) r ∧ (callFunc 144 #[.float .f64 x]).run Tryz.prog w = .ok (.value (.float .f64 r)) (w.drewN j) := by
  obtain ⟨r, j, h1, h2⟩ := run_whole "math.RoundToEven" .even x w; refine ⟨r, j, h1, ?_⟩; rw [run_callFunc_extern (e := Extern.MathFloor.toIntegral "math.RoundToEven" .even) Tryz.func144 (by kernel_rfl) (by kernel_rfl) (by kernel_rfl) (by kernel_rfl), h2]; rfl
set_option maxRecDepth 100000 in
theorem Sqrt_any (x : Nat) (w : World) : Calls Tryz.prog 140 #[.float .f64 x] w fun e w' => ∃ r j, e = .returned (.float .f64 r) ∧ Ari double (double.sqrt x) r ∧ w' = w.drewN j := by
  obtain ⟨r, j, hr, hx⟩ := run_root x w; have HR := Lib.hid hr; clear hr; go_enter Tryz.func140, Tryz.ntmps140
  go_wp2
  go_ret; exact ⟨r, j, rfl, HR.out, rfl⟩
set_option maxRecDepth 100000 in
theorem Ceil_any (x : Nat) (w : World) : Calls Tryz.prog 141 #[.float .f64 x] w fun e w' => ∃ r j, e = .returned (.float .f64 r) ∧ Ari double (whl .up x) r ∧ w' = w.drewN j := by
  obtain ⟨r, j, hr, hx⟩ := run_ceil x w; have HR := Lib.hid hr; clear hr; go_enter Tryz.func141, Tryz.ntmps141
  go_wp2
  go_ret; exact ⟨r, j, rfl, HR.out, rfl⟩
set_option maxRecDepth 100000 in
theorem Floor_any (x : Nat) (w : World) : Calls Tryz.prog 142 #[.float .f64 x] w fun e w' => ∃ r j, e = .returned (.float .f64 r) ∧ Ari double (whl .down x) r ∧ w' = w.drewN j := by
  obtain ⟨r, j, hr, hx⟩ := run_floor x w; have HR := Lib.hid hr; clear hr; go_enter Tryz.func142, Tryz.ntmps142
  go_wp2
  go_ret; exact ⟨r, j, rfl, HR.out, rfl⟩
set_option maxRecDepth 100000 in
theorem Trunc_any (x : Nat) (w : World) : Calls Tryz.prog 143 #[.float .f64 x] w fun e w' => ∃ r j, e = .returned (.float .f64 r) ∧ Ari double (whl .zero x) r ∧ w' = w.drewN j := by
  obtain ⟨r, j, hr, hx⟩ := run_trunc x w; have HR := Lib.hid hr; clear hr; go_enter Tryz.func143, Tryz.ntmps143
  go_wp2
  go_ret; exact ⟨r, j, rfl, HR.out, rfl⟩
end Go.Proofs.YtkhhhceeoljheaaGreatDoor
