import Derived.Test.YtkhhhceeoljheaaGreatDoorProg
import Derived.Test.YtkhhhceeoljheaaGreatDoorSxFl7
import Derived.WalkKit
import Derived.WalkLawsBesides
import Derived.Deep.Draws
import Derived.Below
import Derived.Lib.Hide
namespace Go.Proofs.YtkhhhceeoljheaaGreatDoor
open Go.RowKit Go.Proofs.YtkhhhceeoljheaaGreatDoor.Fl Ieee
theorem frombits32 (n : Int) (w : World) : (callFunc 202 #[.int .u32 n]).run Tryz.prog w = .ok (.value (.float .f32 n.toNat)) w := by
  rw [run_callFunc_extern (e := Extern.MathFloatBits.float32frombits) Tryz.func202 (by kernel_rfl) (by kernel_rfl) (by kernel_rfl) (by kernel_rfl)]; rfl
theorem frombits64 (n : Int) (w : World) : (callFunc 221 #[.int .u64 n]).run Tryz.prog w = .ok (.value (.float .f64 n.toNat)) w := by
  rw [run_callFunc_extern (e := Extern.MathFloatBits.float64frombits) Tryz.func221 (by kernel_rfl) (by kernel_rfl) (by kernel_rfl) (by kernel_rfl)]; rfl
theorem F32_any (a : Int) (w : World) : Calls Tryz.prog 149 #[.int .u64 a] w fun e w' => e = .returned (.float .f32 (IntKind.u32.wrap a).toNat) ∧ w = w' := by
  have hx := frombits32
  go_enter Tryz.func149, Tryz.ntmps149
  go_wp2
  go_ret
  exact ⟨rfl, rfl⟩
theorem F64_any (a : Int) (w : World) : Calls Tryz.prog 192 #[.int .u64 a] w fun e w' => e = .returned (.float .f64 a.toNat) ∧ w = w' := by
  have hx := frombits64
  go_enter Tryz.func192, Tryz.ntmps192
  go_wp2
  go_ret
  exact ⟨rfl, rfl⟩
def Wid (b r : Nat) : Prop := if isN single b = true then isN double r = true else r = wide b
theorem nanbits64 (t : Nat) (b : Nat) : isN double (Question.cut (.nanConv .f64 b) t) = true := by
  show decide (double.infRung < siz double ((t % 2) * 2 ^ 63 + 0x7ff0000000000000 + 1 + (t / 2) % (2 ^ 52 - 1))) = true
  have h : siz double ((t % 2) * 2 ^ 63 + 0x7ff0000000000000 + 1 + (t / 2) % (2 ^ 52 - 1)) = 0x7ff0000000000000 + 1 + (t / 2) % (2 ^ 52 - 1) := by
    unfold siz; rw [dS]
    have : (t / 2) % (2 ^ 52 - 1) < 2 ^ 52 - 1 := Nat.mod_lt _ (by decide)
    omega
  rw [h, dI]
  simp
  omega
theorem isN_read (f : Format) (hE : 1 ≤ f.exponentBits) (b : Nat) (h : isN f b = true) : f.read b = .nan (neg f b) (siz f b - f.infRung) := by
  have hI := inf_ge f hE
  have h2 : f.infRung < siz f b := by simpa [isN] using h
  rw [read_eq, if_neg (by omega), if_neg (by omega), if_neg (by omega)]
theorem run_wide (b : Nat) (w : World) : ∃ r k, Wid b r ∧ (convert 128 123 (.float .f32 b)).run Tryz.prog w = .ok (.float .f64 r) (w.drewN k) := by
  have hs : (Tryz.prog.underlying 128) = some (.float .f32) := Tryz.underlying128
  have hd : (Tryz.prog.underlying 123) = some (.float .f64) := Tryz.underlying123
  by_cases h : isN single b = true
  · have hr : FloatKind.f32.decode b = .nan (neg single b) (siz single b - single.infRung) := isN_read single (by decide) b h
    refine ⟨Question.cut (.nanConv .f64 b) (w.tape w.drawn (.nanConv .f64 b)), 1, ?_, ?_⟩
    · unfold Wid; rw [if_pos h]; exact nanbits64 _ _
    · simp [convert, run_underlying hs, run_underlying hd, Conv.floatToFloat, hr, choose, Sem.run, Question.forced, World.drewN]
  · refine ⟨wide b, 0, ?_, ?_⟩
    · unfold Wid; rw [if_neg h]
    · refine run_convert_float_float w 128 123 .f32 .f64 b (wide b) (by rw [hs]; rfl) hd ?_
      unfold floatToFloatBits
      rw [if_neg (by decide)]
      have hn : isN single b = false := by simpa using h
      have h2 : ¬ single.infRung < siz single b := by simpa [isN] using hn
      by_cases c : siz single b < single.infRung
      · obtain ⟨m, e, hm, -, -, -, -⟩ := single_read_bounds b c
        have hw := wide_fin b c
        have h3 : FloatKind.f32.decode b = .number (neg single b) m e := hm
        have h4 : FloatKind.f64.encode (.number (neg single b) m e) = wide b := by unfold wide; rw [hm]; rfl
        rw [h3]
        simp only [h4]
        obtain ⟨m2, e2, hm2, -⟩ := read_fin double (wide b) hw.2.1
        have h5 : FloatKind.f64.decode (wide b) = .number (neg double (wide b)) m2 e2 := hm2
        rw [h5]; rfl
      · have h3 : single.read b = .infinity (neg single b) := by
          rw [read_eq, if_neg (by have := inf_ge single (by decide); omega), if_neg (by omega), if_pos (by omega)]
        have h4 : FloatKind.f32.decode b = .infinity (neg single b) := h3
        have h5 : FloatKind.f64.encode (.infinity (neg single b)) = wide b := by unfold wide; rw [h3]; rfl
        rw [h4]; simp only [h5]
def Val (n : Int) (a : Int) (r : Nat) : Prop := if n = 32 then Wid (IntKind.u32.wrap a).toNat r else r = a.toNat
theorem value_any (n a : Int) (w : World) : Calls Tryz.prog 137 #[.int .i64 n, .int .u64 a] w fun e w' => ∃ r k, e = .returned (.float .f64 r) ∧ Val n a r ∧ w' = w.drewN k := by
  by_cases hn : n = 32
  · subst hn
    obtain ⟨r, k, hv, hx⟩ := run_wide (IntKind.u32.wrap a).toNat w
    have HV := Lib.hid hv
    clear hv
    go_enter Tryz.func137, Tryz.ntmps137
    go_wp2_with (first | (go_at_call 149; refine (F32_any _ _).mono ?_; rintro e w' ⟨rfl, rfl⟩))
    go_ret
    exact ⟨r, k, rfl, by unfold Val; rw [if_pos rfl]; exact HV.out, rfl⟩
  · have hne : (n == 32) = false := by simpa using hn
    have HN := Lib.hid hn
    clear hn
    go_enter Tryz.func137, Tryz.ntmps137
    go_wp2_with (first | (go_at_call 192; refine (F64_any _ _).mono ?_; rintro e w' ⟨rfl, rfl⟩))
    go_ret
    exact ⟨_, 0, rfl, by unfold Val; rw [if_neg HN.out], rfl⟩
end Go.Proofs.YtkhhhceeoljheaaGreatDoor
