import Derived.Test.YtkhhhceeoljheaaGreatDoorInScSm
set_option linter.unusedVariables false
set_option linter.unusedSimpArgs false
namespace Go.Proofs.YtkhhhceeoljheaaGreatDoor.Pure
open Go.RowKit Go.Proofs.YtkhhhceeoljheaaGreatDoorW.PrintWords Go.Proofs.YtkhhhceeoljheaaGreatDoorW.PrintLast Go.Proofs.YtkhhhceeoljheaaGreatDoorW.PrintMore Go.Proofs.YtkhhhceeoljheaaGreatDoor.PInt
theorem awake_i : bodkinlaw07_awake.f 900 = some true := by decide +kernel
theorem Q_un64 (a b : Nat) (ha : a < 18446744073709551616) (q : Q 138 a b 124) : Q 138 a b 121 := by
  have f := List.all_eq_true.1 un64
  exact Q_un 64 121 1 138 a b (by omega) (by omega) ha (by omega) (f 1 (by decide)) (Q_un 64 122 2 138 a b (by omega) (by omega) ha (by omega) (f 2 (by decide)) (Q_un 64 123 3 138 a b (by omega) (by omega) ha (by omega) (f 3 (by decide)) q))
theorem Q_bins (n : Nat) (base tt : Int) (a b : Nat) (h : (n = 32 ∧ base = 105) ∨ (n = 64 ∧ base = 123)) (hto : tt = base + 15) (ha : a < 18446744073709551616) (hb : b < 18446744073709551616) (f : ∀ j : Int, 1 ≤ j → j ≤ 15 → facts n [ty n, ty n] (base + j) (-1) true j = true) :
    ∀ d : Nat, d ≤ 15 → Q tt a b (tt + 1 - d)
  | 0, _ => by
    have := Q_end tt a b
    rw [show tt + 1 - ((0 : Nat) : Int) = tt + 1 by omega]
    exact this
  | d + 1, hd => by
    have ih := Q_bins n base tt a b h hto ha hb f d (by omega)
    have e : tt + 1 - ((d + 1 : Nat) : Int) = base + (15 - (d : Int)) := by omega
    rw [e]
    refine Q_bin n _ (15 - (d : Int)) tt a b (by omega) (by omega) ha hb (by omega) (f _ (by omega) (by omega)) ?_
    rw [show base + (15 - (d : Int)) + 1 = tt + 1 - (d : Int) by omega]
    exact ih
theorem mem15 (j : Int) (h1 : 1 ≤ j) (h2 : j ≤ 15) : j ∈ ([1, 2, 3, 4, 5, 6, 7, 8, 9, 10, 11, 12, 13, 14, 15] : List Int) := by
  have : j = 1 ∨ j = 2 ∨ j = 3 ∨ j = 4 ∨ j = 5 ∨ j = 6 ∨ j = 7 ∨ j = 8 ∨ j = 9 ∨ j = 10 ∨ j = 11 ∨ j = 12 ∨ j = 13 ∨ j = 14 ∨ j = 15 := by omega
  rcases this with rfl | rfl | rfl | rfl | rfl | rfl | rfl | rfl | rfl | rfl | rfl | rfl | rfl | rfl | rfl <;> decide
theorem longs_Q (a b : Nat) (ha : a < 18446744073709551616) (hb : b < 18446744073709551616) : Q 138 a b 121 :=
  Q_un64 a b ha (Q_bins 64 123 138 a b (by omega) (by omega) ha hb (fun j h1 h2 => List.all_eq_true.1 bin64 j (mem15 j h1 h2)) 15 (by omega))
theorem u64_nat (a : Int) (h : (Lit.int .u64 a).wf = true) : ∃ n : Nat, a = (n : Int) ∧ n < 18446744073709551616 := by
  have h2 : 0 ≤ a ∧ a < 18446744073709551616 := by
    simp [Lit.wf, IntKind.min, IntKind.max, IntKind.bits, IntKind.signed] at h
    omega
  exact ⟨a.toNat, by omega, by omega⟩
theorem longs_pure : bodkinlaw07_ScalarLongs.Pure := by
  intro a0 a1 h0 h1
  obtain ⟨a, rfl, ha⟩ := u64_nat a0 h0
  obtain ⟨b, rfl, hb⟩ := u64_nat a1 h1
  obtain ⟨k, hk, e⟩ := longs_Q a b ha hb
  refine ⟨k, ?_⟩
  have aw := lift (fun k => bodkinlaw07_awake.f k) (fun k => bodkinlaw07_awake.mono k) true 900 awake_i k (by omega)
  try dsimp only at aw
  unfold bodkinlaw07_ScalarLongs.f bodkinlaw07_some.f
  rw [aw, Option.bind_some, if_pos rfl, e]
  rfl
end Go.Proofs.YtkhhhceeoljheaaGreatDoor.Pure
