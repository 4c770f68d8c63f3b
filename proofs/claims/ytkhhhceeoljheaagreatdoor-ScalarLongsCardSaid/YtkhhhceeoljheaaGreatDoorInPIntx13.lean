import Derived.Test.YtkhhhceeoljheaaGreatDoorInPIntx13a
namespace Go.Proofs.YtkhhhceeoljheaaGreatDoor.PInt
open Go.RowKit Go.Proofs.YtkhhhceeoljheaaGreatDoorW.PrintWords Go.Proofs.YtkhhhceeoljheaaGreatDoorW.PrintLast Go.Proofs.YtkhhhceeoljheaaGreatDoorW.PrintMore
attribute [local go_sem] max2_int min2_int max_two min_two max_three min_three max_four min_four   
set_option linter.unusedVariables false
set_option linter.unusedSimpArgs false
set_option maxHeartbeats 8000000 in
set_option maxRecDepth 100000 in
theorem bodkinref02_Bin.bin_64_1 (k : Nat) (a2 : Int) (a3 : Int) (r1 : Int) (r2 : Int) (w : World) (h : bodkinref02_Bin.g k 64 1 a2 a3 = some (r1, r2)) (hG : GD w) :
  Calls Tryz.prog 66 #[.int .i64 64, .int .i64 1, .int .u64 a2, .int .u64 a3] w fun e w' => e = .returned (.tuple #[.int .u64 r1, .int .i64 r2]) ∧ Below w.heap.size w w' := by
 have HB := Aside0.mk (Below.refl w.heap.size w)
 have hR : bodkinref02_Right.f 64 = some true := rfl
 unfold bodkinref02_Bin.g at h
 rw [hR, Option.bind_some, if_pos rfl, if_neg (by decide), if_neg (by decide), if_neg (by decide)] at h
 have A5 := Aside0.mk hR
 clear hR
 cases k with
 | zero => cases h
 | succ k =>
 simp only [bodkinref02_Bin.j0] at h
 rw [if_neg (by decide)] at h
 replace h := Option.bind_eq_some_iff.mp h
 obtain ⟨t1, h1, h⟩ := h
 replace h := Option.bind_eq_some_iff.mp h
 obtain ⟨t2, h2, h⟩ := h
 replace h := Option.bind_eq_some_iff.mp h
 obtain ⟨t3, h3, h⟩ := h
 replace h := Option.bind_eq_some_iff.mp h
 obtain ⟨t4, h4, h⟩ := h
 rw [if_neg (by decide)] at h
 simp only [Int.reduceEq, Int.reduceBEq, ↓reduceIte] at h
 have A1 := Aside0.mk h1
 have A2 := Aside0.mk h2
 have A3 := Aside0.mk h3
 have A4 := Aside0.mk h4
 clear h1 h2 h3 h4
 obtain ⟨t5, h5, h⟩ := Option.bind_eq_some_iff.mp h
 simp only [Option.some.injEq, Prod.mk.injEq] at h
 obtain ⟨rfl, rfl⟩ := h
 have A6 := Aside0.mk h5
 clear h5
 go_enter Tryz.func66, Tryz.ntmps66
 go_wp2_with (first | (go_at_call 131; (with_reducible refine (bodkinref02_Right.calls 64 true _ A5.out ).mono ?_); rintro e w' ⟨rfl, ⟨nd, rfl⟩⟩; (try first | exact qd1_ | exact qd2_)) | (go_at_call 54; (with_reducible refine (bodkinref02_Cut.calls k 64 a2 t1 _ A1.out ).mono ?_); rintro e w' ⟨rfl, ⟨nd, rfl⟩⟩; (try first | exact qd1_ | exact qd2_)) | (go_at_call 54; (with_reducible refine (bodkinref02_Cut.calls k 64 a3 t2 _ A2.out ).mono ?_); rintro e w' ⟨rfl, ⟨nd, rfl⟩⟩; (try first | exact qd1_ | exact qd2_)) | (go_at_call 58; (with_reducible refine (bodkinref02_Signed.calls k 64 t1 t3 _ A3.out ).mono ?_); rintro e w' ⟨rfl, ⟨nd, rfl⟩⟩; (try first | exact qd1_ | exact qd2_)) | (go_at_call 58; (with_reducible refine (bodkinref02_Signed.calls k 64 t2 t4 _ A4.out ).mono ?_); rintro e w' ⟨rfl, ⟨nd, rfl⟩⟩; (try first | exact qd1_ | exact qd2_)) | (go_at_call 54; (with_reducible refine (bodkinref02_Cut.calls k 64 _ t5 _ A6.out ).mono ?_); rintro e w' ⟨rfl, ⟨nd, rfl⟩⟩; (try first | exact qd1_ | exact qd2_)))
 go_ret2
 exact ⟨rs_, bl_⟩
set_option maxHeartbeats 8000000 in
set_option maxRecDepth 100000 in
theorem bodkinref02_Bin.bin_64_2 (k : Nat) (a2 : Int) (a3 : Int) (r1 : Int) (r2 : Int) (w : World) (h : bodkinref02_Bin.g k 64 2 a2 a3 = some (r1, r2)) (hG : GD w) :
  Calls Tryz.prog 66 #[.int .i64 64, .int .i64 2, .int .u64 a2, .int .u64 a3] w fun e w' => e = .returned (.tuple #[.int .u64 r1, .int .i64 r2]) ∧ Below w.heap.size w w' := by
 have HB := Aside0.mk (Below.refl w.heap.size w)
 have hR : bodkinref02_Right.f 64 = some true := rfl
 unfold bodkinref02_Bin.g at h
 rw [hR, Option.bind_some, if_pos rfl, if_neg (by decide), if_neg (by decide), if_neg (by decide)] at h
 have A5 := Aside0.mk hR
 clear hR
 cases k with
 | zero => cases h
 | succ k =>
 simp only [bodkinref02_Bin.j0] at h
 rw [if_neg (by decide)] at h
 replace h := Option.bind_eq_some_iff.mp h
 obtain ⟨t1, h1, h⟩ := h
 replace h := Option.bind_eq_some_iff.mp h
 obtain ⟨t2, h2, h⟩ := h
 replace h := Option.bind_eq_some_iff.mp h
 obtain ⟨t3, h3, h⟩ := h
 replace h := Option.bind_eq_some_iff.mp h
 obtain ⟨t4, h4, h⟩ := h
 rw [if_neg (by decide)] at h
 simp only [Int.reduceEq, Int.reduceBEq, ↓reduceIte] at h
 have A1 := Aside0.mk h1
 have A2 := Aside0.mk h2
 have A3 := Aside0.mk h3
 have A4 := Aside0.mk h4
 clear h1 h2 h3 h4
 obtain ⟨t5, h5, h⟩ := Option.bind_eq_some_iff.mp h
 simp only [Option.some.injEq, Prod.mk.injEq] at h
 obtain ⟨rfl, rfl⟩ := h
 have A6 := Aside0.mk h5
 clear h5
 go_enter Tryz.func66, Tryz.ntmps66
 go_wp2_with (first | (go_at_call 131; (with_reducible refine (bodkinref02_Right.calls 64 true _ A5.out ).mono ?_); rintro e w' ⟨rfl, ⟨nd, rfl⟩⟩; (try first | exact qd1_ | exact qd2_)) | (go_at_call 54; (with_reducible refine (bodkinref02_Cut.calls k 64 a2 t1 _ A1.out ).mono ?_); rintro e w' ⟨rfl, ⟨nd, rfl⟩⟩; (try first | exact qd1_ | exact qd2_)) | (go_at_call 54; (with_reducible refine (bodkinref02_Cut.calls k 64 a3 t2 _ A2.out ).mono ?_); rintro e w' ⟨rfl, ⟨nd, rfl⟩⟩; (try first | exact qd1_ | exact qd2_)) | (go_at_call 58; (with_reducible refine (bodkinref02_Signed.calls k 64 t1 t3 _ A3.out ).mono ?_); rintro e w' ⟨rfl, ⟨nd, rfl⟩⟩; (try first | exact qd1_ | exact qd2_)) | (go_at_call 58; (with_reducible refine (bodkinref02_Signed.calls k 64 t2 t4 _ A4.out ).mono ?_); rintro e w' ⟨rfl, ⟨nd, rfl⟩⟩; (try first | exact qd1_ | exact qd2_)) | (go_at_call 54; (with_reducible refine (bodkinref02_Cut.calls k 64 _ t5 _ A6.out ).mono ?_); rintro e w' ⟨rfl, ⟨nd, rfl⟩⟩; (try first | exact qd1_ | exact qd2_)))
 go_ret2
 exact ⟨rs_, bl_⟩
set_option maxHeartbeats 8000000 in
set_option maxRecDepth 100000 in
theorem bodkinref02_Bin.bin_64_3 (k : Nat) (a2 : Int) (a3 : Int) (r1 : Int) (r2 : Int) (w : World) (h : bodkinref02_Bin.g k 64 3 a2 a3 = some (r1, r2)) (hG : GD w) :
  Calls Tryz.prog 66 #[.int .i64 64, .int .i64 3, .int .u64 a2, .int .u64 a3] w fun e w' => e = .returned (.tuple #[.int .u64 r1, .int .i64 r2]) ∧ Below w.heap.size w w' := by
 have HB := Aside0.mk (Below.refl w.heap.size w)
 have hR : bodkinref02_Right.f 64 = some true := rfl
 unfold bodkinref02_Bin.g at h
 rw [hR, Option.bind_some, if_pos rfl, if_neg (by decide), if_neg (by decide), if_neg (by decide)] at h
 have A5 := Aside0.mk hR
 clear hR
 cases k with
 | zero => cases h
 | succ k =>
 simp only [bodkinref02_Bin.j0] at h
 rw [if_neg (by decide)] at h
 replace h := Option.bind_eq_some_iff.mp h
 obtain ⟨t1, h1, h⟩ := h
 replace h := Option.bind_eq_some_iff.mp h
 obtain ⟨t2, h2, h⟩ := h
 replace h := Option.bind_eq_some_iff.mp h
 obtain ⟨t3, h3, h⟩ := h
 replace h := Option.bind_eq_some_iff.mp h
 obtain ⟨t4, h4, h⟩ := h
 rw [if_neg (by decide)] at h
 simp only [Int.reduceEq, Int.reduceBEq, ↓reduceIte] at h
 have A1 := Aside0.mk h1
 have A2 := Aside0.mk h2
 have A3 := Aside0.mk h3
 have A4 := Aside0.mk h4
 clear h1 h2 h3 h4
 have H' := Aside0.mk h
 clear h
 go_enter Tryz.func66, Tryz.ntmps66
 go_wp2_with (first | (go_at_call 131; (with_reducible refine (bodkinref02_Right.calls 64 true _ A5.out ).mono ?_); rintro e w' ⟨rfl, ⟨nd, rfl⟩⟩; (try first | exact qd1_ | exact qd2_)) | (go_at_call 54; (with_reducible refine (bodkinref02_Cut.calls k 64 a2 t1 _ A1.out ).mono ?_); rintro e w' ⟨rfl, ⟨nd, rfl⟩⟩; (try first | exact qd1_ | exact qd2_)) | (go_at_call 54; (with_reducible refine (bodkinref02_Cut.calls k 64 a3 t2 _ A2.out ).mono ?_); rintro e w' ⟨rfl, ⟨nd, rfl⟩⟩; (try first | exact qd1_ | exact qd2_)) | (go_at_call 58; (with_reducible refine (bodkinref02_Signed.calls k 64 t1 t3 _ A3.out ).mono ?_); rintro e w' ⟨rfl, ⟨nd, rfl⟩⟩; (try first | exact qd1_ | exact qd2_)) | (go_at_call 58; (with_reducible refine (bodkinref02_Signed.calls k 64 t2 t4 _ A4.out ).mono ?_); rintro e w' ⟨rfl, ⟨nd, rfl⟩⟩; (try first | exact qd1_ | exact qd2_)))
 go_loopg [2, 14, 15] k (fun kq v2 v14 v15 w' => ∃ (x2 : Int) (x14 : Int) (x15 : Int), v2 = .int .u64 x2 ∧ v14 = .int .u64 x14 ∧ v15 = .int .i64 x15 ∧ Aside0 (bodkinref02_Bin.l0 kq 64 x2 t2 x14 x15 = some (r1, r2)) ∧ Aside0 (Below w.heap.size w w'))
 case atStart => exact ⟨t1, 0, 0, rfl, rfl, rfl, H', ⟨bl_⟩⟩
 case round =>
  clear H'
  clear HB
  obtain ⟨x2, x14, x15, rfl, rfl, rfl, HA, HB⟩ := hrel
  cases gk with
  | zero => exact absurd HA.out (by simp [bodkinref02_Bin.l0])
  | succ k4 =>
   have h := HA.out
   clear HA
   simp only [bodkinref02_Bin.l0] at h
   by_cases c : x15 < 64
   ·rw [if_pos c] at h
    replace h := Option.bind_eq_some_iff.mp h
    obtain ⟨t5, h5, h⟩ := h
    have A6 := Aside0.mk h5
    clear h5
    by_cases d : t5 = 1
    ·rw [if_pos d] at h
     subst d
     have H2 := Aside0.mk h
     clear h
     go_wp2_with (first | (go_at_call 132; (with_reducible refine (bodkinref02_bit.calls k4 t2 x15 _ _ A6.out ).mono ?_); rintro e w' ⟨rfl, ⟨nd, rfl⟩⟩; (try first | exact qd1_ | exact qd2_)))
     go_roundg k4
     case measure => omega
     case rel => exact ⟨_, _, _, rfl, rfl, rfl, H2, ⟨bl_⟩⟩
    ·rw [if_neg d] at h
     have d1 : (t5 == 1) = false := beq_eq_false_iff_ne.mpr d
     clear d
     have H2 := Aside0.mk h
     clear h
     go_wp2_with (first | (go_at_call 132; (with_reducible refine (bodkinref02_bit.calls k4 t2 x15 _ _ A6.out ).mono ?_); rintro e w' ⟨rfl, ⟨nd, rfl⟩⟩; (try first | exact qd1_ | exact qd2_)))
     go_roundg k4
     case measure => omega
     case rel => exact ⟨_, _, _, rfl, rfl, rfl, H2, ⟨bl_⟩⟩
   ·rw [if_neg c] at h
    replace h := Option.bind_eq_some_iff.mp h
    obtain ⟨t5, h5, h⟩ := h
    simp only [Option.some.injEq, Prod.mk.injEq] at h
    obtain ⟨rfl, rfl⟩ := h
    have A6 := Aside0.mk h5
    clear h5
    go_wp2_with (first | (go_at_call 54; (with_reducible refine (bodkinref02_Cut.calls k4 64 x14 t5 _ A6.out ).mono ?_); rintro e w' ⟨rfl, ⟨nd, rfl⟩⟩; (try first | exact qd1_ | exact qd2_)))
    go_ret2
    exact ⟨rfl, bl_⟩
set_option maxHeartbeats 8000000 in
set_option maxRecDepth 100000 in
theorem bodkinref02_Bin.bin_64_4 (k : Nat) (a2 : Int) (a3 : Int) (r1 : Int) (r2 : Int) (w : World) (h : bodkinref02_Bin.g k 64 4 a2 a3 = some (r1, r2)) (hG : GD w) :
  Calls Tryz.prog 66 #[.int .i64 64, .int .i64 4, .int .u64 a2, .int .u64 a3] w fun e w' => e = .returned (.tuple #[.int .u64 r1, .int .i64 r2]) ∧ Below w.heap.size w w' := by
 have HB := Aside0.mk (Below.refl w.heap.size w)
 have hR : bodkinref02_Right.f 64 = some true := rfl
 unfold bodkinref02_Bin.g at h
 rw [hR, Option.bind_some, if_pos rfl, if_neg (by decide), if_neg (by decide), if_neg (by decide)] at h
 have A5 := Aside0.mk hR
 clear hR
 cases k with
 | zero => cases h
 | succ k =>
 simp only [bodkinref02_Bin.j0] at h
 rw [if_neg (by decide)] at h
 replace h := Option.bind_eq_some_iff.mp h
 obtain ⟨t1, h1, h⟩ := h
 replace h := Option.bind_eq_some_iff.mp h
 obtain ⟨t2, h2, h⟩ := h
 replace h := Option.bind_eq_some_iff.mp h
 obtain ⟨t3, h3, h⟩ := h
 replace h := Option.bind_eq_some_iff.mp h
 obtain ⟨t4, h4, h⟩ := h
 rw [if_neg (by decide)] at h
 simp only [Int.reduceEq, Int.reduceBEq, ↓reduceIte] at h
 have A1 := Aside0.mk h1
 have A2 := Aside0.mk h2
 have A3 := Aside0.mk h3
 have A4 := Aside0.mk h4
 clear h1 h2 h3 h4
 obtain ⟨k0, hk0⟩ : ∃ k0, k = k0 := ⟨_, rfl⟩
 rw [hk0] at A1 A2 A3 A4
 cases k with
 | zero => cases h
 | succ k =>
 simp only [bodkinref02_Bin.j2, ↓reduceIte] at h
 replace h := Option.bind_eq_some_iff.mp h
 obtain ⟨t5, h5, h⟩ := h
 obtain ⟨s1, s2⟩ := t5
 simp only [Option.some.injEq, Prod.mk.injEq] at h
 obtain ⟨rfl, rfl⟩ := h
 have A6 := Aside0.mk h5
 clear h5 hk0
 go_enter Tryz.func66, Tryz.ntmps66
 go_wp2_with (first | (go_at_call 131; (with_reducible refine (bodkinref02_Right.calls 64 true _ A5.out ).mono ?_); rintro e w' ⟨rfl, ⟨nd, rfl⟩⟩; (try first | exact qd1_ | exact qd2_)) | (go_at_call 54; (with_reducible refine (bodkinref02_Cut.calls k0 64 a2 t1 _ A1.out ).mono ?_); rintro e w' ⟨rfl, ⟨nd, rfl⟩⟩; (try first | exact qd1_ | exact qd2_)) | (go_at_call 54; (with_reducible refine (bodkinref02_Cut.calls k0 64 a3 t2 _ A2.out ).mono ?_); rintro e w' ⟨rfl, ⟨nd, rfl⟩⟩; (try first | exact qd1_ | exact qd2_)) | (go_at_call 58; (with_reducible refine (bodkinref02_Signed.calls k0 64 t1 t3 _ A3.out ).mono ?_); rintro e w' ⟨rfl, ⟨nd, rfl⟩⟩; (try first | exact qd1_ | exact qd2_)) | (go_at_call 58; (with_reducible refine (bodkinref02_Signed.calls k0 64 t2 t4 _ A4.out ).mono ?_); rintro e w' ⟨rfl, ⟨nd, rfl⟩⟩; (try first | exact qd1_ | exact qd2_)) | (go_at_call 152; (with_reducible refine (bodkinref02_divided.calls k 64 4 t1 t2 t3 t4 s1 s2 _ A6.out ).mono ?_); rintro e w1 ⟨rfl, hb⟩; have n1_ := Aside0.mk (below_step bl_ hb); clear HB; have HB := n1_; clear n1_; (try clear hb)))
 go_ret2
 exact ⟨rs_, bl_⟩
set_option maxHeartbeats 8000000 in
set_option maxRecDepth 100000 in
theorem bodkinref02_Bin.bin_64_5 (k : Nat) (a2 : Int) (a3 : Int) (r1 : Int) (r2 : Int) (w : World) (h : bodkinref02_Bin.g k 64 5 a2 a3 = some (r1, r2)) (hG : GD w) :
  Calls Tryz.prog 66 #[.int .i64 64, .int .i64 5, .int .u64 a2, .int .u64 a3] w fun e w' => e = .returned (.tuple #[.int .u64 r1, .int .i64 r2]) ∧ Below w.heap.size w w' := by
 have HB := Aside0.mk (Below.refl w.heap.size w)
 have hR : bodkinref02_Right.f 64 = some true := rfl
 unfold bodkinref02_Bin.g at h
 rw [hR, Option.bind_some, if_pos rfl, if_neg (by decide), if_neg (by decide), if_neg (by decide)] at h
 have A5 := Aside0.mk hR
 clear hR
 cases k with
 | zero => cases h
 | succ k =>
 simp only [bodkinref02_Bin.j0] at h
 rw [if_neg (by decide)] at h
 replace h := Option.bind_eq_some_iff.mp h
 obtain ⟨t1, h1, h⟩ := h
 replace h := Option.bind_eq_some_iff.mp h
 obtain ⟨t2, h2, h⟩ := h
 replace h := Option.bind_eq_some_iff.mp h
 obtain ⟨t3, h3, h⟩ := h
 replace h := Option.bind_eq_some_iff.mp h
 obtain ⟨t4, h4, h⟩ := h
 rw [if_neg (by decide)] at h
 simp only [Int.reduceEq, Int.reduceBEq, ↓reduceIte] at h
 have A1 := Aside0.mk h1
 have A2 := Aside0.mk h2
 have A3 := Aside0.mk h3
 have A4 := Aside0.mk h4
 clear h1 h2 h3 h4
 obtain ⟨k0, hk0⟩ : ∃ k0, k = k0 := ⟨_, rfl⟩
 rw [hk0] at A1 A2 A3 A4
 cases k with
 | zero => cases h
 | succ k =>
 simp only [bodkinref02_Bin.j2, ↓reduceIte] at h
 replace h := Option.bind_eq_some_iff.mp h
 obtain ⟨t5, h5, h⟩ := h
 obtain ⟨s1, s2⟩ := t5
 simp only [Option.some.injEq, Prod.mk.injEq] at h
 obtain ⟨rfl, rfl⟩ := h
 have A6 := Aside0.mk h5
 clear h5 hk0
 go_enter Tryz.func66, Tryz.ntmps66
 go_wp2_with (first | (go_at_call 131; (with_reducible refine (bodkinref02_Right.calls 64 true _ A5.out ).mono ?_); rintro e w' ⟨rfl, ⟨nd, rfl⟩⟩; (try first | exact qd1_ | exact qd2_)) | (go_at_call 54; (with_reducible refine (bodkinref02_Cut.calls k0 64 a2 t1 _ A1.out ).mono ?_); rintro e w' ⟨rfl, ⟨nd, rfl⟩⟩; (try first | exact qd1_ | exact qd2_)) | (go_at_call 54; (with_reducible refine (bodkinref02_Cut.calls k0 64 a3 t2 _ A2.out ).mono ?_); rintro e w' ⟨rfl, ⟨nd, rfl⟩⟩; (try first | exact qd1_ | exact qd2_)) | (go_at_call 58; (with_reducible refine (bodkinref02_Signed.calls k0 64 t1 t3 _ A3.out ).mono ?_); rintro e w' ⟨rfl, ⟨nd, rfl⟩⟩; (try first | exact qd1_ | exact qd2_)) | (go_at_call 58; (with_reducible refine (bodkinref02_Signed.calls k0 64 t2 t4 _ A4.out ).mono ?_); rintro e w' ⟨rfl, ⟨nd, rfl⟩⟩; (try first | exact qd1_ | exact qd2_)) | (go_at_call 152; (with_reducible refine (bodkinref02_divided.calls k 64 5 t1 t2 t3 t4 s1 s2 _ A6.out ).mono ?_); rintro e w1 ⟨rfl, hb⟩; have n1_ := Aside0.mk (below_step bl_ hb); clear HB; have HB := n1_; clear n1_; (try clear hb)))
 go_ret2
 exact ⟨rs_, bl_⟩
set_option maxHeartbeats 8000000 in
set_option maxRecDepth 100000 in
theorem bodkinref02_Bin.bin_64_6 (k : Nat) (a2 : Int) (a3 : Int) (r1 : Int) (r2 : Int) (w : World) (h : bodkinref02_Bin.g k 64 6 a2 a3 = some (r1, r2)) (hG : GD w) :
  Calls Tryz.prog 66 #[.int .i64 64, .int .i64 6, .int .u64 a2, .int .u64 a3] w fun e w' => e = .returned (.tuple #[.int .u64 r1, .int .i64 r2]) ∧ Below w.heap.size w w' := by
 have HB := Aside0.mk (Below.refl w.heap.size w)
 have hR : bodkinref02_Right.f 64 = some true := rfl
 unfold bodkinref02_Bin.g at h
 rw [hR, Option.bind_some, if_pos rfl, if_neg (by decide), if_neg (by decide), if_neg (by decide)] at h
 have A5 := Aside0.mk hR
 clear hR
 cases k with
 | zero => cases h
 | succ k =>
 simp only [bodkinref02_Bin.j0] at h
 rw [if_neg (by decide)] at h
 replace h := Option.bind_eq_some_iff.mp h
 obtain ⟨t1, h1, h⟩ := h
 replace h := Option.bind_eq_some_iff.mp h
 obtain ⟨t2, h2, h⟩ := h
 replace h := Option.bind_eq_some_iff.mp h
 obtain ⟨t3, h3, h⟩ := h
 replace h := Option.bind_eq_some_iff.mp h
 obtain ⟨t4, h4, h⟩ := h
 rw [if_neg (by decide)] at h
 simp only [Int.reduceEq, Int.reduceBEq, ↓reduceIte] at h
 have A1 := Aside0.mk h1
 have A2 := Aside0.mk h2
 have A3 := Aside0.mk h3
 have A4 := Aside0.mk h4
 clear h1 h2 h3 h4
 obtain ⟨k0, hk0⟩ : ∃ k0, k = k0 := ⟨_, rfl⟩
 rw [hk0] at A1 A2 A3 A4
 cases k with
 | zero => cases h
 | succ k =>
 simp only [bodkinref02_Bin.j2, ↓reduceIte] at h
 replace h := Option.bind_eq_some_iff.mp h
 obtain ⟨t5, h5, h⟩ := h
 obtain ⟨s1, s2⟩ := t5
 simp only [Option.some.injEq, Prod.mk.injEq] at h
 obtain ⟨rfl, rfl⟩ := h
 have A6 := Aside0.mk h5
 clear h5 hk0
 go_enter Tryz.func66, Tryz.ntmps66
 go_wp2_with (first | (go_at_call 131; (with_reducible refine (bodkinref02_Right.calls 64 true _ A5.out ).mono ?_); rintro e w' ⟨rfl, ⟨nd, rfl⟩⟩; (try first | exact qd1_ | exact qd2_)) | (go_at_call 54; (with_reducible refine (bodkinref02_Cut.calls k0 64 a2 t1 _ A1.out ).mono ?_); rintro e w' ⟨rfl, ⟨nd, rfl⟩⟩; (try first | exact qd1_ | exact qd2_)) | (go_at_call 54; (with_reducible refine (bodkinref02_Cut.calls k0 64 a3 t2 _ A2.out ).mono ?_); rintro e w' ⟨rfl, ⟨nd, rfl⟩⟩; (try first | exact qd1_ | exact qd2_)) | (go_at_call 58; (with_reducible refine (bodkinref02_Signed.calls k0 64 t1 t3 _ A3.out ).mono ?_); rintro e w' ⟨rfl, ⟨nd, rfl⟩⟩; (try first | exact qd1_ | exact qd2_)) | (go_at_call 58; (with_reducible refine (bodkinref02_Signed.calls k0 64 t2 t4 _ A4.out ).mono ?_); rintro e w' ⟨rfl, ⟨nd, rfl⟩⟩; (try first | exact qd1_ | exact qd2_)) | (go_at_call 152; (with_reducible refine (bodkinref02_divided.calls k 64 6 t1 t2 t3 t4 s1 s2 _ A6.out ).mono ?_); rintro e w1 ⟨rfl, hb⟩; have n1_ := Aside0.mk (below_step bl_ hb); clear HB; have HB := n1_; clear n1_; (try clear hb)))
 go_ret2
 exact ⟨rs_, bl_⟩
set_option maxHeartbeats 8000000 in
set_option maxRecDepth 100000 in
theorem bodkinref02_Bin.bin_64_7 (k : Nat) (a2 : Int) (a3 : Int) (r1 : Int) (r2 : Int) (w : World) (h : bodkinref02_Bin.g k 64 7 a2 a3 = some (r1, r2)) (hG : GD w) :
  Calls Tryz.prog 66 #[.int .i64 64, .int .i64 7, .int .u64 a2, .int .u64 a3] w fun e w' => e = .returned (.tuple #[.int .u64 r1, .int .i64 r2]) ∧ Below w.heap.size w w' := by
 have HB := Aside0.mk (Below.refl w.heap.size w)
 have hR : bodkinref02_Right.f 64 = some true := rfl
 unfold bodkinref02_Bin.g at h
 rw [hR, Option.bind_some, if_pos rfl, if_neg (by decide), if_neg (by decide), if_neg (by decide)] at h
 have A5 := Aside0.mk hR
 clear hR
 cases k with
 | zero => cases h
 | succ k =>
 simp only [bodkinref02_Bin.j0] at h
 rw [if_neg (by decide)] at h
 replace h := Option.bind_eq_some_iff.mp h
 obtain ⟨t1, h1, h⟩ := h
 replace h := Option.bind_eq_some_iff.mp h
 obtain ⟨t2, h2, h⟩ := h
 replace h := Option.bind_eq_some_iff.mp h
 obtain ⟨t3, h3, h⟩ := h
 replace h := Option.bind_eq_some_iff.mp h
 obtain ⟨t4, h4, h⟩ := h
 rw [if_neg (by decide)] at h
 simp only [Int.reduceEq, Int.reduceBEq, ↓reduceIte] at h
 have A1 := Aside0.mk h1
 have A2 := Aside0.mk h2
 have A3 := Aside0.mk h3
 have A4 := Aside0.mk h4
 clear h1 h2 h3 h4
 obtain ⟨k0, hk0⟩ : ∃ k0, k = k0 := ⟨_, rfl⟩
 rw [hk0] at A1 A2 A3 A4
 cases k with
 | zero => cases h
 | succ k =>
 simp only [bodkinref02_Bin.j2, ↓reduceIte] at h
 replace h := Option.bind_eq_some_iff.mp h
 obtain ⟨t5, h5, h⟩ := h
 obtain ⟨s1, s2⟩ := t5
 simp only [Option.some.injEq, Prod.mk.injEq] at h
 obtain ⟨rfl, rfl⟩ := h
 have A6 := Aside0.mk h5
 clear h5 hk0
 go_enter Tryz.func66, Tryz.ntmps66
 go_wp2_with (first | (go_at_call 131; (with_reducible refine (bodkinref02_Right.calls 64 true _ A5.out ).mono ?_); rintro e w' ⟨rfl, ⟨nd, rfl⟩⟩; (try first | exact qd1_ | exact qd2_)) | (go_at_call 54; (with_reducible refine (bodkinref02_Cut.calls k0 64 a2 t1 _ A1.out ).mono ?_); rintro e w' ⟨rfl, ⟨nd, rfl⟩⟩; (try first | exact qd1_ | exact qd2_)) | (go_at_call 54; (with_reducible refine (bodkinref02_Cut.calls k0 64 a3 t2 _ A2.out ).mono ?_); rintro e w' ⟨rfl, ⟨nd, rfl⟩⟩; (try first | exact qd1_ | exact qd2_)) | (go_at_call 58; (with_reducible refine (bodkinref02_Signed.calls k0 64 t1 t3 _ A3.out ).mono ?_); rintro e w' ⟨rfl, ⟨nd, rfl⟩⟩; (try first | exact qd1_ | exact qd2_)) | (go_at_call 58; (with_reducible refine (bodkinref02_Signed.calls k0 64 t2 t4 _ A4.out ).mono ?_); rintro e w' ⟨rfl, ⟨nd, rfl⟩⟩; (try first | exact qd1_ | exact qd2_)) | (go_at_call 152; (with_reducible refine (bodkinref02_divided.calls k 64 7 t1 t2 t3 t4 s1 s2 _ A6.out ).mono ?_); rintro e w1 ⟨rfl, hb⟩; have n1_ := Aside0.mk (below_step bl_ hb); clear HB; have HB := n1_; clear n1_; (try clear hb)))
 go_ret2
 exact ⟨rs_, bl_⟩
set_option maxHeartbeats 8000000 in
set_option maxRecDepth 100000 in
theorem bodkinref02_Bin.bin_64_8 (k : Nat) (a2 : Int) (a3 : Int) (r1 : Int) (r2 : Int) (w : World) (h : bodkinref02_Bin.g k 64 8 a2 a3 = some (r1, r2)) (hG : GD w) :
  Calls Tryz.prog 66 #[.int .i64 64, .int .i64 8, .int .u64 a2, .int .u64 a3] w fun e w' => e = .returned (.tuple #[.int .u64 r1, .int .i64 r2]) ∧ Below w.heap.size w w' := by
 have HB := Aside0.mk (Below.refl w.heap.size w)
 have hR : bodkinref02_Right.f 64 = some true := rfl
 unfold bodkinref02_Bin.g at h
 rw [hR, Option.bind_some, if_pos rfl, if_neg (by decide), if_neg (by decide), if_neg (by decide)] at h
 have A5 := Aside0.mk hR
 clear hR
 cases k with
 | zero => cases h
 | succ k =>
 simp only [bodkinref02_Bin.j0] at h
 rw [if_neg (by decide)] at h
 replace h := Option.bind_eq_some_iff.mp h
 obtain ⟨t1, h1, h⟩ := h
 replace h := Option.bind_eq_some_iff.mp h
 obtain ⟨t2, h2, h⟩ := h
 replace h := Option.bind_eq_some_iff.mp h
 obtain ⟨t3, h3, h⟩ := h
 replace h := Option.bind_eq_some_iff.mp h
 obtain ⟨t4, h4, h⟩ := h
 rw [if_neg (by decide)] at h
 simp only [Int.reduceEq, Int.reduceBEq, ↓reduceIte] at h
 have A1 := Aside0.mk h1
 have A2 := Aside0.mk h2
 have A3 := Aside0.mk h3
 have A4 := Aside0.mk h4
 clear h1 h2 h3 h4
 obtain ⟨k0, hk0⟩ : ∃ k0, k = k0 := ⟨_, rfl⟩
 rw [hk0] at A1 A2 A3 A4
 cases k with
 | zero => cases h
 | succ k =>
 simp only [bodkinref02_Bin.j2, Int.reduceEq, Int.reduceBEq, ↓reduceIte, Bool.false_eq_true] at h
 cases k with
 | zero => cases h
 | succ k =>
 simp only [bodkinref02_Bin.j3, ↓reduceIte] at h
 replace h := Option.bind_eq_some_iff.mp h
 obtain ⟨la, h5, h⟩ := h
 replace h := Option.bind_eq_some_iff.mp h
 obtain ⟨lb, h6, h⟩ := h
 have A6 := Aside0.mk h5
 have A7 := Aside0.mk h6
 have H' := Aside0.mk h
 clear h5 h6 hk0 h
 go_enter Tryz.func66, Tryz.ntmps66
 go_wp2_with (first | (go_at_call 131; (with_reducible refine (bodkinref02_Right.calls 64 true _ A5.out ).mono ?_); rintro e w' ⟨rfl, ⟨nd, rfl⟩⟩; (try first | exact qd1_ | exact qd2_)) | (go_at_call 54; (with_reducible refine (bodkinref02_Cut.calls k0 64 a2 t1 _ A1.out ).mono ?_); rintro e w' ⟨rfl, ⟨nd, rfl⟩⟩; (try first | exact qd1_ | exact qd2_)) | (go_at_call 54; (with_reducible refine (bodkinref02_Cut.calls k0 64 a3 t2 _ A2.out ).mono ?_); rintro e w' ⟨rfl, ⟨nd, rfl⟩⟩; (try first | exact qd1_ | exact qd2_)) | (go_at_call 58; (with_reducible refine (bodkinref02_Signed.calls k0 64 t1 t3 _ A3.out ).mono ?_); rintro e w' ⟨rfl, ⟨nd, rfl⟩⟩; (try first | exact qd1_ | exact qd2_)) | (go_at_call 58; (with_reducible refine (bodkinref02_Signed.calls k0 64 t2 t4 _ A4.out ).mono ?_); rintro e w' ⟨rfl, ⟨nd, rfl⟩⟩; (try first | exact qd1_ | exact qd2_)) | (go_at_call 150; (with_reducible refine (bodkinref02_list.calls k 64 t1 la _ A6.out ).mono ?_); rintro e w39 ⟨v375, rfl, ho0, hb⟩; have n0_ := Aside0.mk (Kd.R_lower ho0 (below_size bl_)); have n1_ := Aside0.mk (below_step bl_ hb); clear HB; have HO376 := n0_; have HB := n1_; clear n0_ n1_; (try clear hb); (try clear ho0)) | (go_at_call 150; (with_reducible refine (bodkinref02_list.calls k 64 t2 lb _ A7.out ).mono ?_); rintro e w40 ⟨v378, rfl, ho0, hb⟩; have n0_ := Aside0.mk (Kd.R_elder' (by (with_reducible repeat (first | apply Kd.R_alloc | apply Kd.R_drewN | apply Kd.R_drew)); exact HO376.out) (Kd.R_base ho0) hb); have n1_ := Aside0.mk (Kd.R_lower (Kd.R_new' ho0 (Kd.R_lt (by (with_reducible repeat (first | apply Kd.R_alloc | apply Kd.R_drewN | apply Kd.R_drew)); exact HO376.out))) (below_size bl_)); have n2_ := Aside0.mk (below_step bl_ hb); clear HO376; clear HB; have HO376 := n0_; have HO379 := n1_; have HB := n2_; clear n0_ n1_ n2_; (try clear hb); (try clear ho0)))
 go_loopg [18] k (fun kq v18 w' => ∃ (xl : List Int) (xi : Int), v18 = .int .i64 xi ∧ Aside0 (bodkinref02_Bin.l1 kq 64 8 xl lb xi = some (r1, r2)) ∧ Aside0 (Kd.R (Kd.int .u64) 22 w' w.heap.size (fun k_ => some k_ ≠ (v378 : Value).ownBlock) v375 xl) ∧ Aside0 (Kd.R (Kd.int .u64) 22 w' w.heap.size (fun k_ => some k_ ≠ (v375 : Value).ownBlock) v378 lb) ∧ Aside0 (Below w.heap.size w w'))
 case atStart => exact ⟨la, 0, rfl, H', ⟨by (with_reducible repeat (first | apply Kd.R_alloc | apply Kd.R_drewN | apply Kd.R_drew)); exact Kd.R_mono HO376.out (fun _ hk => hk.2)⟩, ⟨by (with_reducible repeat (first | apply Kd.R_alloc | apply Kd.R_drewN | apply Kd.R_drew)); exact Kd.R_mono HO379.out (fun _ hk => hk.2)⟩, ⟨bl_⟩⟩
 case round =>
  clear H' HB HO376 HO379
  obtain ⟨xl, xi, rfl, HA, HO, HP, HB⟩ := hrel
  cases gk with
  | zero => exact absurd HA.out (by simp [bodkinref02_Bin.l1])
  | succ k4 =>
   have h := HA.out
   clear HA
   simp only [bodkinref02_Bin.l1] at h
   by_cases c : xi < 64
   ·rw [if_pos c] at h
    have c1 : 0 ≤ xi := Classical.byContradiction fun hc => by rw [if_neg hc] at h; cases h
    rw [if_pos c1] at h
    have c2 : xi < (xl.length : Int) := Classical.byContradiction fun hc => by rw [if_neg hc] at h; cases h
    rw [if_pos c2] at h
    have c3 : xi < (lb.length : Int) := Classical.byContradiction fun hc => by rw [if_neg hc] at h; cases h
    rw [if_pos c3, Option.bind_some] at h
    simp only [Int.reduceEq, ↓reduceIte] at h
    obtain ⟨s, hs⟩ : ∃ s, IntKind.u64.wrap (rd xl xi + rd lb xi) = s := ⟨_, rfl⟩
    rw [hs] at h
    obtain ⟨go, co, eo, gb, gl, cl, HGo⟩ := Kd.R_form HO.out (by omega)
    subst eo
    obtain ⟨A2_, c2_, e2_⟩ := Kd.R_slice HP.out
    subst e2_
    obtain ⟨ad, e380, hx0⟩ := Kd.at_int (Kd.R_reads' HO.out).2.2 xi c1 c2
    cases e380
    obtain ⟨ad2, e381, hx1⟩ := Kd.at_int (Kd.R_reads' HP.out).2.2 xi c1 c3
    cases e381
    obtain ⟨hx2, hf2⟩ := Kd.R_celln 0 HO.out xi c1 c2
    have GB := Aside0.mk gb
    clear gb gl cl HGo
    simp only [add_plain] at hx0
    replace c1 := eq_true c1
    replace c2 := eq_true c2
    replace c3 := eq_true c3
    clear hx2
    have VL : (Value.slice (some ⟨go, 0, none⟩) xl.length co).ownBlock = some go := rfl
    by_cases d : s = 2
    ·rw [if_pos d] at h
     have d1 : (s == 2) = true := beq_iff_eq.mpr d
     clear d
     have H2 := Aside0.mk h
     clear h VL
     go_wp2
     go_quiet (fail)
     go_wp2
     go_roundg k4
     case measure => omega
     case rel =>
      have p1 := Kd.R_putg (Kd.R_drewN HO.out nq) xi 0
      have p2 := Kd.R_putg p1.1 xi 1
      have q1 := Kd.R_after (v := .slice (some ⟨go, 0, none⟩) xl.length co) (v1 := .slice (some ⟨go, 0, none⟩) xl.length co) (ok := fun _ => True) (Kd.R_mono (Kd.R_drewN HP.out nq) (fun _ hk => ⟨trivial, hk⟩)) p1.2 (.inl rfl)
      have q2 := Kd.R_after (v := .slice (some ⟨go, 0, none⟩) xl.length co) (v1 := .slice (some ⟨go, 0, none⟩) xl.length co) (ok := fun _ => True) (Kd.R_mono q1 (fun _ hk => ⟨trivial, hk.2⟩)) p2.2 (.inl rfl)
      exact ⟨_, _, rfl, H2, ⟨p2.1⟩, ⟨Kd.R_mono q2 (fun _ hk => hk.2)⟩, ⟨below_set (below_set (pw_below_drewN HB.out nq) GB.out) GB.out⟩⟩
    ·rw [if_neg d] at h
     have d1 : (s == 2) = false := beq_eq_false_iff_ne.mpr d
     clear d
     have H2 := Aside0.mk h
     clear h VL
     go_wp2
     go_quiet (fail)
     go_wp2
     go_roundg k4
     case measure => omega
     case rel =>
      have p1 := Kd.R_putg (Kd.R_drewN HO.out nq) xi 0
      have q1 := Kd.R_after (v := .slice (some ⟨go, 0, none⟩) xl.length co) (v1 := .slice (some ⟨go, 0, none⟩) xl.length co) (ok := fun _ => True) (Kd.R_mono (Kd.R_drewN HP.out nq) (fun _ hk => ⟨trivial, hk⟩)) p1.2 (.inl rfl)
      exact ⟨_, _, rfl, H2, ⟨p1.1⟩, ⟨Kd.R_mono q1 (fun _ hk => hk.2)⟩, ⟨below_set (pw_below_drewN HB.out nq) GB.out⟩⟩
   ·rw [if_neg c] at h
    replace h := Option.bind_eq_some_iff.mp h
    obtain ⟨t5, h5, h⟩ := h
    simp only [Option.some.injEq, Prod.mk.injEq] at h
    obtain ⟨rfl, rfl⟩ := h
    have A8 := Aside0.mk h5
    clear h5
    obtain ⟨A3_, c3_, e3_, hl3, hr3⟩ := Kd.R_reads HO.out
    subst e3_
    go_wp2_with (first | (go_at_call 151; (with_reducible refine (bodkinref02_of.calls k4 A3_ c3_ xl t5 _ hr3 hl3 A8.out ).mono ?_); rintro e w' ⟨rfl, ⟨nd, rfl⟩⟩))
    go_ret2
    exact ⟨rfl, bl_⟩
set_option maxHeartbeats 8000000 in
set_option maxRecDepth 100000 in
theorem bodkinref02_Bin.bin_64_9 (k : Nat) (a2 : Int) (a3 : Int) (r1 : Int) (r2 : Int) (w : World) (h : bodkinref02_Bin.g k 64 9 a2 a3 = some (r1, r2)) (hG : GD w) :
  Calls Tryz.prog 66 #[.int .i64 64, .int .i64 9, .int .u64 a2, .int .u64 a3] w fun e w' => e = .returned (.tuple #[.int .u64 r1, .int .i64 r2]) ∧ Below w.heap.size w w' := by
 have HB := Aside0.mk (Below.refl w.heap.size w)
 have hR : bodkinref02_Right.f 64 = some true := rfl
 unfold bodkinref02_Bin.g at h
 rw [hR, Option.bind_some, if_pos rfl, if_neg (by decide), if_neg (by decide), if_neg (by decide)] at h
 have A5 := Aside0.mk hR
 clear hR
 cases k with
 | zero => cases h
 | succ k =>
 simp only [bodkinref02_Bin.j0] at h
 rw [if_neg (by decide)] at h
 replace h := Option.bind_eq_some_iff.mp h
 obtain ⟨t1, h1, h⟩ := h
 replace h := Option.bind_eq_some_iff.mp h
 obtain ⟨t2, h2, h⟩ := h
 replace h := Option.bind_eq_some_iff.mp h
 obtain ⟨t3, h3, h⟩ := h
 replace h := Option.bind_eq_some_iff.mp h
 obtain ⟨t4, h4, h⟩ := h
 rw [if_neg (by decide)] at h
 simp only [Int.reduceEq, Int.reduceBEq, ↓reduceIte] at h
 have A1 := Aside0.mk h1
 have A2 := Aside0.mk h2
 have A3 := Aside0.mk h3
 have A4 := Aside0.mk h4
 clear h1 h2 h3 h4
 obtain ⟨k0, hk0⟩ : ∃ k0, k = k0 := ⟨_, rfl⟩
 rw [hk0] at A1 A2 A3 A4
 cases k with
 | zero => cases h
 | succ k =>
 simp only [bodkinref02_Bin.j2, Int.reduceEq, Int.reduceBEq, ↓reduceIte, Bool.false_eq_true] at h
 cases k with
 | zero => cases h
 | succ k =>
 simp only [bodkinref02_Bin.j3, ↓reduceIte] at h
 replace h := Option.bind_eq_some_iff.mp h
 obtain ⟨la, h5, h⟩ := h
 replace h := Option.bind_eq_some_iff.mp h
 obtain ⟨lb, h6, h⟩ := h
 have A6 := Aside0.mk h5
 have A7 := Aside0.mk h6
 have H' := Aside0.mk h
 clear h5 h6 hk0 h
 go_enter Tryz.func66, Tryz.ntmps66
 go_wp2_with (first | (go_at_call 131; (with_reducible refine (bodkinref02_Right.calls 64 true _ A5.out ).mono ?_); rintro e w' ⟨rfl, ⟨nd, rfl⟩⟩; (try first | exact qd1_ | exact qd2_)) | (go_at_call 54; (with_reducible refine (bodkinref02_Cut.calls k0 64 a2 t1 _ A1.out ).mono ?_); rintro e w' ⟨rfl, ⟨nd, rfl⟩⟩; (try first | exact qd1_ | exact qd2_)) | (go_at_call 54; (with_reducible refine (bodkinref02_Cut.calls k0 64 a3 t2 _ A2.out ).mono ?_); rintro e w' ⟨rfl, ⟨nd, rfl⟩⟩; (try first | exact qd1_ | exact qd2_)) | (go_at_call 58; (with_reducible refine (bodkinref02_Signed.calls k0 64 t1 t3 _ A3.out ).mono ?_); rintro e w' ⟨rfl, ⟨nd, rfl⟩⟩; (try first | exact qd1_ | exact qd2_)) | (go_at_call 58; (with_reducible refine (bodkinref02_Signed.calls k0 64 t2 t4 _ A4.out ).mono ?_); rintro e w' ⟨rfl, ⟨nd, rfl⟩⟩; (try first | exact qd1_ | exact qd2_)) | (go_at_call 150; (with_reducible refine (bodkinref02_list.calls k 64 t1 la _ A6.out ).mono ?_); rintro e w39 ⟨v375, rfl, ho0, hb⟩; have n0_ := Aside0.mk (Kd.R_lower ho0 (below_size bl_)); have n1_ := Aside0.mk (below_step bl_ hb); clear HB; have HO376 := n0_; have HB := n1_; clear n0_ n1_; (try clear hb); (try clear ho0)) | (go_at_call 150; (with_reducible refine (bodkinref02_list.calls k 64 t2 lb _ A7.out ).mono ?_); rintro e w40 ⟨v378, rfl, ho0, hb⟩; have n0_ := Aside0.mk (Kd.R_elder' (by (with_reducible repeat (first | apply Kd.R_alloc | apply Kd.R_drewN | apply Kd.R_drew)); exact HO376.out) (Kd.R_base ho0) hb); have n1_ := Aside0.mk (Kd.R_lower (Kd.R_new' ho0 (Kd.R_lt (by (with_reducible repeat (first | apply Kd.R_alloc | apply Kd.R_drewN | apply Kd.R_drew)); exact HO376.out))) (below_size bl_)); have n2_ := Aside0.mk (below_step bl_ hb); clear HO376; clear HB; have HO376 := n0_; have HO379 := n1_; have HB := n2_; clear n0_ n1_ n2_; (try clear hb); (try clear ho0)))
 go_loopg [18] k (fun kq v18 w' => ∃ (xl : List Int) (xi : Int), v18 = .int .i64 xi ∧ Aside0 (bodkinref02_Bin.l1 kq 64 9 xl lb xi = some (r1, r2)) ∧ Aside0 (Kd.R (Kd.int .u64) 22 w' w.heap.size (fun k_ => some k_ ≠ (v378 : Value).ownBlock) v375 xl) ∧ Aside0 (Kd.R (Kd.int .u64) 22 w' w.heap.size (fun k_ => some k_ ≠ (v375 : Value).ownBlock) v378 lb) ∧ Aside0 (Below w.heap.size w w'))
 case atStart => exact ⟨la, 0, rfl, H', ⟨by (with_reducible repeat (first | apply Kd.R_alloc | apply Kd.R_drewN | apply Kd.R_drew)); exact Kd.R_mono HO376.out (fun _ hk => hk.2)⟩, ⟨by (with_reducible repeat (first | apply Kd.R_alloc | apply Kd.R_drewN | apply Kd.R_drew)); exact Kd.R_mono HO379.out (fun _ hk => hk.2)⟩, ⟨bl_⟩⟩
 case round =>
  clear H' HB HO376 HO379
  obtain ⟨xl, xi, rfl, HA, HO, HP, HB⟩ := hrel
  cases gk with
  | zero => exact absurd HA.out (by simp [bodkinref02_Bin.l1])
  | succ k4 =>
   have h := HA.out
   clear HA
   simp only [bodkinref02_Bin.l1] at h
   by_cases c : xi < 64
   ·rw [if_pos c] at h
    have c1 : 0 ≤ xi := Classical.byContradiction fun hc => by rw [if_neg hc] at h; cases h
    rw [if_pos c1] at h
    have c2 : xi < (xl.length : Int) := Classical.byContradiction fun hc => by rw [if_neg hc] at h; cases h
    rw [if_pos c2] at h
    have c3 : xi < (lb.length : Int) := Classical.byContradiction fun hc => by rw [if_neg hc] at h; cases h
    rw [if_pos c3, Option.bind_some] at h
    simp only [Int.reduceEq, ↓reduceIte] at h
    obtain ⟨s, hs⟩ : ∃ s, IntKind.u64.wrap (rd xl xi + rd lb xi) = s := ⟨_, rfl⟩
    rw [hs] at h
    obtain ⟨go, co, eo, gb, gl, cl, HGo⟩ := Kd.R_form HO.out (by omega)
    subst eo
    obtain ⟨A2_, c2_, e2_⟩ := Kd.R_slice HP.out
    subst e2_
    obtain ⟨ad, e380, hx0⟩ := Kd.at_int (Kd.R_reads' HO.out).2.2 xi c1 c2
    cases e380
    obtain ⟨ad2, e381, hx1⟩ := Kd.at_int (Kd.R_reads' HP.out).2.2 xi c1 c3
    cases e381
    obtain ⟨hx2, hf2⟩ := Kd.R_celln 0 HO.out xi c1 c2
    have GB := Aside0.mk gb
    clear gb gl cl HGo
    simp only [add_plain] at hx0
    replace c1 := eq_true c1
    replace c2 := eq_true c2
    replace c3 := eq_true c3
    clear hx2
    have VL : (Value.slice (some ⟨go, 0, none⟩) xl.length co).ownBlock = some go := rfl
    by_cases d : s > 0
    ·rw [if_pos d] at h
     have d1 : decide (0 < s) = true := decide_eq_true d
     clear d
     have H2 := Aside0.mk h
     clear h VL
     go_wp2
     go_quiet (fail)
     go_wp2
     go_roundg k4
     case measure => omega
     case rel =>
      have p1 := Kd.R_putg (Kd.R_drewN HO.out nq) xi 0
      have p2 := Kd.R_putg p1.1 xi 1
      have q1 := Kd.R_after (v := .slice (some ⟨go, 0, none⟩) xl.length co) (v1 := .slice (some ⟨go, 0, none⟩) xl.length co) (ok := fun _ => True) (Kd.R_mono (Kd.R_drewN HP.out nq) (fun _ hk => ⟨trivial, hk⟩)) p1.2 (.inl rfl)
      have q2 := Kd.R_after (v := .slice (some ⟨go, 0, none⟩) xl.length co) (v1 := .slice (some ⟨go, 0, none⟩) xl.length co) (ok := fun _ => True) (Kd.R_mono q1 (fun _ hk => ⟨trivial, hk.2⟩)) p2.2 (.inl rfl)
      exact ⟨_, _, rfl, H2, ⟨p2.1⟩, ⟨Kd.R_mono q2 (fun _ hk => hk.2)⟩, ⟨below_set (below_set (pw_below_drewN HB.out nq) GB.out) GB.out⟩⟩
    ·rw [if_neg d] at h
     have d1 : decide (0 < s) = false := decide_eq_false d
     clear d
     have H2 := Aside0.mk h
     clear h VL
     go_wp2
     go_quiet (fail)
     go_wp2
     go_roundg k4
     case measure => omega
     case rel =>
      have p1 := Kd.R_putg (Kd.R_drewN HO.out nq) xi 0
      have q1 := Kd.R_after (v := .slice (some ⟨go, 0, none⟩) xl.length co) (v1 := .slice (some ⟨go, 0, none⟩) xl.length co) (ok := fun _ => True) (Kd.R_mono (Kd.R_drewN HP.out nq) (fun _ hk => ⟨trivial, hk⟩)) p1.2 (.inl rfl)
      exact ⟨_, _, rfl, H2, ⟨p1.1⟩, ⟨Kd.R_mono q1 (fun _ hk => hk.2)⟩, ⟨below_set (pw_below_drewN HB.out nq) GB.out⟩⟩
   ·rw [if_neg c] at h
    replace h := Option.bind_eq_some_iff.mp h
    obtain ⟨t5, h5, h⟩ := h
    simp only [Option.some.injEq, Prod.mk.injEq] at h
    obtain ⟨rfl, rfl⟩ := h
    have A8 := Aside0.mk h5
    clear h5
    obtain ⟨A3_, c3_, e3_, hl3, hr3⟩ := Kd.R_reads HO.out
    subst e3_
    go_wp2_with (first | (go_at_call 151; (with_reducible refine (bodkinref02_of.calls k4 A3_ c3_ xl t5 _ hr3 hl3 A8.out ).mono ?_); rintro e w' ⟨rfl, ⟨nd, rfl⟩⟩))
    go_ret2
    exact ⟨rfl, bl_⟩
set_option maxHeartbeats 8000000 in
set_option maxRecDepth 100000 in
theorem bodkinref02_Bin.bin_64_10 (k : Nat) (a2 : Int) (a3 : Int) (r1 : Int) (r2 : Int) (w : World) (h : bodkinref02_Bin.g k 64 10 a2 a3 = some (r1, r2)) (hG : GD w) :
  Calls Tryz.prog 66 #[.int .i64 64, .int .i64 10, .int .u64 a2, .int .u64 a3] w fun e w' => e = .returned (.tuple #[.int .u64 r1, .int .i64 r2]) ∧ Below w.heap.size w w' := by
 have HB := Aside0.mk (Below.refl w.heap.size w)
 have hR : bodkinref02_Right.f 64 = some true := rfl
 unfold bodkinref02_Bin.g at h
 rw [hR, Option.bind_some, if_pos rfl, if_neg (by decide), if_neg (by decide), if_neg (by decide)] at h
 have A5 := Aside0.mk hR
 clear hR
 cases k with
 | zero => cases h
 | succ k =>
 simp only [bodkinref02_Bin.j0] at h
 rw [if_neg (by decide)] at h
 replace h := Option.bind_eq_some_iff.mp h
 obtain ⟨t1, h1, h⟩ := h
 replace h := Option.bind_eq_some_iff.mp h
 obtain ⟨t2, h2, h⟩ := h
 replace h := Option.bind_eq_some_iff.mp h
 obtain ⟨t3, h3, h⟩ := h
 replace h := Option.bind_eq_some_iff.mp h
 obtain ⟨t4, h4, h⟩ := h
 rw [if_neg (by decide)] at h
 simp only [Int.reduceEq, Int.reduceBEq, ↓reduceIte] at h
 have A1 := Aside0.mk h1
 have A2 := Aside0.mk h2
 have A3 := Aside0.mk h3
 have A4 := Aside0.mk h4
 clear h1 h2 h3 h4
 obtain ⟨k0, hk0⟩ : ∃ k0, k = k0 := ⟨_, rfl⟩
 rw [hk0] at A1 A2 A3 A4
 cases k with
 | zero => cases h
 | succ k =>
 simp only [bodkinref02_Bin.j2, Int.reduceEq, Int.reduceBEq, ↓reduceIte, Bool.false_eq_true] at h
 cases k with
 | zero => cases h
 | succ k =>
 simp only [bodkinref02_Bin.j3, ↓reduceIte] at h
 replace h := Option.bind_eq_some_iff.mp h
 obtain ⟨la, h5, h⟩ := h
 replace h := Option.bind_eq_some_iff.mp h
 obtain ⟨lb, h6, h⟩ := h
 have A6 := Aside0.mk h5
 have A7 := Aside0.mk h6
 have H' := Aside0.mk h
 clear h5 h6 hk0 h
 go_enter Tryz.func66, Tryz.ntmps66
 go_wp2_with (first | (go_at_call 131; (with_reducible refine (bodkinref02_Right.calls 64 true _ A5.out ).mono ?_); rintro e w' ⟨rfl, ⟨nd, rfl⟩⟩; (try first | exact qd1_ | exact qd2_)) | (go_at_call 54; (with_reducible refine (bodkinref02_Cut.calls k0 64 a2 t1 _ A1.out ).mono ?_); rintro e w' ⟨rfl, ⟨nd, rfl⟩⟩; (try first | exact qd1_ | exact qd2_)) | (go_at_call 54; (with_reducible refine (bodkinref02_Cut.calls k0 64 a3 t2 _ A2.out ).mono ?_); rintro e w' ⟨rfl, ⟨nd, rfl⟩⟩; (try first | exact qd1_ | exact qd2_)) | (go_at_call 58; (with_reducible refine (bodkinref02_Signed.calls k0 64 t1 t3 _ A3.out ).mono ?_); rintro e w' ⟨rfl, ⟨nd, rfl⟩⟩; (try first | exact qd1_ | exact qd2_)) | (go_at_call 58; (with_reducible refine (bodkinref02_Signed.calls k0 64 t2 t4 _ A4.out ).mono ?_); rintro e w' ⟨rfl, ⟨nd, rfl⟩⟩; (try first | exact qd1_ | exact qd2_)) | (go_at_call 150; (with_reducible refine (bodkinref02_list.calls k 64 t1 la _ A6.out ).mono ?_); rintro e w39 ⟨v375, rfl, ho0, hb⟩; have n0_ := Aside0.mk (Kd.R_lower ho0 (below_size bl_)); have n1_ := Aside0.mk (below_step bl_ hb); clear HB; have HO376 := n0_; have HB := n1_; clear n0_ n1_; (try clear hb); (try clear ho0)) | (go_at_call 150; (with_reducible refine (bodkinref02_list.calls k 64 t2 lb _ A7.out ).mono ?_); rintro e w40 ⟨v378, rfl, ho0, hb⟩; have n0_ := Aside0.mk (Kd.R_elder' (by (with_reducible repeat (first | apply Kd.R_alloc | apply Kd.R_drewN | apply Kd.R_drew)); exact HO376.out) (Kd.R_base ho0) hb); have n1_ := Aside0.mk (Kd.R_lower (Kd.R_new' ho0 (Kd.R_lt (by (with_reducible repeat (first | apply Kd.R_alloc | apply Kd.R_drewN | apply Kd.R_drew)); exact HO376.out))) (below_size bl_)); have n2_ := Aside0.mk (below_step bl_ hb); clear HO376; clear HB; have HO376 := n0_; have HO379 := n1_; have HB := n2_; clear n0_ n1_ n2_; (try clear hb); (try clear ho0)))
 go_loopg [18] k (fun kq v18 w' => ∃ (xl : List Int) (xi : Int), v18 = .int .i64 xi ∧ Aside0 (bodkinref02_Bin.l1 kq 64 10 xl lb xi = some (r1, r2)) ∧ Aside0 (Kd.R (Kd.int .u64) 22 w' w.heap.size (fun k_ => some k_ ≠ (v378 : Value).ownBlock) v375 xl) ∧ Aside0 (Kd.R (Kd.int .u64) 22 w' w.heap.size (fun k_ => some k_ ≠ (v375 : Value).ownBlock) v378 lb) ∧ Aside0 (Below w.heap.size w w'))
 case atStart => exact ⟨la, 0, rfl, H', ⟨by (with_reducible repeat (first | apply Kd.R_alloc | apply Kd.R_drewN | apply Kd.R_drew)); exact Kd.R_mono HO376.out (fun _ hk => hk.2)⟩, ⟨by (with_reducible repeat (first | apply Kd.R_alloc | apply Kd.R_drewN | apply Kd.R_drew)); exact Kd.R_mono HO379.out (fun _ hk => hk.2)⟩, ⟨bl_⟩⟩
 case round =>
  clear H' HB HO376 HO379
  obtain ⟨xl, xi, rfl, HA, HO, HP, HB⟩ := hrel
  cases gk with
  | zero => exact absurd HA.out (by simp [bodkinref02_Bin.l1])
  | succ k4 =>
   have h := HA.out
   clear HA
   simp only [bodkinref02_Bin.l1] at h
   by_cases c : xi < 64
   ·rw [if_pos c] at h
    have c1 : 0 ≤ xi := Classical.byContradiction fun hc => by rw [if_neg hc] at h; cases h
    rw [if_pos c1] at h
    have c2 : xi < (xl.length : Int) := Classical.byContradiction fun hc => by rw [if_neg hc] at h; cases h
    rw [if_pos c2] at h
    have c3 : xi < (lb.length : Int) := Classical.byContradiction fun hc => by rw [if_neg hc] at h; cases h
    rw [if_pos c3, Option.bind_some] at h
    simp only [Int.reduceEq, ↓reduceIte] at h
    obtain ⟨s, hs⟩ : ∃ s, IntKind.u64.wrap (rd xl xi + rd lb xi) = s := ⟨_, rfl⟩
    rw [hs] at h
    obtain ⟨go, co, eo, gb, gl, cl, HGo⟩ := Kd.R_form HO.out (by omega)
    subst eo
    obtain ⟨A2_, c2_, e2_⟩ := Kd.R_slice HP.out
    subst e2_
    obtain ⟨ad, e380, hx0⟩ := Kd.at_int (Kd.R_reads' HO.out).2.2 xi c1 c2
    cases e380
    obtain ⟨ad2, e381, hx1⟩ := Kd.at_int (Kd.R_reads' HP.out).2.2 xi c1 c3
    cases e381
    obtain ⟨hx2, hf2⟩ := Kd.R_celln 0 HO.out xi c1 c2
    have GB := Aside0.mk gb
    clear gb gl cl HGo
    simp only [add_plain] at hx0
    replace c1 := eq_true c1
    replace c2 := eq_true c2
    replace c3 := eq_true c3
    clear hx2
    have VL : (Value.slice (some ⟨go, 0, none⟩) xl.length co).ownBlock = some go := rfl
    by_cases d : s = 1
    ·rw [if_pos d] at h
     have d1 : (s == 1) = true := beq_iff_eq.mpr d
     clear d
     have H2 := Aside0.mk h
     clear h VL
     go_wp2
     go_quiet (fail)
     go_wp2
     go_roundg k4
     case measure => omega
     case rel =>
      have p1 := Kd.R_putg (Kd.R_drewN HO.out nq) xi 0
      have p2 := Kd.R_putg p1.1 xi 1
      have q1 := Kd.R_after (v := .slice (some ⟨go, 0, none⟩) xl.length co) (v1 := .slice (some ⟨go, 0, none⟩) xl.length co) (ok := fun _ => True) (Kd.R_mono (Kd.R_drewN HP.out nq) (fun _ hk => ⟨trivial, hk⟩)) p1.2 (.inl rfl)
      have q2 := Kd.R_after (v := .slice (some ⟨go, 0, none⟩) xl.length co) (v1 := .slice (some ⟨go, 0, none⟩) xl.length co) (ok := fun _ => True) (Kd.R_mono q1 (fun _ hk => ⟨trivial, hk.2⟩)) p2.2 (.inl rfl)
      exact ⟨_, _, rfl, H2, ⟨p2.1⟩, ⟨Kd.R_mono q2 (fun _ hk => hk.2)⟩, ⟨below_set (below_set (pw_below_drewN HB.out nq) GB.out) GB.out⟩⟩
    ·rw [if_neg d] at h
     have d1 : (s == 1) = false := beq_eq_false_iff_ne.mpr d
     clear d
     have H2 := Aside0.mk h
     clear h VL
     go_wp2
     go_quiet (fail)
     go_wp2
     go_roundg k4
     case measure => omega
     case rel =>
      have p1 := Kd.R_putg (Kd.R_drewN HO.out nq) xi 0
      have q1 := Kd.R_after (v := .slice (some ⟨go, 0, none⟩) xl.length co) (v1 := .slice (some ⟨go, 0, none⟩) xl.length co) (ok := fun _ => True) (Kd.R_mono (Kd.R_drewN HP.out nq) (fun _ hk => ⟨trivial, hk⟩)) p1.2 (.inl rfl)
      exact ⟨_, _, rfl, H2, ⟨p1.1⟩, ⟨Kd.R_mono q1 (fun _ hk => hk.2)⟩, ⟨below_set (pw_below_drewN HB.out nq) GB.out⟩⟩
   ·rw [if_neg c] at h
    replace h := Option.bind_eq_some_iff.mp h
    obtain ⟨t5, h5, h⟩ := h
    simp only [Option.some.injEq, Prod.mk.injEq] at h
    obtain ⟨rfl, rfl⟩ := h
    have A8 := Aside0.mk h5
    clear h5
    obtain ⟨A3_, c3_, e3_, hl3, hr3⟩ := Kd.R_reads HO.out
    subst e3_
    go_wp2_with (first | (go_at_call 151; (with_reducible refine (bodkinref02_of.calls k4 A3_ c3_ xl t5 _ hr3 hl3 A8.out ).mono ?_); rintro e w' ⟨rfl, ⟨nd, rfl⟩⟩))
    go_ret2
    exact ⟨rfl, bl_⟩
set_option maxHeartbeats 8000000 in
set_option maxRecDepth 100000 in
theorem bodkinref02_Bin.bin_64_11 (k : Nat) (a2 : Int) (a3 : Int) (r1 : Int) (r2 : Int) (w : World) (h : bodkinref02_Bin.g k 64 11 a2 a3 = some (r1, r2)) (hG : GD w) :
  Calls Tryz.prog 66 #[.int .i64 64, .int .i64 11, .int .u64 a2, .int .u64 a3] w fun e w' => e = .returned (.tuple #[.int .u64 r1, .int .i64 r2]) ∧ Below w.heap.size w w' := by
 have HB := Aside0.mk (Below.refl w.heap.size w)
 have hR : bodkinref02_Right.f 64 = some true := rfl
 unfold bodkinref02_Bin.g at h
 rw [hR, Option.bind_some, if_pos rfl, if_neg (by decide), if_neg (by decide), if_neg (by decide)] at h
 have A5 := Aside0.mk hR
 clear hR
 cases k with
 | zero => cases h
 | succ k =>
 simp only [bodkinref02_Bin.j0] at h
 rw [if_neg (by decide)] at h
 replace h := Option.bind_eq_some_iff.mp h
 obtain ⟨t1, h1, h⟩ := h
 replace h := Option.bind_eq_some_iff.mp h
 obtain ⟨t2, h2, h⟩ := h
 replace h := Option.bind_eq_some_iff.mp h
 obtain ⟨t3, h3, h⟩ := h
 replace h := Option.bind_eq_some_iff.mp h
 obtain ⟨t4, h4, h⟩ := h
 rw [if_neg (by decide)] at h
 simp only [Int.reduceEq, Int.reduceBEq, ↓reduceIte] at h
 have A1 := Aside0.mk h1
 have A2 := Aside0.mk h2
 have A3 := Aside0.mk h3
 have A4 := Aside0.mk h4
 clear h1 h2 h3 h4
 obtain ⟨k0, hk0⟩ : ∃ k0, k = k0 := ⟨_, rfl⟩
 rw [hk0] at A1 A2 A3 A4
 cases k with
 | zero => cases h
 | succ k =>
 simp only [bodkinref02_Bin.j2, Int.reduceEq, Int.reduceBEq, ↓reduceIte, Bool.false_eq_true] at h
 cases k with
 | zero => cases h
 | succ k =>
 simp only [bodkinref02_Bin.j3, Int.reduceEq, Int.reduceBEq, ↓reduceIte, Bool.false_eq_true] at h
 cases k with
 | zero => cases h
 | succ k =>
 simp only [bodkinref02_Bin.j5, ↓reduceIte] at h
 rw [show IntKind.u64.wrap 64 = 64 from by decide] at h
 replace h := Option.bind_eq_some_iff.mp h
 obtain ⟨t5, h5, h⟩ := h
 simp only [Option.some.injEq, Prod.mk.injEq] at h
 obtain ⟨rfl, rfl⟩ := h
 have A6 := Aside0.mk h5
 clear h5 hk0
 go_enter Tryz.func66, Tryz.ntmps66
 go_wp2_with (first | (go_at_call 131; (with_reducible refine (bodkinref02_Right.calls 64 true _ A5.out ).mono ?_); rintro e w' ⟨rfl, ⟨nd, rfl⟩⟩; (try first | exact qd1_ | exact qd2_)) | (go_at_call 54; (with_reducible refine (bodkinref02_Cut.calls k0 64 a2 t1 _ A1.out ).mono ?_); rintro e w' ⟨rfl, ⟨nd, rfl⟩⟩; (try first | exact qd1_ | exact qd2_)) | (go_at_call 54; (with_reducible refine (bodkinref02_Cut.calls k0 64 a3 t2 _ A2.out ).mono ?_); rintro e w' ⟨rfl, ⟨nd, rfl⟩⟩; (try first | exact qd1_ | exact qd2_)) | (go_at_call 58; (with_reducible refine (bodkinref02_Signed.calls k0 64 t1 t3 _ A3.out ).mono ?_); rintro e w' ⟨rfl, ⟨nd, rfl⟩⟩; (try first | exact qd1_ | exact qd2_)) | (go_at_call 58; (with_reducible refine (bodkinref02_Signed.calls k0 64 t2 t4 _ A4.out ).mono ?_); rintro e w' ⟨rfl, ⟨nd, rfl⟩⟩; (try first | exact qd1_ | exact qd2_)) | (go_at_call 153; (with_reducible refine (bodkinref02_moved.calls k 64 11 t1 _ t5 _ A6.out ).mono ?_); rintro e w1 ⟨rfl, hb⟩; have n1_ := Aside0.mk (below_step bl_ hb); clear HB; have HB := n1_; clear n1_; (try clear hb)))
 go_ret2
 exact ⟨rs_, bl_⟩
set_option maxHeartbeats 8000000 in
set_option maxRecDepth 100000 in
theorem bodkinref02_Bin.bin_64_12 (k : Nat) (a2 : Int) (a3 : Int) (r1 : Int) (r2 : Int) (w : World) (h : bodkinref02_Bin.g k 64 12 a2 a3 = some (r1, r2)) (hG : GD w) :
  Calls Tryz.prog 66 #[.int .i64 64, .int .i64 12, .int .u64 a2, .int .u64 a3] w fun e w' => e = .returned (.tuple #[.int .u64 r1, .int .i64 r2]) ∧ Below w.heap.size w w' := by
 have HB := Aside0.mk (Below.refl w.heap.size w)
 have hR : bodkinref02_Right.f 64 = some true := rfl
 unfold bodkinref02_Bin.g at h
 rw [hR, Option.bind_some, if_pos rfl, if_neg (by decide), if_neg (by decide), if_neg (by decide)] at h
 have A5 := Aside0.mk hR
 clear hR
 cases k with
 | zero => cases h
 | succ k =>
 simp only [bodkinref02_Bin.j0] at h
 rw [if_neg (by decide)] at h
 replace h := Option.bind_eq_some_iff.mp h
 obtain ⟨t1, h1, h⟩ := h
 replace h := Option.bind_eq_some_iff.mp h
 obtain ⟨t2, h2, h⟩ := h
 replace h := Option.bind_eq_some_iff.mp h
 obtain ⟨t3, h3, h⟩ := h
 replace h := Option.bind_eq_some_iff.mp h
 obtain ⟨t4, h4, h⟩ := h
 rw [if_neg (by decide)] at h
 simp only [Int.reduceEq, Int.reduceBEq, ↓reduceIte] at h
 have A1 := Aside0.mk h1
 have A2 := Aside0.mk h2
 have A3 := Aside0.mk h3
 have A4 := Aside0.mk h4
 clear h1 h2 h3 h4
 obtain ⟨k0, hk0⟩ : ∃ k0, k = k0 := ⟨_, rfl⟩
 rw [hk0] at A1 A2 A3 A4
 cases k with
 | zero => cases h
 | succ k =>
 simp only [bodkinref02_Bin.j2, Int.reduceEq, Int.reduceBEq, ↓reduceIte, Bool.false_eq_true] at h
 cases k with
 | zero => cases h
 | succ k =>
 simp only [bodkinref02_Bin.j3, Int.reduceEq, Int.reduceBEq, ↓reduceIte, Bool.false_eq_true] at h
 cases k with
 | zero => cases h
 | succ k =>
 simp only [bodkinref02_Bin.j5, ↓reduceIte] at h
 rw [show IntKind.u64.wrap 64 = 64 from by decide] at h
 replace h := Option.bind_eq_some_iff.mp h
 obtain ⟨t5, h5, h⟩ := h
 simp only [Option.some.injEq, Prod.mk.injEq] at h
 obtain ⟨rfl, rfl⟩ := h
 have A6 := Aside0.mk h5
 clear h5 hk0
 go_enter Tryz.func66, Tryz.ntmps66
 go_wp2_with (first | (go_at_call 131; (with_reducible refine (bodkinref02_Right.calls 64 true _ A5.out ).mono ?_); rintro e w' ⟨rfl, ⟨nd, rfl⟩⟩; (try first | exact qd1_ | exact qd2_)) | (go_at_call 54; (with_reducible refine (bodkinref02_Cut.calls k0 64 a2 t1 _ A1.out ).mono ?_); rintro e w' ⟨rfl, ⟨nd, rfl⟩⟩; (try first | exact qd1_ | exact qd2_)) | (go_at_call 54; (with_reducible refine (bodkinref02_Cut.calls k0 64 a3 t2 _ A2.out ).mono ?_); rintro e w' ⟨rfl, ⟨nd, rfl⟩⟩; (try first | exact qd1_ | exact qd2_)) | (go_at_call 58; (with_reducible refine (bodkinref02_Signed.calls k0 64 t1 t3 _ A3.out ).mono ?_); rintro e w' ⟨rfl, ⟨nd, rfl⟩⟩; (try first | exact qd1_ | exact qd2_)) | (go_at_call 58; (with_reducible refine (bodkinref02_Signed.calls k0 64 t2 t4 _ A4.out ).mono ?_); rintro e w' ⟨rfl, ⟨nd, rfl⟩⟩; (try first | exact qd1_ | exact qd2_)) | (go_at_call 153; (with_reducible refine (bodkinref02_moved.calls k 64 12 t1 _ t5 _ A6.out ).mono ?_); rintro e w1 ⟨rfl, hb⟩; have n1_ := Aside0.mk (below_step bl_ hb); clear HB; have HB := n1_; clear n1_; (try clear hb)))
 go_ret2
 exact ⟨rs_, bl_⟩
set_option maxHeartbeats 8000000 in
set_option maxRecDepth 100000 in
theorem bodkinref02_Bin.bin_64_13 (k : Nat) (a2 : Int) (a3 : Int) (r1 : Int) (r2 : Int) (w : World) (h : bodkinref02_Bin.g k 64 13 a2 a3 = some (r1, r2)) (hG : GD w) :
  Calls Tryz.prog 66 #[.int .i64 64, .int .i64 13, .int .u64 a2, .int .u64 a3] w fun e w' => e = .returned (.tuple #[.int .u64 r1, .int .i64 r2]) ∧ Below w.heap.size w w' := by
 have HB := Aside0.mk (Below.refl w.heap.size w)
 have hR : bodkinref02_Right.f 64 = some true := rfl
 unfold bodkinref02_Bin.g at h
 rw [hR, Option.bind_some, if_pos rfl, if_neg (by decide), if_neg (by decide), if_neg (by decide)] at h
 have A5 := Aside0.mk hR
 clear hR
 cases k with
 | zero => cases h
 | succ k =>
 simp only [bodkinref02_Bin.j0] at h
 rw [if_neg (by decide)] at h
 replace h := Option.bind_eq_some_iff.mp h
 obtain ⟨t1, h1, h⟩ := h
 replace h := Option.bind_eq_some_iff.mp h
 obtain ⟨t2, h2, h⟩ := h
 replace h := Option.bind_eq_some_iff.mp h
 obtain ⟨t3, h3, h⟩ := h
 replace h := Option.bind_eq_some_iff.mp h
 obtain ⟨t4, h4, h⟩ := h
 rw [if_neg (by decide)] at h
 simp only [Int.reduceEq, Int.reduceBEq, ↓reduceIte] at h
 have A1 := Aside0.mk h1
 have A2 := Aside0.mk h2
 have A3 := Aside0.mk h3
 have A4 := Aside0.mk h4
 clear h1 h2 h3 h4
 obtain ⟨k0, hk0⟩ : ∃ k0, k = k0 := ⟨_, rfl⟩
 rw [hk0] at A1 A2 A3 A4
 cases k with
 | zero => cases h
 | succ k =>
 simp only [bodkinref02_Bin.j2, Int.reduceEq, Int.reduceBEq, ↓reduceIte, Bool.false_eq_true] at h
 cases k with
 | zero => cases h
 | succ k =>
 simp only [bodkinref02_Bin.j3, Int.reduceEq, Int.reduceBEq, ↓reduceIte, Bool.false_eq_true] at h
 cases k with
 | zero => cases h
 | succ k =>
 simp only [bodkinref02_Bin.j5, ↓reduceIte] at h
 rw [show IntKind.u64.wrap 64 = 64 from by decide] at h
 replace h := Option.bind_eq_some_iff.mp h
 obtain ⟨t5, h5, h⟩ := h
 simp only [Option.some.injEq, Prod.mk.injEq] at h
 obtain ⟨rfl, rfl⟩ := h
 have A6 := Aside0.mk h5
 clear h5 hk0
 go_enter Tryz.func66, Tryz.ntmps66
 go_wp2_with (first | (go_at_call 131; (with_reducible refine (bodkinref02_Right.calls 64 true _ A5.out ).mono ?_); rintro e w' ⟨rfl, ⟨nd, rfl⟩⟩; (try first | exact qd1_ | exact qd2_)) | (go_at_call 54; (with_reducible refine (bodkinref02_Cut.calls k0 64 a2 t1 _ A1.out ).mono ?_); rintro e w' ⟨rfl, ⟨nd, rfl⟩⟩; (try first | exact qd1_ | exact qd2_)) | (go_at_call 54; (with_reducible refine (bodkinref02_Cut.calls k0 64 a3 t2 _ A2.out ).mono ?_); rintro e w' ⟨rfl, ⟨nd, rfl⟩⟩; (try first | exact qd1_ | exact qd2_)) | (go_at_call 58; (with_reducible refine (bodkinref02_Signed.calls k0 64 t1 t3 _ A3.out ).mono ?_); rintro e w' ⟨rfl, ⟨nd, rfl⟩⟩; (try first | exact qd1_ | exact qd2_)) | (go_at_call 58; (with_reducible refine (bodkinref02_Signed.calls k0 64 t2 t4 _ A4.out ).mono ?_); rintro e w' ⟨rfl, ⟨nd, rfl⟩⟩; (try first | exact qd1_ | exact qd2_)) | (go_at_call 153; (with_reducible refine (bodkinref02_moved.calls k 64 13 t1 _ t5 _ A6.out ).mono ?_); rintro e w1 ⟨rfl, hb⟩; have n1_ := Aside0.mk (below_step bl_ hb); clear HB; have HB := n1_; clear n1_; (try clear hb)))
 go_ret2
 exact ⟨rs_, bl_⟩
set_option maxHeartbeats 8000000 in
set_option maxRecDepth 100000 in
theorem bodkinref02_Bin.bin_64_14 (k : Nat) (a2 : Int) (a3 : Int) (r1 : Int) (r2 : Int) (w : World) (h : bodkinref02_Bin.g k 64 14 a2 a3 = some (r1, r2)) (hG : GD w) :
  Calls Tryz.prog 66 #[.int .i64 64, .int .i64 14, .int .u64 a2, .int .u64 a3] w fun e w' => e = .returned (.tuple #[.int .u64 r1, .int .i64 r2]) ∧ Below w.heap.size w w' := by
 have HB := Aside0.mk (Below.refl w.heap.size w)
 have hR : bodkinref02_Right.f 64 = some true := rfl
 unfold bodkinref02_Bin.g at h
 rw [hR, Option.bind_some, if_pos rfl, if_neg (by decide), if_neg (by decide), if_neg (by decide)] at h
 have A5 := Aside0.mk hR
 clear hR
 cases k with
 | zero => cases h
 | succ k =>
 simp only [bodkinref02_Bin.j0] at h
 rw [if_neg (by decide)] at h
 replace h := Option.bind_eq_some_iff.mp h
 obtain ⟨t1, h1, h⟩ := h
 replace h := Option.bind_eq_some_iff.mp h
 obtain ⟨t2, h2, h⟩ := h
 replace h := Option.bind_eq_some_iff.mp h
 obtain ⟨t3, h3, h⟩ := h
 replace h := Option.bind_eq_some_iff.mp h
 obtain ⟨t4, h4, h⟩ := h
 rw [if_neg (by decide)] at h
 simp only [Int.reduceEq, Int.reduceBEq, ↓reduceIte] at h
 have A1 := Aside0.mk h1
 have A2 := Aside0.mk h2
 have A3 := Aside0.mk h3
 have A4 := Aside0.mk h4
 clear h1 h2 h3 h4
 obtain ⟨k0, hk0⟩ : ∃ k0, k = k0 := ⟨_, rfl⟩
 rw [hk0] at A1 A2 A3 A4
 cases k with
 | zero => cases h
 | succ k =>
 simp only [bodkinref02_Bin.j2, Int.reduceEq, Int.reduceBEq, ↓reduceIte, Bool.false_eq_true] at h
 cases k with
 | zero => cases h
 | succ k =>
 simp only [bodkinref02_Bin.j3, Int.reduceEq, Int.reduceBEq, ↓reduceIte, Bool.false_eq_true] at h
 cases k with
 | zero => cases h
 | succ k =>
 simp only [bodkinref02_Bin.j5, ↓reduceIte] at h
 rw [show IntKind.u64.wrap 64 = 64 from by decide] at h
 replace h := Option.bind_eq_some_iff.mp h
 obtain ⟨t5, h5, h⟩ := h
 simp only [Option.some.injEq, Prod.mk.injEq] at h
 obtain ⟨rfl, rfl⟩ := h
 have A6 := Aside0.mk h5
 clear h5 hk0
 go_enter Tryz.func66, Tryz.ntmps66
 go_wp2_with (first | (go_at_call 131; (with_reducible refine (bodkinref02_Right.calls 64 true _ A5.out ).mono ?_); rintro e w' ⟨rfl, ⟨nd, rfl⟩⟩; (try first | exact qd1_ | exact qd2_)) | (go_at_call 54; (with_reducible refine (bodkinref02_Cut.calls k0 64 a2 t1 _ A1.out ).mono ?_); rintro e w' ⟨rfl, ⟨nd, rfl⟩⟩; (try first | exact qd1_ | exact qd2_)) | (go_at_call 54; (with_reducible refine (bodkinref02_Cut.calls k0 64 a3 t2 _ A2.out ).mono ?_); rintro e w' ⟨rfl, ⟨nd, rfl⟩⟩; (try first | exact qd1_ | exact qd2_)) | (go_at_call 58; (with_reducible refine (bodkinref02_Signed.calls k0 64 t1 t3 _ A3.out ).mono ?_); rintro e w' ⟨rfl, ⟨nd, rfl⟩⟩; (try first | exact qd1_ | exact qd2_)) | (go_at_call 58; (with_reducible refine (bodkinref02_Signed.calls k0 64 t2 t4 _ A4.out ).mono ?_); rintro e w' ⟨rfl, ⟨nd, rfl⟩⟩; (try first | exact qd1_ | exact qd2_)) | (go_at_call 153; (with_reducible refine (bodkinref02_moved.calls k 64 14 t1 _ t5 _ A6.out ).mono ?_); rintro e w1 ⟨rfl, hb⟩; have n1_ := Aside0.mk (below_step bl_ hb); clear HB; have HB := n1_; clear n1_; (try clear hb)))
 go_ret2
 exact ⟨rs_, bl_⟩
set_option maxHeartbeats 8000000 in
set_option maxRecDepth 100000 in
theorem bodkinref02_Bin.bin_64_15 (k : Nat) (a2 : Int) (a3 : Int) (r1 : Int) (r2 : Int) (w : World) (h : bodkinref02_Bin.g k 64 15 a2 a3 = some (r1, r2)) (hG : GD w) :
  Calls Tryz.prog 66 #[.int .i64 64, .int .i64 15, .int .u64 a2, .int .u64 a3] w fun e w' => e = .returned (.tuple #[.int .u64 r1, .int .i64 r2]) ∧ Below w.heap.size w w' := by
 have HB := Aside0.mk (Below.refl w.heap.size w)
 have hR : bodkinref02_Right.f 64 = some true := rfl
 unfold bodkinref02_Bin.g at h
 rw [hR, Option.bind_some, if_pos rfl, if_neg (by decide), if_neg (by decide), if_neg (by decide)] at h
 have A5 := Aside0.mk hR
 clear hR
 cases k with
 | zero => cases h
 | succ k =>
 simp only [bodkinref02_Bin.j0] at h
 rw [if_neg (by decide)] at h
 replace h := Option.bind_eq_some_iff.mp h
 obtain ⟨t1, h1, h⟩ := h
 replace h := Option.bind_eq_some_iff.mp h
 obtain ⟨t2, h2, h⟩ := h
 replace h := Option.bind_eq_some_iff.mp h
 obtain ⟨t3, h3, h⟩ := h
 replace h := Option.bind_eq_some_iff.mp h
 obtain ⟨t4, h4, h⟩ := h
 rw [if_neg (by decide)] at h
 simp only [Int.reduceEq, Int.reduceBEq, ↓reduceIte] at h
 have A1 := Aside0.mk h1
 have A2 := Aside0.mk h2
 have A3 := Aside0.mk h3
 have A4 := Aside0.mk h4
 clear h1 h2 h3 h4
 obtain ⟨k0, hk0⟩ : ∃ k0, k = k0 := ⟨_, rfl⟩
 rw [hk0] at A1 A2 A3 A4
 cases k with
 | zero => cases h
 | succ k =>
 simp only [bodkinref02_Bin.j2, Int.reduceEq, Int.reduceBEq, ↓reduceIte, Bool.false_eq_true] at h
 cases k with
 | zero => cases h
 | succ k =>
 simp only [bodkinref02_Bin.j3, Int.reduceEq, Int.reduceBEq, ↓reduceIte, Bool.false_eq_true] at h
 cases k with
 | zero => cases h
 | succ k =>
 simp only [bodkinref02_Bin.j5, ↓reduceIte] at h
 rw [show IntKind.u64.wrap 64 = 64 from by decide] at h
 replace h := Option.bind_eq_some_iff.mp h
 obtain ⟨t5, h5, h⟩ := h
 simp only [Option.some.injEq, Prod.mk.injEq] at h
 obtain ⟨rfl, rfl⟩ := h
 have A6 := Aside0.mk h5
 clear h5 hk0
 go_enter Tryz.func66, Tryz.ntmps66
 go_wp2_with (first | (go_at_call 131; (with_reducible refine (bodkinref02_Right.calls 64 true _ A5.out ).mono ?_); rintro e w' ⟨rfl, ⟨nd, rfl⟩⟩; (try first | exact qd1_ | exact qd2_)) | (go_at_call 54; (with_reducible refine (bodkinref02_Cut.calls k0 64 a2 t1 _ A1.out ).mono ?_); rintro e w' ⟨rfl, ⟨nd, rfl⟩⟩; (try first | exact qd1_ | exact qd2_)) | (go_at_call 54; (with_reducible refine (bodkinref02_Cut.calls k0 64 a3 t2 _ A2.out ).mono ?_); rintro e w' ⟨rfl, ⟨nd, rfl⟩⟩; (try first | exact qd1_ | exact qd2_)) | (go_at_call 58; (with_reducible refine (bodkinref02_Signed.calls k0 64 t1 t3 _ A3.out ).mono ?_); rintro e w' ⟨rfl, ⟨nd, rfl⟩⟩; (try first | exact qd1_ | exact qd2_)) | (go_at_call 58; (with_reducible refine (bodkinref02_Signed.calls k0 64 t2 t4 _ A4.out ).mono ?_); rintro e w' ⟨rfl, ⟨nd, rfl⟩⟩; (try first | exact qd1_ | exact qd2_)) | (go_at_call 153; (with_reducible refine (bodkinref02_moved.calls k 64 15 t1 _ t5 _ A6.out ).mono ?_); rintro e w1 ⟨rfl, hb⟩; have n1_ := Aside0.mk (below_step bl_ hb); clear HB; have HB := n1_; clear n1_; (try clear hb)))
 go_ret2
 exact ⟨rs_, bl_⟩
theorem bodkinref02_Bin.calls (k : Nat) (a0 : Int) (a1 : Int) (a2 : Int) (a3 : Int) (r1 : Int) (r2 : Int) (w : World) (h : bodkinref02_Bin.f k a0 a1 a2 a3 = some (r1, r2)) (hG : GD w := by first | assumption | exact GD.below (by assumption) (by repeat (first | exact Aside0.out (by assumption) | exact Below.refl _ _ | assumption | apply below_alloc | apply pw_below_drewN | apply below_drew1 | refine below_set ?_ (Aside0.out (by assumption))))) :
  Calls Tryz.prog 66 #[.int .i64 a0, .int .i64 a1, .int .u64 a2, .int .u64 a3] w fun e w' => e = .returned (.tuple #[.int .u64 r1, .int .i64 r2]) ∧ Below w.heap.size w w' := by
 unfold bodkinref02_Bin.f at h
 split at h
 ·rename_i hc
  obtain ⟨hn, h1, h15⟩ := hc
  have ho : a1 = 1 ∨ a1 = 2 ∨ a1 = 3 ∨ a1 = 4 ∨ a1 = 5 ∨ a1 = 6 ∨ a1 = 7 ∨ a1 = 8 ∨ a1 = 9 ∨ a1 = 10 ∨ a1 = 11 ∨ a1 = 12 ∨ a1 = 13 ∨ a1 = 14 ∨ a1 = 15 := by omega
  rcases hn with rfl | rfl <;> rcases ho with rfl | rfl | rfl | rfl | rfl | rfl | rfl | rfl | rfl | rfl | rfl | rfl | rfl | rfl | rfl
  ·exact bodkinref02_Bin.bin_32_1 k a2 a3 r1 r2 w h hG
  ·exact bodkinref02_Bin.bin_32_2 k a2 a3 r1 r2 w h hG
  ·exact bodkinref02_Bin.bin_32_3 k a2 a3 r1 r2 w h hG
  ·exact bodkinref02_Bin.bin_32_4 k a2 a3 r1 r2 w h hG
  ·exact bodkinref02_Bin.bin_32_5 k a2 a3 r1 r2 w h hG
  ·exact bodkinref02_Bin.bin_32_6 k a2 a3 r1 r2 w h hG
  ·exact bodkinref02_Bin.bin_32_7 k a2 a3 r1 r2 w h hG
  ·exact bodkinref02_Bin.bin_32_8 k a2 a3 r1 r2 w h hG
  ·exact bodkinref02_Bin.bin_32_9 k a2 a3 r1 r2 w h hG
  ·exact bodkinref02_Bin.bin_32_10 k a2 a3 r1 r2 w h hG
  ·exact bodkinref02_Bin.bin_32_11 k a2 a3 r1 r2 w h hG
  ·exact bodkinref02_Bin.bin_32_12 k a2 a3 r1 r2 w h hG
  ·exact bodkinref02_Bin.bin_32_13 k a2 a3 r1 r2 w h hG
  ·exact bodkinref02_Bin.bin_32_14 k a2 a3 r1 r2 w h hG
  ·exact bodkinref02_Bin.bin_32_15 k a2 a3 r1 r2 w h hG
  ·exact bodkinref02_Bin.bin_64_1 k a2 a3 r1 r2 w h hG
  ·exact bodkinref02_Bin.bin_64_2 k a2 a3 r1 r2 w h hG
  ·exact bodkinref02_Bin.bin_64_3 k a2 a3 r1 r2 w h hG
  ·exact bodkinref02_Bin.bin_64_4 k a2 a3 r1 r2 w h hG
  ·exact bodkinref02_Bin.bin_64_5 k a2 a3 r1 r2 w h hG
  ·exact bodkinref02_Bin.bin_64_6 k a2 a3 r1 r2 w h hG
  ·exact bodkinref02_Bin.bin_64_7 k a2 a3 r1 r2 w h hG
  ·exact bodkinref02_Bin.bin_64_8 k a2 a3 r1 r2 w h hG
  ·exact bodkinref02_Bin.bin_64_9 k a2 a3 r1 r2 w h hG
  ·exact bodkinref02_Bin.bin_64_10 k a2 a3 r1 r2 w h hG
  ·exact bodkinref02_Bin.bin_64_11 k a2 a3 r1 r2 w h hG
  ·exact bodkinref02_Bin.bin_64_12 k a2 a3 r1 r2 w h hG
  ·exact bodkinref02_Bin.bin_64_13 k a2 a3 r1 r2 w h hG
  ·exact bodkinref02_Bin.bin_64_14 k a2 a3 r1 r2 w h hG
  ·exact bodkinref02_Bin.bin_64_15 k a2 a3 r1 r2 w h hG
 ·cases h
end Go.Proofs.YtkhhhceeoljheaaGreatDoor.PInt
