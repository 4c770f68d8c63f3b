import Derived.Test.YtkhhhceeoljheaaGreatDoorFxPFlox1
set_option maxHeartbeats 8000000
set_option maxRecDepth 100000
namespace Go.Proofs.YtkhhhceeoljheaaGreatDoor.PFlo
open Go.RowKit Go.Proofs.YtkhhhceeoljheaaGreatDoorW.PrintWords Go.Proofs.YtkhhhceeoljheaaGreatDoorW.PrintLast Go.Proofs.YtkhhhceeoljheaaGreatDoorW.PrintMore
attribute [local go_sem] max2_int min2_int max_two min_two max_three min_three max_four min_four   
set_option linter.unusedVariables false
set_option linter.unusedSimpArgs false
def ops_row.f (a0 : Int) : Option (ByteArray) := some (rowOf a0)
theorem ops_row.calls (a0 : Int) (r : ByteArray) (w : World) (h : ops_row.f a0 = some r) (hG : GD w := by first | assumption | exact GD.below (by assumption) (by repeat (first | exact Aside0.out (by assumption) | exact Below.refl _ _ | assumption | apply below_alloc | apply pw_below_drewN | apply below_drew1 | refine below_set ?_ (Aside0.out (by assumption))))) :
  Calls Tryz.prog 38 #[.int .i64 a0] w fun e w' => e = .returned (.string r) ∧ Below w.heap.size w w' := by
 obtain rfl := Option.some.inj h; exact row_calls a0 w hG.1
def asciiB (s : ByteArray) : Bool := s.data.toList.all fun b => decide (b.toNat < 128)
def strings_Fields.f (a0 : ByteArray) : Option (List ByteArray) := if asciiB a0 = true ∧ a0.size ≤ 1000 then some ((Lib.fields a0.data.toList).map fun l => ⟨l.toArray⟩) else none
theorem strings_Fields.calls (a0 : ByteArray) (r : List ByteArray) (w : World) (h : strings_Fields.f a0 = some r) (hG : GD w := by first | assumption | exact GD.below (by assumption) (by repeat (first | exact Aside0.out (by assumption) | exact Below.refl _ _ | assumption | apply below_alloc | apply pw_below_drewN | apply below_drew1 | refine below_set ?_ (Aside0.out (by assumption))))) :
  Calls Tryz.prog 67 #[.string a0] w fun e w' => ∃ v0_ : Value, e = .returned (v0_) ∧ Kd.R Kd.string 9 w' w.heap.size (fun _ => True) v0_ r ∧ Below w.heap.size w w' := by
 unfold strings_Fields.f at h; split at h
 ·rename_i hc
  obtain rfl := Option.some.inj h; have ha : ∀ (j : Nat) b, a0.data.toList[j]? = some b → b.toNat < 128 := fun j b hb => of_decide_eq_true (List.all_eq_true.1 hc.1 b (List.mem_of_getElem? hb))
  refine (Tryz.strings_Fields a0 w (by omega) ha hG.1.2).mono ?_; rintro e w' ⟨rfl, rfl⟩
  have hl : (Lib.fields a0.data.toList).length ≤ 9223372036854775807 := by
   have := fields_small a0.data.toList; have h2 : a0.data.toList.length = a0.size := data_length a0; omega
  refine ⟨_, rfl, ⟨fun _ _ => trivial, ?_⟩, (Below.refl _ _).alloc (Nat.le_refl _) _⟩; have hx := OwnRow.lit (e := 9) w w.heap.size (Kd.reps_scalar (enc := Value.string) ((Lib.fields a0.data.toList).map fun l => (⟨l.toArray⟩ : ByteArray))) (Nat.le_refl _) (by simpa using hl); simp only [encs, List.map_map, List.length_map] at hx; exact hx
 ·cases h
def ops_part.f (a0 : Int) (a1 : Int) : Option (ByteArray) := (ops_row.f a0).bind fun t101 => ((strings_Fields.f t101).bind fun t102 => (if a1 < (t102.length : Int) then (if 0 ≤ a1 then (some (rdOf ByteArray.empty t102 a1)) else (none)) else (some (⟨#[]⟩ : ByteArray))))
theorem ops_part.calls (a0 : Int) (a1 : Int) (r : ByteArray) (w : World) (h : ops_part.f a0 a1 = some r) (hG : GD w := by first | assumption | exact GD.below (by assumption) (by repeat (first | exact Aside0.out (by assumption) | exact Below.refl _ _ | assumption | apply below_alloc | apply pw_below_drewN | apply below_drew1 | refine below_set ?_ (Aside0.out (by assumption))))) :
  Calls Tryz.prog 37 #[.int .i64 a0, .int .i64 a1] w fun e w' => e = .returned (.string r) ∧ Below w.heap.size w w' := by
 have HB := zm_ (Below.refl w.heap.size w); have H : ((ops_row.f a0).bind fun t101 => ((strings_Fields.f t101).bind fun t102 => (if a1 < (t102.length : Int) then (if 0 ≤ a1 then (some (rdOf ByteArray.empty t102 a1)) else (none)) else (some (⟨#[]⟩ : ByteArray))))) = some r := h; clear h; replace H := Option.bind_eq_some_iff.mp H; obtain ⟨t101, A30, H⟩ := H; replace H : ((strings_Fields.f t101).bind fun t102 => (if a1 < (t102.length : Int) then (if 0 ≤ a1 then (some (rdOf ByteArray.empty t102 a1)) else (none)) else (some (⟨#[]⟩ : ByteArray)))) = some r := H; have A3 := zm_ A30; clear A30; replace H := Option.bind_eq_some_iff.mp H; obtain ⟨t102, A40, H⟩ := H; replace H : (if a1 < (t102.length : Int) then (if 0 ≤ a1 then (some (rdOf ByteArray.empty t102 a1)) else (none)) else (some (⟨#[]⟩ : ByteArray))) = some r := H; have A4 := zm_ A40; clear A40; by_cases c5 : a1 < (t102.length : Int)
 ·rw [if_pos c5] at H; have c5b0 : decide (a1 < (t102.length : Int)) = true := decide_eq_true c5; clear c5; by_cases c6 : 0 ≤ a1
  ·rw [if_pos c6] at H; have c6b0 : decide (0 ≤ a1) = true := decide_eq_true c6; clear c6; obtain rfl := Option.some.inj H; go_enter Tryz.func37, Tryz.ntmps37
   go_wp2_with (first | ((with_reducible refine gate_callee (f := 38) rfl ?_); refine goesL_ (some 7) rfl rfl Tryz.func38 (by kernel_rfl) rfl #[.int .i64 a0] rfl mp_ ?_; (with_reducible refine (ops_row.calls a0 t101 _ A3.out).mono ?_); rintro e w7 ⟨rfl, hb⟩; refine ⟨_, rfl, ?_⟩; have n0_ := zm_ (below_step bl_ hb); clear HB; have HB := n0_; clear n0_; (try clear hb); (try clear hb2); (try clear hk); (try clear hi)) | ((with_reducible refine gate_callee (f := 67) rfl ?_); refine goesL_ (some 8) rfl rfl Tryz.func67 (by kernel_rfl) rfl #[.string t101] rfl mp_ ?_; (with_reducible refine (strings_Fields.calls t101 t102 _ A4.out).mono ?_); rintro e w8 ⟨v103, rfl, ho0, hb⟩; refine ⟨_, rfl, ?_⟩; have n0_ := zm_ (Kd.R_lower ho0 (below_size bl_)); have n1_ := zm_ (below_step bl_ hb); clear HB; have HO104 := n0_; have HB := n1_; clear n0_ n1_; (try clear hb); (try clear hb2); (try clear hk); (try clear hi); (try clear ho0); obtain ⟨Ao9, co9, eo9⟩ := Kd.R_slice HO104.out; subst eo9; have p105 : 0 ≤ (a1 : Int) := od_; have q105 : a1 < (t102.length : Int) := od_; obtain ⟨ad105, e105, hx105_0⟩ := Kd.at_string (Kd.R_reads' HO104.out).2.2 a1 p105 q105; cases e105; replace p105 := eq_true p105; replace q105 := eq_true q105))
   go_ret; exact ⟨er_, bl_⟩
  ·rw [if_neg c6] at H; exact absurd H (by simp)
 ·rw [if_neg c5] at H; have c5b0 : decide (a1 < (t102.length : Int)) = false := decide_eq_false c5; clear c5; obtain rfl := Option.some.inj H; go_enter Tryz.func37, Tryz.ntmps37
  go_wp2_with (first | ((with_reducible refine gate_callee (f := 38) rfl ?_); refine goesL_ (some 7) rfl rfl Tryz.func38 (by kernel_rfl) rfl #[.int .i64 a0] rfl mp_ ?_; (with_reducible refine (ops_row.calls a0 t101 _ A3.out).mono ?_); rintro e w10 ⟨rfl, hb⟩; refine ⟨_, rfl, ?_⟩; have n0_ := zm_ (below_step bl_ hb); clear HB; have HB := n0_; clear n0_; (try clear hb); (try clear hb2); (try clear hk); (try clear hi)) | ((with_reducible refine gate_callee (f := 67) rfl ?_); refine goesL_ (some 8) rfl rfl Tryz.func67 (by kernel_rfl) rfl #[.string t101] rfl mp_ ?_; (with_reducible refine (strings_Fields.calls t101 t102 _ A4.out).mono ?_); rintro e w11 ⟨v103, rfl, ho0, hb⟩; refine ⟨_, rfl, ?_⟩; have n0_ := zm_ (Kd.R_lower ho0 (below_size bl_)); have n1_ := zm_ (below_step bl_ hb); clear HB; have HO104 := n0_; have HB := n1_; clear n0_ n1_; (try clear hb); (try clear hb2); (try clear hk); (try clear hi); (try clear ho0); obtain ⟨Ao12, co12, eo12⟩ := Kd.R_slice HO104.out; subst eo12))
  go_ret; exact ⟨er_, bl_⟩
def immTo (s : ByteArray) : Nat → Int
 | 0 => 0
 | k + 1 => wrap64 (wrap64 (10 * immTo s k) + (bt s k - 48) % 256)
theorem immTo_succ (s : ByteArray) (k : Nat) : immTo s (k + 1) = wrap64 (wrap64 (10 * immTo s k) + (bt s k - 48) % 256) := rfl
def ops_Imm.f (a0 : Int) : Option (Int) := (ops_part.f a0 1).bind fun s => if s.size ≤ 1000 then some (immTo s s.size) else none
set_option maxRecDepth 100000 in
set_option maxHeartbeats 4000000 in
theorem ops_Imm.calls (a0 : Int) (r : Int) (w : World) (h : ops_Imm.f a0 = some r) (hG : GD w := by first | assumption | exact GD.below (by assumption) (by repeat (first | exact Aside0.out (by assumption) | exact Below.refl _ _ | assumption | apply below_alloc | apply pw_below_drewN | apply below_drew1 | refine below_set ?_ (Aside0.out (by assumption))))) :
  Calls Tryz.prog 26 #[.int .i64 a0] w fun e w' => e = .returned (.int .i64 r) ∧ Below w.heap.size w w' := by
 unfold ops_Imm.f at h; obtain ⟨s, hp, h⟩ := Option.bind_eq_some_iff.mp h; split at h
 ·rename_i hs
  obtain rfl := Option.some.inj h; have HP := Lib.hid hp; clear hp h; have hmk := fun W => print_bytes (P := Tryz.prog) 9 57 5 Tryz.underlying9 Tryz.underlying57 Tryz.underlying5 s W
  go_enter Tryz.func26, Tryz.ntmps26
  go_wp2_with (first | (go_at_call 37; refine (ops_part.calls a0 1 s _ HP.out hG).mono ?_; rintro e w1 ⟨rfl, hb1⟩; have HB1 := Lib.hid hb1; clear hb1) | fail)
  have HR := Lib.hid (bytes_reads w1 5 s (by omega)); have HB0 := Lib.hid (bytes_below (Below.refl w1.heap.size w1) (Nat.le_refl _) 5 s); have HS := Lib.hid (Lib.bytesWorld_size w1 5 s); generalize Lib.bytesWorld w1 5 s = W1 at *; have H0 : Aside0 (Below W1.heap.size W1 W1) := ⟨Below.refl _ _⟩
  go_loopw [3, 10] (fun v3 v10 w' => ∃ k : Nat, k ≤ s.size ∧ v10 = .int .i64 k ∧ v3 = .int .i64 (immTo s k) ∧ Aside0 (Below W1.heap.size W1 w')) (fun _ v10 _ => s.size - (intOf v10).toNat)
  case atStart => exact ⟨0, Nat.zero_le _, rfl, rfl, H0⟩
  case round =>
   obtain ⟨k, hk, rfl, rfl, HB⟩ := hrel; by_cases hlt : k < s.size
   ·have hcell : wr.cell? ⟨w1.heap.size, k, none⟩ = some (.int .u8 (bt s k)) := by
     have h1 := HR.out.2.2 (by omega); obtain ⟨ad, ea, hc⟩ := h1; obtain rfl := Option.some.inj ea; have h2 := hc k (by have := HR.out.1; omega); rw [add_plain] at h2; have h3 : (bytesOf s).getD k 0 = bt s k := by have := rd_bytesOf s (k : Int); simpa [rd] using this
     rw [h3] at h2; exact (HB.out.cell (World.block_lt_of_cell? W1 _ h2)).trans h2
    have hb255 := bt_range s k; have HT := Lib.hid (immTo_succ s k); have hltB : decide ((k : Int) < (s.size : Int)) = true := by simp; omega
    go_wp2
    go_roundw
    case measure => simp [intOf]; omega
    case rel => exact ⟨k + 1, by omega, by go_num, by rw [HT.out], HB⟩
   ·obtain rfl : k = s.size := by omega
    go_wp2
    go_ret; exact ⟨rfl, HB1.out.trans (HB0.out.mono HB1.out.size |>.trans (HB.out.mono (by rw [HS.out]; have := HB1.out.size; omega)))⟩
 ·cases h
def ops_Known.f (a0 : Int) : Option (Bool) := (ops_row.f a0).bind fun t106 => (some (t106.toList != ([] : List UInt8)))
theorem ops_Known.calls (a0 : Int) (r : Bool) (w : World) (h : ops_Known.f a0 = some r) (hG : GD w := by first | assumption | exact GD.below (by assumption) (by repeat (first | exact Aside0.out (by assumption) | exact Below.refl _ _ | assumption | apply below_alloc | apply pw_below_drewN | apply below_drew1 | refine below_set ?_ (Aside0.out (by assumption))))) :
  Calls Tryz.prog 27 #[.int .i64 a0] w fun e w' => e = .returned (.bool r) ∧ Below w.heap.size w w' := by
 have HB := zm_ (Below.refl w.heap.size w); have H : ((ops_row.f a0).bind fun t106 => (some (t106.toList != ([] : List UInt8)))) = some r := h; clear h; replace H := Option.bind_eq_some_iff.mp H; obtain ⟨t106, A20, H⟩ := H; replace H : (some (t106.toList != ([] : List UInt8))) = some r := H; have A2 := zm_ A20; clear A20; obtain rfl := Option.some.inj H; go_enter Tryz.func27, Tryz.ntmps27
 go_wp2_with (first | ((with_reducible refine gate_callee (f := 38) rfl ?_); refine goesL_ (some 4) rfl rfl Tryz.func38 (by kernel_rfl) rfl #[.int .i64 a0] rfl mp_ ?_; (with_reducible refine (ops_row.calls a0 t106 _ A2.out).mono ?_); rintro e w3 ⟨rfl, hb⟩; refine ⟨_, rfl, ?_⟩; have n0_ := zm_ (below_step bl_ hb); clear HB; have HB := n0_; clear n0_; (try clear hb); (try clear hb2); (try clear hk); (try clear hi)))
 go_ret; exact ⟨er_, bl_⟩
def scalar_Numeric.f (a0 : Int) : Option (Bool) := if a0 ≥ 64768 then ((ops_Imm.f a0).bind fun t107 => ((ops_Known.f a0).bind fun t108 => (if t108 = true then (if t107 = 0 then (some true) else (if t107 = 25 then (some true) else (some (t107 == 24)))) else (some false)))) else (if a0 ≥ 69 then (if a0 ≤ 196 then (some true) else (if a0 ≥ 64512 then (some (decide (a0 ≤ 64519))) else (some false))) else (if a0 ≥ 64512 then (some (decide (a0 ≤ 64519))) else (some false)))
theorem scalar_Numeric.calls (a0 : Int) (r : Bool) (w : World) (h : scalar_Numeric.f a0 = some r) (hG : GD w := by first | assumption | exact GD.below (by assumption) (by repeat (first | exact Aside0.out (by assumption) | exact Below.refl _ _ | assumption | apply below_alloc | apply pw_below_drewN | apply below_drew1 | refine below_set ?_ (Aside0.out (by assumption))))) :
  Calls Tryz.prog 14 #[.int .i64 a0] w fun e w' => e = .returned (.bool r) ∧ Below w.heap.size w w' := by
 have HB := zm_ (Below.refl w.heap.size w); have H : (if a0 ≥ 64768 then ((ops_Imm.f a0).bind fun t107 => ((ops_Known.f a0).bind fun t108 => (if t108 = true then (if t107 = 0 then (some true) else (if t107 = 25 then (some true) else (some (t107 == 24)))) else (some false)))) else (if a0 ≥ 69 then (if a0 ≤ 196 then (some true) else (if a0 ≥ 64512 then (some (decide (a0 ≤ 64519))) else (some false))) else (if a0 ≥ 64512 then (some (decide (a0 ≤ 64519))) else (some false)))) = some r := h; clear h; by_cases c2 : a0 ≥ 64768
 ·rw [if_pos c2] at H; have c2b0 : decide (64768 ≤ a0) = true := decide_eq_true c2; clear c2; replace H := Option.bind_eq_some_iff.mp H; obtain ⟨t107, A30, H⟩ := H; replace H : ((ops_Known.f a0).bind fun t108 => (if t108 = true then (if t107 = 0 then (some true) else (if t107 = 25 then (some true) else (some (t107 == 24)))) else (some false))) = some r := H; have A3 := zm_ A30; clear A30; replace H := Option.bind_eq_some_iff.mp H; obtain ⟨t108, A40, H⟩ := H; replace H : (if t108 = true then (if t107 = 0 then (some true) else (if t107 = 25 then (some true) else (some (t107 == 24)))) else (some false)) = some r := H; have A4 := zm_ A40; clear A40; by_cases c5 : t108 = true
  ·subst c5; have H1 : (if t107 = 0 then (some true) else (if t107 = 25 then (some true) else (some (t107 == 24)))) = some r := by rw [if_pos rfl] at H; exact H
   clear H; have H := H1; clear H1; by_cases c6 : t107 = 0
   ·rw [if_pos c6] at H; have c6b0 : (t107 == 0) = true := beq_iff_eq.mpr c6; have c6b1 : (t107 != 0) = false := bne_eq_false_iff_eq.mpr c6; clear c6; obtain rfl := Option.some.inj H; go_enter Tryz.func14, Tryz.ntmps14
    go_wp2_with (first | ((with_reducible refine gate_callee (f := 26) rfl ?_); refine goesL_ (some 7) rfl rfl Tryz.func26 (by kernel_rfl) rfl #[.int .i64 a0] rfl mp_ ?_; (with_reducible refine (ops_Imm.calls a0 t107 _ A3.out).mono ?_); rintro e w7 ⟨rfl, hb⟩; refine ⟨_, rfl, ?_⟩; have n0_ := zm_ (below_step bl_ hb); clear HB; have HB := n0_; clear n0_; (try clear hb); (try clear hb2); (try clear hk); (try clear hi)) | ((with_reducible refine gate_callee (f := 27) rfl ?_); refine goesL_ (some 9) rfl rfl Tryz.func27 (by kernel_rfl) rfl #[.int .i64 a0] rfl mp_ ?_; (with_reducible refine (ops_Known.calls a0 true _ A4.out).mono ?_); rintro e w8 ⟨rfl, hb⟩; refine ⟨_, rfl, ?_⟩; have n0_ := zm_ (below_step bl_ hb); clear HB; have HB := n0_; clear n0_; (try clear hb); (try clear hb2); (try clear hk); (try clear hi)))
    go_ret; exact ⟨er_, bl_⟩
   ·rw [if_neg c6] at H; have c6b0 : (t107 == 0) = false := beq_eq_false_iff_ne.mpr c6; have c6b1 : (t107 != 0) = true := bne_iff_ne.mpr c6; by_cases c9 : t107 = 25
    ·rw [if_pos c9] at H; have c9b0 : (t107 == 25) = true := beq_iff_eq.mpr c9; have c9b1 : (t107 != 25) = false := bne_eq_false_iff_eq.mpr c9; clear c9; obtain rfl := Option.some.inj H; go_enter Tryz.func14, Tryz.ntmps14
     go_wp2_with (first | ((with_reducible refine gate_callee (f := 26) rfl ?_); refine goesL_ (some 7) rfl rfl Tryz.func26 (by kernel_rfl) rfl #[.int .i64 a0] rfl mp_ ?_; (with_reducible refine (ops_Imm.calls a0 t107 _ A3.out).mono ?_); rintro e w10 ⟨rfl, hb⟩; refine ⟨_, rfl, ?_⟩; have n0_ := zm_ (below_step bl_ hb); clear HB; have HB := n0_; clear n0_; (try clear hb); (try clear hb2); (try clear hk); (try clear hi)) | ((with_reducible refine gate_callee (f := 27) rfl ?_); refine goesL_ (some 9) rfl rfl Tryz.func27 (by kernel_rfl) rfl #[.int .i64 a0] rfl mp_ ?_; (with_reducible refine (ops_Known.calls a0 true _ A4.out).mono ?_); rintro e w11 ⟨rfl, hb⟩; refine ⟨_, rfl, ?_⟩; have n0_ := zm_ (below_step bl_ hb); clear HB; have HB := n0_; clear n0_; (try clear hb); (try clear hb2); (try clear hk); (try clear hi)))
     go_ret; exact ⟨er_, bl_⟩
    ·rw [if_neg c9] at H; have c9b0 : (t107 == 25) = false := beq_eq_false_iff_ne.mpr c9; have c9b1 : (t107 != 25) = true := bne_iff_ne.mpr c9; obtain rfl := Option.some.inj H; go_enter Tryz.func14, Tryz.ntmps14
     go_wp2_with (first | ((with_reducible refine gate_callee (f := 26) rfl ?_); refine goesL_ (some 7) rfl rfl Tryz.func26 (by kernel_rfl) rfl #[.int .i64 a0] rfl mp_ ?_; (with_reducible refine (ops_Imm.calls a0 t107 _ A3.out).mono ?_); rintro e w12 ⟨rfl, hb⟩; refine ⟨_, rfl, ?_⟩; have n0_ := zm_ (below_step bl_ hb); clear HB; have HB := n0_; clear n0_; (try clear hb); (try clear hb2); (try clear hk); (try clear hi)) | ((with_reducible refine gate_callee (f := 27) rfl ?_); refine goesL_ (some 9) rfl rfl Tryz.func27 (by kernel_rfl) rfl #[.int .i64 a0] rfl mp_ ?_; (with_reducible refine (ops_Known.calls a0 true _ A4.out).mono ?_); rintro e w13 ⟨rfl, hb⟩; refine ⟨_, rfl, ?_⟩; have n0_ := zm_ (below_step bl_ hb); clear HB; have HB := n0_; clear n0_; (try clear hb); (try clear hb2); (try clear hk); (try clear hi)))
     go_ret; exact ⟨er_, bl_⟩
  ·replace c5 := Bool.eq_false_iff.mpr c5; subst c5; have H1 : (some false) = some r := by rw [if_neg (show ¬ (false = true) by decide)] at H; exact H
   clear H; have H := H1; clear H1; obtain rfl := Option.some.inj H; go_enter Tryz.func14, Tryz.ntmps14
   go_wp2_with (first | ((with_reducible refine gate_callee (f := 26) rfl ?_); refine goesL_ (some 7) rfl rfl Tryz.func26 (by kernel_rfl) rfl #[.int .i64 a0] rfl mp_ ?_; (with_reducible refine (ops_Imm.calls a0 t107 _ A3.out).mono ?_); rintro e w14 ⟨rfl, hb⟩; refine ⟨_, rfl, ?_⟩; have n0_ := zm_ (below_step bl_ hb); clear HB; have HB := n0_; clear n0_; (try clear hb); (try clear hb2); (try clear hk); (try clear hi)) | ((with_reducible refine gate_callee (f := 27) rfl ?_); refine goesL_ (some 9) rfl rfl Tryz.func27 (by kernel_rfl) rfl #[.int .i64 a0] rfl mp_ ?_; (with_reducible refine (ops_Known.calls a0 false _ A4.out).mono ?_); rintro e w15 ⟨rfl, hb⟩; refine ⟨_, rfl, ?_⟩; have n0_ := zm_ (below_step bl_ hb); clear HB; have HB := n0_; clear n0_; (try clear hb); (try clear hb2); (try clear hk); (try clear hi)))
   go_ret; exact ⟨er_, bl_⟩
 ·rw [if_neg c2] at H; have c2b0 : decide (64768 ≤ a0) = false := decide_eq_false c2; clear c2; by_cases c16 : a0 ≥ 69
  ·rw [if_pos c16] at H; have c16b0 : decide (69 ≤ a0) = true := decide_eq_true c16; clear c16; by_cases c17 : a0 ≤ 196
   ·rw [if_pos c17] at H; have c17b0 : decide (a0 ≤ 196) = true := decide_eq_true c17; clear c17; obtain rfl := Option.some.inj H; go_enter Tryz.func14, Tryz.ntmps14
    go_wp2
    go_ret; exact ⟨er_, bl_⟩
   ·rw [if_neg c17] at H; have c17b0 : decide (a0 ≤ 196) = false := decide_eq_false c17; clear c17; by_cases c18 : a0 ≥ 64512
    ·rw [if_pos c18] at H; have c18b0 : decide (64512 ≤ a0) = true := decide_eq_true c18; clear c18; obtain rfl := Option.some.inj H; go_enter Tryz.func14, Tryz.ntmps14
     go_wp2
     go_ret; exact ⟨er_, bl_⟩
    ·rw [if_neg c18] at H; have c18b0 : decide (64512 ≤ a0) = false := decide_eq_false c18; clear c18; obtain rfl := Option.some.inj H; go_enter Tryz.func14, Tryz.ntmps14
     go_wp2
     go_ret; exact ⟨er_, bl_⟩
  ·rw [if_neg c16] at H; have c16b0 : decide (69 ≤ a0) = false := decide_eq_false c16; clear c16; by_cases c19 : a0 ≥ 64512
   ·rw [if_pos c19] at H; have c19b0 : decide (64512 ≤ a0) = true := decide_eq_true c19; clear c19; obtain rfl := Option.some.inj H; go_enter Tryz.func14, Tryz.ntmps14
    go_wp2
    go_ret; exact ⟨er_, bl_⟩
   ·rw [if_neg c19] at H; have c19b0 : decide (64512 ≤ a0) = false := decide_eq_false c19; clear c19; obtain rfl := Option.some.inj H; go_enter Tryz.func14, Tryz.ntmps14
    go_wp2
    go_ret; exact ⟨er_, bl_⟩
def stringslite_Index.f (a0 : ByteArray) (a1 : ByteArray) : Option (Int) := match a1.data.toList with
 | [c] => some (Lib.indexByte a0.data.toList c)
 | _ => none
theorem stringslite_Index.calls (a0 : ByteArray) (a1 : ByteArray) (r : Int) (w : World) (h : stringslite_Index.f a0 a1 = some r) (hG : GD w := by first | assumption | exact GD.below (by assumption) (by repeat (first | exact Aside0.out (by assumption) | exact Below.refl _ _ | assumption | apply below_alloc | apply pw_below_drewN | apply below_drew1 | refine below_set ?_ (Aside0.out (by assumption))))) :
  Calls Tryz.prog 160 #[.string a0, .string a1] w fun e w' => e = .returned (.int .i64 r) ∧ Drawn0 w w' := by
 unfold stringslite_Index.f at h; split at h
 ·rename_i c hc
  obtain rfl := Option.some.inj h
  have e1 : a1 = ⟨#[c]⟩ := by
   cases a1 with | mk d => cases d with | mk l => simp at hc; subst hc; rfl
  subst e1; refine (Tryz.stringslite_Index_one a0 c w).mono ?_; rintro e w' ⟨rfl, rfl⟩; exact ⟨rfl, Drawn0.refl _⟩
 ·cases h
def stringslite_Cut.f (a0 : ByteArray) (a1 : ByteArray) : Option (ByteArray × ByteArray × Bool) := (stringslite_Index.f a0 a1).bind fun t109 => (if t109 ≥ 0 then (if 0 ≤ t109 then (if t109 ≤ (a0.size : Int) then (if 0 ≤ (wrap64 (t109 + (a1.size : Int))) then (if (wrap64 (t109 + (a1.size : Int))) ≤ (a0.size : Int) then (some (a0.extract 0 (t109 : Int).toNat, a0.extract ((wrap64 (t109 + (a1.size : Int))) : Int).toNat a0.size, true)) else (none)) else (none)) else (none)) else (none)) else (some (a0, (⟨#[]⟩ : ByteArray), false)))
theorem stringslite_Cut.calls (a0 : ByteArray) (a1 : ByteArray) (r1 : ByteArray) (r2 : ByteArray) (r3 : Bool) (w : World) (h : stringslite_Cut.f a0 a1 = some (r1, r2, r3)) (hG : GD w := by first | assumption | exact GD.below (by assumption) (by repeat (first | exact Aside0.out (by assumption) | exact Below.refl _ _ | assumption | apply below_alloc | apply pw_below_drewN | apply below_drew1 | refine below_set ?_ (Aside0.out (by assumption))))) :
  Calls Tryz.prog 73 #[.string a0, .string a1] w fun e w' => e = .returned (.tuple #[.string r1, .string r2, .bool r3]) ∧ Drawn0 w w' := by
 have H : ((stringslite_Index.f a0 a1).bind fun t109 => (if t109 ≥ 0 then (if 0 ≤ t109 then (if t109 ≤ (a0.size : Int) then (if 0 ≤ (wrap64 (t109 + (a1.size : Int))) then (if (wrap64 (t109 + (a1.size : Int))) ≤ (a0.size : Int) then (some (a0.extract 0 (t109 : Int).toNat, a0.extract ((wrap64 (t109 + (a1.size : Int))) : Int).toNat a0.size, true)) else (none)) else (none)) else (none)) else (none)) else (some (a0, (⟨#[]⟩ : ByteArray), false)))) = some (r1, r2, r3) := h; clear h; replace H := Option.bind_eq_some_iff.mp H; obtain ⟨t109, A30, H⟩ := H; replace H : (if t109 ≥ 0 then (if 0 ≤ t109 then (if t109 ≤ (a0.size : Int) then (if 0 ≤ (wrap64 (t109 + (a1.size : Int))) then (if (wrap64 (t109 + (a1.size : Int))) ≤ (a0.size : Int) then (some (a0.extract 0 (t109 : Int).toNat, a0.extract ((wrap64 (t109 + (a1.size : Int))) : Int).toNat a0.size, true)) else (none)) else (none)) else (none)) else (none)) else (some (a0, (⟨#[]⟩ : ByteArray), false))) = some (r1, r2, r3) := H; have A3 := zm_ A30; clear A30; by_cases c4 : t109 ≥ 0
 ·rw [if_pos c4] at H; have c4b0 : decide (0 ≤ t109) = true := decide_eq_true c4; clear c4; by_cases c5 : 0 ≤ t109
  ·rw [if_pos c5] at H; have c5b0 := eq_true c5; have c5b1 : decide (0 ≤ t109) = true := decide_eq_true c5; clear c5; by_cases c6 : t109 ≤ (a0.size : Int)
   ·rw [if_pos c6] at H; have c6b0 := eq_true c6; have c6b1 : decide (t109 ≤ (a0.size : Int)) = true := decide_eq_true c6; clear c6; obtain ⟨ji7, hji7⟩ : ∃ j_ : Int, (wrap64 (t109 + (a1.size : Int))) = j_ := ⟨_, rfl⟩
    replace H : (if 0 ≤ (ji7) then (if (ji7) ≤ (a0.size : Int) then (some (a0.extract 0 (t109 : Int).toNat, a0.extract ((ji7) : Int).toNat a0.size, true)) else (none)) else (none)) = some (r1, r2, r3) := by first | (rw [hji7] at H; exact H) | (simp only [hji7] at H ⊢; exact H)
    (try rw [hji7] at A3)
    have hji7w : (IntKind.i64.wrap (t109 + (a1.size : Int))) = ji7 := (i64_w _).trans hji7; by_cases c8 : 0 ≤ (ji7)
    ·rw [if_pos c8] at H; have c8b0 := eq_true c8; have c8b1 : decide (0 ≤ (ji7)) = true := decide_eq_true c8; clear c8; by_cases c9 : (ji7) ≤ (a0.size : Int)
     ·rw [if_pos c9] at H; have c9b0 := eq_true c9; have c9b1 : decide ((ji7) ≤ (a0.size : Int)) = true := decide_eq_true c9; clear c9; simp only [Option.some.injEq, Prod.mk.injEq] at H; obtain ⟨rfl, rfl, rfl⟩ := H; go_enter Tryz.func73, Tryz.ntmps73
      go_wp2_with (first | (go_at_call 160; (with_reducible refine (stringslite_Index.calls a0 a1 t109 _ A3.out).mono ?_); rintro e w' ⟨rfl, ⟨nd, rfl⟩⟩; (try first | exact qd1_ | exact qd2_)))
      repeat (go_quiet (first | (go_at_call 160; (with_reducible refine (stringslite_Index.calls a0 a1 t109 _ A3.out).mono ?_); rintro e w' ⟨rfl, ⟨nd, rfl⟩⟩; (try first | exact qd1_ | exact qd2_))); try go_wp2_with (first | (go_at_call 160; (with_reducible refine (stringslite_Index.calls a0 a1 t109 _ A3.out).mono ?_); rintro e w' ⟨rfl, ⟨nd, rfl⟩⟩; (try first | exact qd1_ | exact qd2_))))
      go_ret3
      exact ⟨by first | rfl | (simp; done) | (simp only [← hji7] <;> (first | rfl | simp)) | (simp [*]; done), by repeat (first | exact Drawn0.refl _ | apply Drawn0.step)⟩
     ·rw [if_neg c9] at H; exact absurd H (by simp)
    ·rw [if_neg c8] at H; exact absurd H (by simp)
   ·rw [if_neg c6] at H; exact absurd H (by simp)
  ·rw [if_neg c5] at H; exact absurd H (by simp)
 ·rw [if_neg c4] at H; have c4b0 : decide (0 ≤ t109) = false := decide_eq_false c4; clear c4; simp only [Option.some.injEq, Prod.mk.injEq] at H; obtain ⟨rfl, rfl, rfl⟩ := H; go_enter Tryz.func73, Tryz.ntmps73
  go_wp2_with (first | (go_at_call 160; (with_reducible refine (stringslite_Index.calls a0 a1 t109 _ A3.out).mono ?_); rintro e w' ⟨rfl, ⟨nd, rfl⟩⟩; (try first | exact qd1_ | exact qd2_)))
  repeat (go_quiet (first | (go_at_call 160; (with_reducible refine (stringslite_Index.calls a0 a1 t109 _ A3.out).mono ?_); rintro e w' ⟨rfl, ⟨nd, rfl⟩⟩; (try first | exact qd1_ | exact qd2_))); try go_wp2_with (first | (go_at_call 160; (with_reducible refine (stringslite_Index.calls a0 a1 t109 _ A3.out).mono ?_); rintro e w' ⟨rfl, ⟨nd, rfl⟩⟩; (try first | exact qd1_ | exact qd2_))))
  go_ret3
  exact ⟨by first | rfl | (simp; done) | (simp [*]; done), by repeat (first | exact Drawn0.refl _ | apply Drawn0.step)⟩
def strings_Cut.f (a0 : ByteArray) (a1 : ByteArray) : Option (ByteArray × ByteArray × Bool) := (stringslite_Cut.f a0 a1).bind fun bt110 => (some (bt110.1, bt110.2.1, bt110.2.2))
theorem strings_Cut.calls (a0 : ByteArray) (a1 : ByteArray) (r1 : ByteArray) (r2 : ByteArray) (r3 : Bool) (w : World) (h : strings_Cut.f a0 a1 = some (r1, r2, r3)) (hG : GD w := by first | assumption | exact GD.below (by assumption) (by repeat (first | exact Aside0.out (by assumption) | exact Below.refl _ _ | assumption | apply below_alloc | apply pw_below_drewN | apply below_drew1 | refine below_set ?_ (Aside0.out (by assumption))))) :
  Calls Tryz.prog 40 #[.string a0, .string a1] w fun e w' => e = .returned (.tuple #[.string r1, .string r2, .bool r3]) ∧ Drawn0 w w' := by
 have H : ((stringslite_Cut.f a0 a1).bind fun bt110 => (some (bt110.1, bt110.2.1, bt110.2.2))) = some (r1, r2, r3) := h; clear h; replace H := Option.bind_eq_some_iff.mp H; obtain ⟨⟨t110, t111, t112⟩, A30, H⟩ := H; replace H : (some (t110, t111, t112)) = some (r1, r2, r3) := H; have A3 := zm_ A30; clear A30; simp only [Option.some.injEq, Prod.mk.injEq] at H; obtain ⟨rfl, rfl, rfl⟩ := H; go_enter Tryz.func40, Tryz.ntmps40
 go_wp2_with (first | ((with_reducible refine gate_callee (f := 73) rfl ?_); refine goesL_ (some 9) rfl rfl Tryz.func73 (by kernel_rfl) rfl #[.string a0, .string a1] rfl mp_ ?_; (with_reducible refine (stringslite_Cut.calls a0 a1 t110 t111 t112 _ A3.out).mono ?_); rintro e w' ⟨rfl, ⟨nd, rfl⟩⟩; refine ⟨_, rfl, ?_⟩))
 go_ret3
 exact ⟨by first | rfl | (simp; done) | (simp [*]; done), by repeat (first | exact Drawn0.refl _ | apply Drawn0.step)⟩
def ops_types.f (a0 : ByteArray) : Option (List Int) := if a0.size ≤ 1000 then some (typesTo a0 a0.size) else none
theorem ops_types.calls (a0 : ByteArray) (r : List Int) (w : World) (h : ops_types.f a0 = some r) (hG : GD w := by first | assumption | exact GD.below (by assumption) (by repeat (first | exact Aside0.out (by assumption) | exact Below.refl _ _ | assumption | apply below_alloc | apply pw_below_drewN | apply below_drew1 | refine below_set ?_ (Aside0.out (by assumption))))) :
  Calls Tryz.prog 44 #[.string a0] w fun e w' => ∃ v0_ : Value, e = .returned (v0_) ∧ Kd.R (Kd.int .i64) 3 w' w.heap.size (fun _ => True) v0_ r ∧ Below w.heap.size w w' := by
 unfold ops_types.f at h; split at h
 ·obtain rfl := Option.some.inj h; exact types_calls a0 (by assumption) w
 ·cases h
def ops_Sign.f (a0 : Int) : Option (List Int × List Int × Bool) := (ops_part.f a0 2).bind fun t113 => ((strings_Cut.f t113 (⟨#[62]⟩ : ByteArray)).bind fun bt114 => (if bt114.2.2 = true then ((ops_types.f bt114.1).bind fun t117 => ((ops_types.f bt114.2.1).bind fun t120 => (some (t117, t120, true)))) else (some (([] : List Int), ([] : List Int), false))))
theorem ops_Sign.calls (a0 : Int) (r1 : List Int) (r2 : List Int) (r3 : Bool) (w : World) (h : ops_Sign.f a0 = some (r1, r2, r3)) (hG : GD w := by first | assumption | exact GD.below (by assumption) (by repeat (first | exact Aside0.out (by assumption) | exact Below.refl _ _ | assumption | apply below_alloc | apply pw_below_drewN | apply below_drew1 | refine below_set ?_ (Aside0.out (by assumption))))) :
  Calls Tryz.prog 30 #[.int .i64 a0] w fun e w' => ∃ v0_ v1_ : Value, e = .returned (.tuple #[v0_, v1_, .bool r3]) ∧ Kd.R (Kd.int .i64) 3 w' w.heap.size (fun k_ => some k_ ≠ (v1_ : Value).ownBlock) v0_ r1 ∧ Kd.R (Kd.int .i64) 3 w' w.heap.size (fun k_ => some k_ ≠ (v0_ : Value).ownBlock) v1_ r2 ∧ Below w.heap.size w w' := by
 have HB := zm_ (Below.refl w.heap.size w); have H : ((ops_part.f a0 2).bind fun t113 => ((strings_Cut.f t113 (⟨#[62]⟩ : ByteArray)).bind fun bt114 => (if bt114.2.2 = true then ((ops_types.f bt114.1).bind fun t117 => ((ops_types.f bt114.2.1).bind fun t120 => (some (t117, t120, true)))) else (some (([] : List Int), ([] : List Int), false))))) = some (r1, r2, r3) := h; clear h; replace H := Option.bind_eq_some_iff.mp H; obtain ⟨t113, A20, H⟩ := H; replace H : ((strings_Cut.f t113 (⟨#[62]⟩ : ByteArray)).bind fun bt114 => (if bt114.2.2 = true then ((ops_types.f bt114.1).bind fun t117 => ((ops_types.f bt114.2.1).bind fun t120 => (some (t117, t120, true)))) else (some (([] : List Int), ([] : List Int), false)))) = some (r1, r2, r3) := H; have A2 := zm_ A20; clear A20; replace H := Option.bind_eq_some_iff.mp H; obtain ⟨⟨t114, t115, t116⟩, A30, H⟩ := H; replace H : (if t116 = true then ((ops_types.f t114).bind fun t117 => ((ops_types.f t115).bind fun t120 => (some (t117, t120, true)))) else (some (([] : List Int), ([] : List Int), false))) = some (r1, r2, r3) := H; have A3 := zm_ A30; clear A30; by_cases c4 : t116 = true
 ·subst c4; have H1 : ((ops_types.f t114).bind fun t117 => ((ops_types.f t115).bind fun t120 => (some (t117, t120, true)))) = some (r1, r2, r3) := by rw [if_pos rfl] at H; exact H
  clear H; have H := H1; clear H1; replace H := Option.bind_eq_some_iff.mp H; obtain ⟨t117, A50, H⟩ := H; replace H : ((ops_types.f t115).bind fun t120 => (some (t117, t120, true))) = some (r1, r2, r3) := H; have A5 := zm_ A50; clear A50; replace H := Option.bind_eq_some_iff.mp H; obtain ⟨t120, A60, H⟩ := H; replace H : (some (t117, t120, true)) = some (r1, r2, r3) := H; have A6 := zm_ A60; clear A60; simp only [Option.some.injEq, Prod.mk.injEq] at H; obtain ⟨rfl, rfl, rfl⟩ := H; go_enter Tryz.func30, Tryz.ntmps30
  go_wp2_with (first | ((with_reducible refine gate_callee (f := 37) rfl ?_); refine goesL_ (some 10) rfl rfl Tryz.func37 (by kernel_rfl) rfl #[.int .i64 a0, .int .i64 2] rfl mp_ ?_; (with_reducible refine (ops_part.calls a0 2 t113 _ A2.out).mono ?_); rintro e w7 ⟨rfl, hb⟩; refine ⟨_, rfl, ?_⟩; have n0_ := zm_ (below_step bl_ hb); clear HB; have HB := n0_; clear n0_; (try clear hb); (try clear hb2); (try clear hk); (try clear hi)) | ((with_reducible refine gate_callee (f := 40) rfl ?_); refine goesL_ (some 11) rfl rfl Tryz.func40 (by kernel_rfl) rfl #[.string t113, .string (⟨#[62]⟩ : ByteArray)] rfl mp_ ?_; (with_reducible refine (strings_Cut.calls t113 (⟨#[62]⟩ : ByteArray) t114 t115 true _ A3.out).mono ?_); rintro e w' ⟨rfl, ⟨nd, rfl⟩⟩; refine ⟨_, rfl, ?_⟩) | ((with_reducible refine gate_callee (f := 44) rfl ?_); refine goesL_ (some 18) rfl rfl Tryz.func44 (by kernel_rfl) rfl #[.string t114] rfl mp_ ?_; (with_reducible refine (ops_types.calls t114 t117 _ A5.out).mono ?_); rintro e w8 ⟨v118, rfl, ho0, hb⟩; refine ⟨_, rfl, ?_⟩; have n0_ := zm_ (Kd.R_lower ho0 (below_size bl_)); have n1_ := zm_ (below_step bl_ hb); clear HB; have HO119 := n0_; have HB := n1_; clear n0_ n1_; (try clear hb); (try clear hb2); (try clear hk); (try clear hi); (try clear ho0)) | ((with_reducible refine gate_callee (f := 44) rfl ?_); refine goesL_ (some 20) rfl rfl Tryz.func44 (by kernel_rfl) rfl #[.string t115] rfl mp_ ?_; (with_reducible refine (ops_types.calls t115 t120 _ A6.out).mono ?_); rintro e w9 ⟨v121, rfl, ho0, hb⟩; refine ⟨_, rfl, ?_⟩; have n0_ := zm_ (Kd.R_elder' (rl_ HO119) (Kd.R_base ho0) hb); have n1_ := zm_ (Kd.R_lower (Kd.R_new' ho0 (Kd.R_lt (rl_ HO119))) (below_size bl_)); have n2_ := zm_ (below_step bl_ hb); clear HO119; clear HB; have HO119 := n0_; have HO122 := n1_; have HB := n2_; clear n0_ n1_ n2_; (try clear hb); (try clear hb2); (try clear hk); (try clear hi); (try clear ho0)))
  go_ret3
  exact ⟨_, _, er_, by (with_reducible repeat (first | apply Kd.R_alloc | apply Kd.R_drewN | apply Kd.R_drew)); exact Kd.R_mono HO119.out (fun _ hk => hk.2), by (with_reducible repeat (first | apply Kd.R_alloc | apply Kd.R_drewN | apply Kd.R_drew)); exact Kd.R_mono HO122.out (fun _ hk => hk.2), bl_⟩
 ·replace c4 := Bool.eq_false_iff.mpr c4; subst c4; have H1 : (some (([] : List Int), ([] : List Int), false)) = some (r1, r2, r3) := by rw [if_neg (show ¬ (false = true) by decide)] at H; exact H
  clear H; have H := H1; clear H1; simp only [Option.some.injEq, Prod.mk.injEq] at H; obtain ⟨rfl, rfl, rfl⟩ := H; go_enter Tryz.func30, Tryz.ntmps30
  go_wp2_with (first | ((with_reducible refine gate_callee (f := 37) rfl ?_); refine goesL_ (some 10) rfl rfl Tryz.func37 (by kernel_rfl) rfl #[.int .i64 a0, .int .i64 2] rfl mp_ ?_; (with_reducible refine (ops_part.calls a0 2 t113 _ A2.out).mono ?_); rintro e w10 ⟨rfl, hb⟩; refine ⟨_, rfl, ?_⟩; have n0_ := zm_ (below_step bl_ hb); clear HB; have HB := n0_; clear n0_; (try clear hb); (try clear hb2); (try clear hk); (try clear hi)) | ((with_reducible refine gate_callee (f := 40) rfl ?_); refine goesL_ (some 11) rfl rfl Tryz.func40 (by kernel_rfl) rfl #[.string t113, .string (⟨#[62]⟩ : ByteArray)] rfl mp_ ?_; (with_reducible refine (strings_Cut.calls t113 (⟨#[62]⟩ : ByteArray) t114 t115 false _ A3.out).mono ?_); rintro e w' ⟨rfl, ⟨nd, rfl⟩⟩; refine ⟨_, rfl, ?_⟩))
  go_ret3
  exact ⟨_, _, er_, by first | exact Kd.R_nil _ _ _ _ _ | exact Kd.N_nil _ _ _ _ _ | exact Kd.V_nil _ _ _ _ _ | exact Kd.Q_nil _ _ _ _ _ | exact Kd.S_nil _ _ _ _ _, by first | exact Kd.R_nil _ _ _ _ _ | exact Kd.N_nil _ _ _ _ _ | exact Kd.V_nil _ _ _ _ _ | exact Kd.Q_nil _ _ _ _ _ | exact Kd.S_nil _ _ _ _ _, bl_⟩
def ints_right.f (a0 : Int) : Option (Bool) := if a0 = 8 then (some true) else (if a0 = 16 then (some true) else (if a0 = 32 then (some true) else (some (a0 == 64))))
theorem ints_right.calls (a0 : Int) (r : Bool) (w : World) (h : ints_right.f a0 = some r) (hG : GD w := by first | assumption | exact GD.below (by assumption) (by repeat (first | exact Aside0.out (by assumption) | exact Below.refl _ _ | assumption | apply below_alloc | apply pw_below_drewN | apply below_drew1 | refine below_set ?_ (Aside0.out (by assumption))))) :
  Calls Tryz.prog 85 #[.int .i64 a0] w fun e w' => e = .returned (.bool r) ∧ Drawn0 w w' := by
 have H : (if a0 = 8 then (some true) else (if a0 = 16 then (some true) else (if a0 = 32 then (some true) else (some (a0 == 64))))) = some r := h; clear h; by_cases c2 : a0 = 8
 ·rw [if_pos c2] at H; have c2b0 : (a0 == 8) = true := beq_iff_eq.mpr c2; have c2b1 : (a0 != 8) = false := bne_eq_false_iff_eq.mpr c2; clear c2; obtain rfl := Option.some.inj H; go_enter Tryz.func85, Tryz.ntmps85
  go_wp2
  go_ret; exact ⟨by first | rfl | (simp; done) | (simp [*]; done), by repeat (first | exact Drawn0.refl _ | apply Drawn0.step)⟩
 ·rw [if_neg c2] at H; have c2b0 : (a0 == 8) = false := beq_eq_false_iff_ne.mpr c2; have c2b1 : (a0 != 8) = true := bne_iff_ne.mpr c2; by_cases c3 : a0 = 16
  ·rw [if_pos c3] at H; have c3b0 : (a0 == 16) = true := beq_iff_eq.mpr c3; have c3b1 : (a0 != 16) = false := bne_eq_false_iff_eq.mpr c3; clear c3; obtain rfl := Option.some.inj H; go_enter Tryz.func85, Tryz.ntmps85
   go_wp2
   go_ret; exact ⟨by first | rfl | (simp; done) | (simp [*]; done), by repeat (first | exact Drawn0.refl _ | apply Drawn0.step)⟩
  ·rw [if_neg c3] at H; have c3b0 : (a0 == 16) = false := beq_eq_false_iff_ne.mpr c3; have c3b1 : (a0 != 16) = true := bne_iff_ne.mpr c3; by_cases c4 : a0 = 32
   ·rw [if_pos c4] at H; have c4b0 : (a0 == 32) = true := beq_iff_eq.mpr c4; have c4b1 : (a0 != 32) = false := bne_eq_false_iff_eq.mpr c4; clear c4; obtain rfl := Option.some.inj H; go_enter Tryz.func85, Tryz.ntmps85
    go_wp2
    go_ret; exact ⟨by first | rfl | (simp; done) | (simp [*]; done), by repeat (first | exact Drawn0.refl _ | apply Drawn0.step)⟩
   ·rw [if_neg c4] at H; have c4b0 : (a0 == 32) = false := beq_eq_false_iff_ne.mpr c4; have c4b1 : (a0 != 32) = true := bne_iff_ne.mpr c4; obtain rfl := Option.some.inj H; go_enter Tryz.func85, Tryz.ntmps85
    go_wp2
    go_ret; exact ⟨by first | rfl | (simp; done) | (simp [*]; done), by repeat (first | exact Drawn0.refl _ | apply Drawn0.step)⟩
def ints_mask.f (a0 : Int) : Option (Int) := if 0 ≤ (IntKind.u64.wrap (64 - (IntKind.u64.wrap (a0)))) then (some (shr .u64 18446744073709551615 (IntKind.u64.wrap (64 - (IntKind.u64.wrap (a0)))))) else (none)
theorem ints_mask.calls (a0 : Int) (r : Int) (w : World) (h : ints_mask.f a0 = some r) (hG : GD w := by first | assumption | exact GD.below (by assumption) (by repeat (first | exact Aside0.out (by assumption) | exact Below.refl _ _ | assumption | apply below_alloc | apply pw_below_drewN | apply below_drew1 | refine below_set ?_ (Aside0.out (by assumption))))) :
  Calls Tryz.prog 86 #[.int .i64 a0] w fun e w' => e = .returned (.int .u64 r) ∧ Drawn0 w w' := by
 have H : (if 0 ≤ (IntKind.u64.wrap (64 - (IntKind.u64.wrap (a0)))) then (some (shr .u64 18446744073709551615 (IntKind.u64.wrap (64 - (IntKind.u64.wrap (a0)))))) else (none)) = some r := h; clear h; obtain ⟨ji2, hji2⟩ : ∃ j_ : Int, (IntKind.u64.wrap (64 - (IntKind.u64.wrap (a0)))) = j_ := ⟨_, rfl⟩
 replace H : (if 0 ≤ (ji2) then (some (shr .u64 18446744073709551615 (ji2))) else (none)) = some r := by first | (rw [hji2] at H; exact H) | (simp only [hji2] at H ⊢; exact H)
 by_cases c3 : 0 ≤ (ji2)
 ·rw [if_pos c3] at H; have c3b0 := eq_true c3; have c3b1 : decide (0 ≤ (ji2)) = true := decide_eq_true c3; clear c3; obtain ⟨ji4, hji4⟩ : ∃ j_ : Int, (shr .u64 18446744073709551615 (ji2)) = j_ := ⟨_, rfl⟩
  replace H : (some ji4) = some r := by first | (rw [hji4] at H; exact H) | (simp only [hji4] at H ⊢; exact H)
  have hji4_ : (18446744073709551615 / 2 ^ min (ji2).toNat 64) = ji4 := hji4; have hji4z : (ji2) ≤ 64 → (18446744073709551615 / 2 ^ (ji2).toNat) = ji4 := shr_small hji4; obtain rfl := Option.some.inj H; go_enter Tryz.func86, Tryz.ntmps86
  go_wp2
  go_ret; exact ⟨by first | rfl | (simp; done) | (simp only [← hji2, ← hji4] <;> (first | rfl | simp)) | (simp [*]; done), by repeat (first | exact Drawn0.refl _ | apply Drawn0.step)⟩
 ·rw [if_neg c3] at H; exact absurd H (by simp)
def ints_Signed.f (a0 : Int) (a1 : Int) : Option (Int) := (ints_right.f a0).bind fun t123 => (if t123 = true then (if 0 ≤ (IntKind.u64.wrap (64 - (IntKind.u64.wrap (a0)))) then (some (shr .i64 (wrap64 (shl .u64 a1 (IntKind.u64.wrap (64 - (IntKind.u64.wrap (a0)))))) (IntKind.u64.wrap (64 - (IntKind.u64.wrap (a0)))))) else (none)) else (some 0))
theorem ints_Signed.calls (a0 : Int) (a1 : Int) (r : Int) (w : World) (h : ints_Signed.f a0 a1 = some r) (hG : GD w := by first | assumption | exact GD.below (by assumption) (by repeat (first | exact Aside0.out (by assumption) | exact Below.refl _ _ | assumption | apply below_alloc | apply pw_below_drewN | apply below_drew1 | refine below_set ?_ (Aside0.out (by assumption))))) :
  Calls Tryz.prog 87 #[.int .i64 a0, .int .u64 a1] w fun e w' => e = .returned (.int .i64 r) ∧ Drawn0 w w' := by
 have H : ((ints_right.f a0).bind fun t123 => (if t123 = true then (if 0 ≤ (IntKind.u64.wrap (64 - (IntKind.u64.wrap (a0)))) then (some (shr .i64 (wrap64 (shl .u64 a1 (IntKind.u64.wrap (64 - (IntKind.u64.wrap (a0)))))) (IntKind.u64.wrap (64 - (IntKind.u64.wrap (a0)))))) else (none)) else (some 0))) = some r := h; clear h; replace H := Option.bind_eq_some_iff.mp H; obtain ⟨t123, A30, H⟩ := H; replace H : (if t123 = true then (if 0 ≤ (IntKind.u64.wrap (64 - (IntKind.u64.wrap (a0)))) then (some (shr .i64 (wrap64 (shl .u64 a1 (IntKind.u64.wrap (64 - (IntKind.u64.wrap (a0)))))) (IntKind.u64.wrap (64 - (IntKind.u64.wrap (a0)))))) else (none)) else (some 0)) = some r := H; have A3 := zm_ A30; clear A30; by_cases c4 : t123 = true
 ·subst c4; have H1 : (if 0 ≤ (IntKind.u64.wrap (64 - (IntKind.u64.wrap (a0)))) then (some (shr .i64 (wrap64 (shl .u64 a1 (IntKind.u64.wrap (64 - (IntKind.u64.wrap (a0)))))) (IntKind.u64.wrap (64 - (IntKind.u64.wrap (a0)))))) else (none)) = some r := by rw [if_pos rfl] at H; exact H
  clear H; have H := H1; clear H1; obtain ⟨ji5, hji5⟩ : ∃ j_ : Int, (IntKind.u64.wrap (64 - (IntKind.u64.wrap (a0)))) = j_ := ⟨_, rfl⟩
  replace H : (if 0 ≤ (ji5) then (some (shr .i64 (wrap64 (shl .u64 a1 (ji5))) (ji5))) else (none)) = some r := by first | (rw [hji5] at H; exact H) | (simp only [hji5] at H ⊢; exact H)
  (try rw [hji5] at A3)
  by_cases c6 : 0 ≤ (ji5)
  ·rw [if_pos c6] at H; have c6b0 := eq_true c6; have c6b1 : decide (0 ≤ (ji5)) = true := decide_eq_true c6; clear c6; obtain ⟨ji7, hji7⟩ : ∃ j_ : Int, (shl .u64 a1 (ji5)) = j_ := ⟨_, rfl⟩
   replace H : (some (shr .i64 (wrap64 (ji7)) (ji5))) = some r := by first | (rw [hji7] at H; exact H) | (simp only [hji7] at H ⊢; exact H)
   (try rw [hji7] at A3)
   have hji7_ : (IntKind.u64.wrap (a1 * 2 ^ min (ji5).toNat 64)) = ji7 := hji7; have hji7z : (ji5) ≤ 64 → (IntKind.u64.wrap (a1 * 2 ^ (ji5).toNat)) = ji7 := shl_small hji7; have c8b0 := eq_true (od_ : 0 ≤ (ji5)); obtain ⟨ji9, hji9⟩ : ∃ j_ : Int, (shr .i64 (wrap64 (ji7)) (ji5)) = j_ := ⟨_, rfl⟩
   replace H : (some ji9) = some r := by first | (rw [hji9] at H; exact H) | (simp only [hji9] at H ⊢; exact H)
   (try rw [hji9] at A3)
   have hji9_ : ((wrap64 (ji7)) / 2 ^ min (ji5).toNat 64) = ji9 := hji9; have hji9z : (ji5) ≤ 64 → ((wrap64 (ji7)) / 2 ^ (ji5).toNat) = ji9 := shr_small hji9; obtain rfl := Option.some.inj H; go_enter Tryz.func87, Tryz.ntmps87
   go_wp2_with (first | ((with_reducible refine gate_callee (f := 85) rfl ?_); refine goesL_ (some 7) rfl rfl Tryz.func85 (by kernel_rfl) rfl #[.int .i64 a0] rfl mp_ ?_; (with_reducible refine (ints_right.calls a0 true _ A3.out).mono ?_); rintro e w' ⟨rfl, ⟨nd, rfl⟩⟩; refine ⟨_, rfl, ?_⟩))
   go_ret; exact ⟨by first | rfl | (simp; done) | (simp only [← hji5, ← hji7, ← hji9] <;> (first | rfl | simp)) | (simp [*]; done), by repeat (first | exact Drawn0.refl _ | apply Drawn0.step)⟩
  ·rw [if_neg c6] at H; exact absurd H (by simp)
 ·replace c4 := Bool.eq_false_iff.mpr c4; subst c4; have H1 : (some 0) = some r := by rw [if_neg (show ¬ (false = true) by decide)] at H; exact H
  clear H; have H := H1; clear H1; obtain rfl := Option.some.inj H; go_enter Tryz.func87, Tryz.ntmps87
  go_wp2_with (first | ((with_reducible refine gate_callee (f := 85) rfl ?_); refine goesL_ (some 7) rfl rfl Tryz.func85 (by kernel_rfl) rfl #[.int .i64 a0] rfl mp_ ?_; (with_reducible refine (ints_right.calls a0 false _ A3.out).mono ?_); rintro e w' ⟨rfl, ⟨nd, rfl⟩⟩; refine ⟨_, rfl, ?_⟩))
  go_ret; exact ⟨by first | rfl | (simp; done) | (simp [*]; done), by repeat (first | exact Drawn0.refl _ | apply Drawn0.step)⟩
end Go.Proofs.YtkhhhceeoljheaaGreatDoor.PFlo
