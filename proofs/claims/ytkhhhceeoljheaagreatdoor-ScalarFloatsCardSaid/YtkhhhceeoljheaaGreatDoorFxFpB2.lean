import Derived.Test.YtkhhhceeoljheaaGreatDoorFxFpM
set_option linter.unusedVariables false
set_option linter.unusedSimpArgs false
set_option linter.unusedVariables false
set_option maxHeartbeats 8000000
set_option maxRecDepth 100000
namespace Go.Proofs.YtkhhhceeoljheaaGreatDoor
open Go.RowKit Go.Proofs.YtkhhhceeoljheaaGreatDoor.Fl Ieee Go.Proofs.YtkhhhceeoljheaaGreatDoorW.PrintWords Go.Proofs.YtkhhhceeoljheaaGreatDoorW.PrintLast Go.Proofs.YtkhhhceeoljheaaGreatDoorW.PrintMore
theorem of_32 (w : World) : Calls Tryz.prog 88 #[.int .i64 32] w fun e w' => e = .returned (.agg #[.int .i64 23, .int .i64 8]) ∧ Below w.heap.size w w' := by
  have HB := zm_ (Below.refl w.heap.size w); go_enter Tryz.func88, Tryz.ntmps88
  go_wp2
  refine bodyPost_ret (results_cell_row rfl _ _ w.heap.size 94 #[.int .i64 23, .int .i64 8] (0, 0) _ rfl (heap_alloc_new _ _) Tryz.underlying94 rfl (by kernel_rfl)) rfl ?_; exact ⟨rfl, bl2_⟩
theorem of_64 (w : World) : Calls Tryz.prog 88 #[.int .i64 64] w fun e w' => e = .returned (.agg #[.int .i64 52, .int .i64 11]) ∧ Below w.heap.size w w' := by
  have HB := zm_ (Below.refl w.heap.size w); go_enter Tryz.func88, Tryz.ntmps88
  go_wp2
  refine bodyPost_ret (results_cell_row rfl _ _ w.heap.size 94 #[.int .i64 52, .int .i64 11] (0, 0) _ rfl (heap_alloc_new _ _) Tryz.underlying94 rfl (by kernel_rfl)) rfl ?_; exact ⟨rfl, bl2_⟩
theorem none_c (F E : Int) (hF : Fm F E)  (w : World) : Calls Tryz.prog 89 #[.agg #[.int .i64 F, .int .i64 E]] w fun e w' => e = .returned (.bool false) ∧ Below w.heap.size w w' := by
  have HB := zm_ (Below.refl w.heap.size w); rcases hF with ⟨rfl, rfl⟩ | ⟨rfl, rfl⟩
  all_goals
    go_enter Tryz.func89, Tryz.ntmps89
    go_wp2_with (first | ((with_reducible refine gate_dst (N := 1) rfl ?_); (refine bx_ rfl ?_); intro gb w4 hbox hb; replace HB := zm_ (below_step bl2_ hb); have BK := zm_ hbox; clear hb hbox; obtain ⟨z0, z1, y0, y1⟩ := zz_ BK))
    go_ret; exact ⟨rfl, bl2_⟩
def Fn (n F E : Int) : Prop := (n = 32 ∧ F = 23 ∧ E = 8) ∨ (n = 64 ∧ F = 52 ∧ E = 11)
theorem Fn.fm {n F E : Int} (h : Fn n F E) : Fm F E := h.imp And.right And.right
theorem cut_n (F E : Int) (hF : Fm F E) (a c : Nat) (ha : a < 18446744073709551616) (hc : Hid (a % (2 * (fmt F).signWeight) = c)) (w : World) : Calls Tryz.prog 100 #[.agg #[.int .i64 F, .int .i64 E], .int .u64 a] w fun e w' => e = .returned (.int .u64 (c : Int)) ∧ Below w.heap.size w w' := by
  have h := cut_c F E hF a ha w; rw [hc.out] at h; exact h
theorem un_1 (n F E : Int) (hF : Fn n F E) (a : Nat) (ha : a < 18446744073709551616) (c : Nat) (Hc : Hid (a % (2 * (fmt F).signWeight) = c)) (hc : c < 18446744073709551616) (Hl : c < 2 * (fmt F).signWeight)  (w : World) : Calls Tryz.prog 99 #[.int .i64 n, .int .i64 1, .int .u64 a] w fun e w' => e = .returned (.tuple #[.int .u64 (siz (fmt F) c : Nat), .int .i64 0]) ∧ Below w.heap.size w w' := by
  have HB := zm_ (Below.refl w.heap.size w); rcases hF with ⟨rfl, rfl, rfl⟩ | ⟨rfl, rfl, rfl⟩
  all_goals
    go_enter Tryz.func99, Tryz.ntmps99
    go_upto_region 2 with (first | (go_at_call 88; (first | (with_reducible refine (of_32 _).mono ?_) | (with_reducible refine (of_64 _).mono ?_)); rintro e w4 ⟨rfl, hb⟩; replace HB := zm_ (below_step bl2_ hb); clear hb))
    first | (show Code.wp _ _ _ _ (w4.alloc (Obj.cells #[.int .i64 23, .int .i64 8] 94 (0, 0))); have BK := zm_ (heap_alloc_new w4 (Obj.cells #[.int .i64 23, .int .i64 8] 94 (0, 0))); replace HB := zm_ (below_alloc HB.out (Obj.cells #[.int .i64 23, .int .i64 8] 94 (0, 0))); generalize w4.alloc (Obj.cells #[.int .i64 23, .int .i64 8] 94 (0, 0)) = w5 at BK HB ⊢; generalize w4.heap.size = gb at BK ⊢) | (show Code.wp _ _ _ _ (w4.alloc (Obj.cells #[.int .i64 52, .int .i64 11] 94 (0, 0))); have BK := zm_ (heap_alloc_new w4 (Obj.cells #[.int .i64 52, .int .i64 11] 94 (0, 0))); replace HB := zm_ (below_alloc HB.out (Obj.cells #[.int .i64 52, .int .i64 11] 94 (0, 0))); generalize w4.alloc (Obj.cells #[.int .i64 52, .int .i64 11] 94 (0, 0)) = w5 at BK HB ⊢; generalize w4.heap.size = gb at BK ⊢)
    obtain ⟨z0, z1, y0, y1⟩ := zz_ BK; go_wp2_with (first | (go_at_call 89; (with_reducible refine (none_c _ _ fm_ _).mono ?_); refine cb_ BK HB ?_; intro w4 BK HB z0 z1 y0 y1) | (go_at_call 100; (with_reducible refine (cut_n _ _ fm_ _ c (by assumption) Hc _).mono ?_); refine cb_ BK HB ?_; intro w4 BK HB z0 z1 y0 y1) | (go_at_call 103; (with_reducible refine (size_c _ _ fm_ _ (by assumption) _).mono ?_); refine cb_ BK HB ?_; intro w4 BK HB z0 z1 y0 y1))
    all_goals go_ret2
    all_goals exact ⟨ret2i (rfl) rfl, bl2_⟩
theorem fxorN (a b : Nat) (ha : a < 18446744073709551616) (hb : b < 18446744073709551616) : bits .xor .u64 (a : Int) (b : Int) = ((a ^^^ b : Nat) : Int) := by
  have h2 : a ^^^ b < 2 ^ 64 := Nat.xor_lt_two_pow (by omega) (by omega)
  have key : (BitVec.ofInt 64 (a : Int) ^^^ BitVec.ofInt 64 (b : Int)).toNat = a ^^^ b := by
    rw [BitVec.toNat_xor, BitVec.toNat_ofInt, BitVec.toNat_ofInt]; congr 1 <;> omega
  show IntKind.u64.wrap ((BitVec.ofInt 64 (a : Int) ^^^ BitVec.ofInt 64 (b : Int)).toNat : Nat) = _
  rw [key]; exact u64i (by omega) (by omega)
theorem xor_add (r p : Nat) (h : r < 2 ^ p) : r ^^^ 2 ^ p = 2 ^ p + r := by
  rw [← or_add r p h]; apply Nat.eq_of_testBit_eq
  intro i; rw [Nat.testBit_xor, Nat.testBit_or, Nat.testBit_two_pow]; by_cases c : p = i
  · subst c
    rw [Nat.testBit_lt_two_pow h, decide_eq_true rfl]; rfl
  · rw [decide_eq_false c]
    cases r.testBit i <;> rfl
theorem xor_i (F E : Int) (hF : Fm F E) (c : Nat) (h : c < 2 * (fmt F).signWeight) : bits .xor .u64 (c : Int) (swt F) = (((fmt F).word (!neg (fmt F) c) (siz (fmt F) c) : Nat) : Int) := by
  have hs := sw_p F E hF; have hl := siz_lt (fmt F) c; have hw := word_eq (fmt F) c h; rw [swt_n F E hF, fxorN _ _ (by omega) (by omega)]; congr 1
  generalize siz (fmt F) c = r at *; have hx := xor_add r ((fmt F).exponentBits + (fmt F).fractionBits) hl; rw [← sw_pow] at hx; cases hn : neg (fmt F) c
  · rw [hn] at hw
    have hw : r = c := hw; rw [← hw, hx]; rfl
  · rw [hn] at hw
    have hw : (fmt F).signWeight + r = c := hw; rw [← hw, ← hx, Nat.xor_assoc, Nat.xor_self, Nat.xor_zero]; rfl
theorem un_2 (n F E : Int) (hF : Fn n F E) (a : Nat) (ha : a < 18446744073709551616) (c : Nat) (Hc : Hid (a % (2 * (fmt F).signWeight) = c)) (hc : c < 18446744073709551616) (Hl : c < 2 * (fmt F).signWeight)  (w : World) : Calls Tryz.prog 99 #[.int .i64 n, .int .i64 2, .int .u64 a] w fun e w' => e = .returned (.tuple #[.int .u64 ((fmt F).word (!neg (fmt F) c) (siz (fmt F) c) : Nat), .int .i64 0]) ∧ Below w.heap.size w w' := by
  have HB := zm_ (Below.refl w.heap.size w); rcases hF with ⟨rfl, rfl, rfl⟩ | ⟨rfl, rfl, rfl⟩
  all_goals
    go_enter Tryz.func99, Tryz.ntmps99
    go_upto_region 2 with (first | (go_at_call 88; (first | (with_reducible refine (of_32 _).mono ?_) | (with_reducible refine (of_64 _).mono ?_)); rintro e w4 ⟨rfl, hb⟩; replace HB := zm_ (below_step bl2_ hb); clear hb))
    first | (show Code.wp _ _ _ _ (w4.alloc (Obj.cells #[.int .i64 23, .int .i64 8] 94 (0, 0))); have BK := zm_ (heap_alloc_new w4 (Obj.cells #[.int .i64 23, .int .i64 8] 94 (0, 0))); replace HB := zm_ (below_alloc HB.out (Obj.cells #[.int .i64 23, .int .i64 8] 94 (0, 0))); generalize w4.alloc (Obj.cells #[.int .i64 23, .int .i64 8] 94 (0, 0)) = w5 at BK HB ⊢; generalize w4.heap.size = gb at BK ⊢) | (show Code.wp _ _ _ _ (w4.alloc (Obj.cells #[.int .i64 52, .int .i64 11] 94 (0, 0))); have BK := zm_ (heap_alloc_new w4 (Obj.cells #[.int .i64 52, .int .i64 11] 94 (0, 0))); replace HB := zm_ (below_alloc HB.out (Obj.cells #[.int .i64 52, .int .i64 11] 94 (0, 0))); generalize w4.alloc (Obj.cells #[.int .i64 52, .int .i64 11] 94 (0, 0)) = w5 at BK HB ⊢; generalize w4.heap.size = gb at BK ⊢)
    obtain ⟨z0, z1, y0, y1⟩ := zz_ BK; go_wp2_with (first | (go_at_call 89; (with_reducible refine (none_c _ _ fm_ _).mono ?_); refine cb_ BK HB ?_; intro w4 BK HB z0 z1 y0 y1) | (go_at_call 100; (with_reducible refine (cut_n _ _ fm_ _ c (by assumption) Hc _).mono ?_); refine cb_ BK HB ?_; intro w4 BK HB z0 z1 y0 y1) | (go_at_call 105; (with_reducible refine (sign_c _ _ fm_ _).mono ?_); refine cb_ BK HB ?_; intro w4 BK HB z0 z1 y0 y1))
    all_goals go_ret2
    all_goals exact ⟨ret2i (xor_i _ _ fm_ c Hl) rfl, bl2_⟩
theorem un_3 (n F E : Int) (hF : Fn n F E) (a : Nat) (ha : a < 18446744073709551616) (c : Nat) (Hc : Hid (a % (2 * (fmt F).signWeight) = c)) (hc : c < 18446744073709551616) (Hl : c < 2 * (fmt F).signWeight) (r : Nat) (Hr : Hid (rtv F c r))  (w : World) : Calls Tryz.prog 99 #[.int .i64 n, .int .i64 3, .int .u64 a] w fun e w' => e = .returned (.tuple #[.int .u64 (if isN (fmt F) c = true then (nn F : Int) else (r : Int)), .int .i64 0]) ∧ Below w.heap.size w w' := by
  have HB := zm_ (Below.refl w.heap.size w); rcases hF with ⟨rfl, rfl, rfl⟩ | ⟨rfl, rfl, rfl⟩
  all_goals
    go_enter Tryz.func99, Tryz.ntmps99
    go_upto_region 2 with (first | (go_at_call 88; (first | (with_reducible refine (of_32 _).mono ?_) | (with_reducible refine (of_64 _).mono ?_)); rintro e w4 ⟨rfl, hb⟩; replace HB := zm_ (below_step bl2_ hb); clear hb))
    first | (show Code.wp _ _ _ _ (w4.alloc (Obj.cells #[.int .i64 23, .int .i64 8] 94 (0, 0))); have BK := zm_ (heap_alloc_new w4 (Obj.cells #[.int .i64 23, .int .i64 8] 94 (0, 0))); replace HB := zm_ (below_alloc HB.out (Obj.cells #[.int .i64 23, .int .i64 8] 94 (0, 0))); generalize w4.alloc (Obj.cells #[.int .i64 23, .int .i64 8] 94 (0, 0)) = w5 at BK HB ⊢; generalize w4.heap.size = gb at BK ⊢) | (show Code.wp _ _ _ _ (w4.alloc (Obj.cells #[.int .i64 52, .int .i64 11] 94 (0, 0))); have BK := zm_ (heap_alloc_new w4 (Obj.cells #[.int .i64 52, .int .i64 11] 94 (0, 0))); replace HB := zm_ (below_alloc HB.out (Obj.cells #[.int .i64 52, .int .i64 11] 94 (0, 0))); generalize w4.alloc (Obj.cells #[.int .i64 52, .int .i64 11] 94 (0, 0)) = w5 at BK HB ⊢; generalize w4.heap.size = gb at BK ⊢)
    obtain ⟨z0, z1, y0, y1⟩ := zz_ BK; go_wp2_with (first | (go_at_call 89; (with_reducible refine (none_c _ _ fm_ _).mono ?_); refine cb_ BK HB ?_; intro w4 BK HB z0 z1 y0 y1) | (go_at_call 100; (with_reducible refine (cut_n _ _ fm_ _ c (by assumption) Hc _).mono ?_); refine cb_ BK HB ?_; intro w4 BK HB z0 z1 y0 y1) | (go_at_call 90; (with_reducible refine (isNaN_c _ _ fm_ _ (by assumption) _).mono ?_); refine cb_ BK HB ?_; intro w4 BK HB z0 z1 y0 y1) | (go_at_call 104; (with_reducible refine (nan_c _ _ fm_ _).mono ?_); refine cb_ BK HB ?_; intro w4 BK HB z0 z1 y0 y1) | (go_at_call 177; (with_reducible refine (sqrt_c _ _ fm_ c Hl ((isN_lt _ _).1 (by assumption)) r Hr.out _).mono ?_); refine cb_ BK HB ?_; intro w4 BK HB z0 z1 y0 y1))
    all_goals go_ret2
    all_goals exact ⟨ret2i rfl rfl, bl2_⟩
theorem un_4 (n F E : Int) (hF : Fn n F E) (a : Nat) (ha : a < 18446744073709551616) (c : Nat) (Hc : Hid (a % (2 * (fmt F).signWeight) = c)) (hc : c < 18446744073709551616) (Hl : c < 2 * (fmt F).signWeight) (op : Int) (Ho : op = 4 ∨ op = 5 ∨ op = 6 ∨ op = 7) (o0 : decide (op < 1) = false) (o9 : decide (7 < op) = false) (o1 : (op == 1) = false) (o2 : (op == 2) = false) (o3 : (op == 3) = false)  (w : World) : Calls Tryz.prog 99 #[.int .i64 n, .int .i64 op, .int .u64 a] w fun e w' => e = .returned (.tuple #[.int .u64 (if isN (fmt F) c = true then (nn F : Int) else ((whlF (fmt F) (wyo op) c : Nat) : Int)), .int .i64 0]) ∧ Below w.heap.size w w' := by
  have HB := zm_ (Below.refl w.heap.size w); rcases hF with ⟨rfl, rfl, rfl⟩ | ⟨rfl, rfl, rfl⟩
  all_goals
    go_enter Tryz.func99, Tryz.ntmps99
    go_upto_region 2 with (first | (go_at_call 88; (first | (with_reducible refine (of_32 _).mono ?_) | (with_reducible refine (of_64 _).mono ?_)); rintro e w4 ⟨rfl, hb⟩; replace HB := zm_ (below_step bl2_ hb); clear hb))
    first | (show Code.wp _ _ _ _ (w4.alloc (Obj.cells #[.int .i64 23, .int .i64 8] 94 (0, 0))); have BK := zm_ (heap_alloc_new w4 (Obj.cells #[.int .i64 23, .int .i64 8] 94 (0, 0))); replace HB := zm_ (below_alloc HB.out (Obj.cells #[.int .i64 23, .int .i64 8] 94 (0, 0))); generalize w4.alloc (Obj.cells #[.int .i64 23, .int .i64 8] 94 (0, 0)) = w5 at BK HB ⊢; generalize w4.heap.size = gb at BK ⊢) | (show Code.wp _ _ _ _ (w4.alloc (Obj.cells #[.int .i64 52, .int .i64 11] 94 (0, 0))); have BK := zm_ (heap_alloc_new w4 (Obj.cells #[.int .i64 52, .int .i64 11] 94 (0, 0))); replace HB := zm_ (below_alloc HB.out (Obj.cells #[.int .i64 52, .int .i64 11] 94 (0, 0))); generalize w4.alloc (Obj.cells #[.int .i64 52, .int .i64 11] 94 (0, 0)) = w5 at BK HB ⊢; generalize w4.heap.size = gb at BK ⊢)
    obtain ⟨z0, z1, y0, y1⟩ := zz_ BK; go_wp2_with (first | (go_at_call 89; (with_reducible refine (none_c _ _ fm_ _).mono ?_); refine cb_ BK HB ?_; intro w4 BK HB z0 z1 y0 y1) | (go_at_call 100; (with_reducible refine (cut_n _ _ fm_ _ c (by assumption) Hc _).mono ?_); refine cb_ BK HB ?_; intro w4 BK HB z0 z1 y0 y1) | (go_at_call 90; (with_reducible refine (isNaN_c _ _ fm_ _ (by assumption) _).mono ?_); refine cb_ BK HB ?_; intro w4 BK HB z0 z1 y0 y1) | (go_at_call 104; (with_reducible refine (nan_c _ _ fm_ _).mono ?_); refine cb_ BK HB ?_; intro w4 BK HB z0 z1 y0 y1) | (go_at_call 178; (with_reducible refine (whole_c _ _ fm_ op Ho c Hl ((isN_lt _ _).1 (by assumption)) _).mono ?_); refine cb_ BK HB ?_; intro w4 BK HB z0 z1 y0 y1))
    all_goals go_ret2
    all_goals exact ⟨ret2i rfl rfl, bl2_⟩
theorem fn_s {n F E : Int} (h : Fn n F E) : (n = 32 ∧ F = 23 ∧ fmt F = single ∧ (fmt F).signWeight = 2147483648) ∨ (n = 64 ∧ F = 52 ∧ fmt F = double ∧ (fmt F).signWeight = 9223372036854775808) := by
  rcases h with ⟨rfl, rfl, rfl⟩ | ⟨rfl, rfl, rfl⟩
  · exact Or.inl ⟨rfl, rfl, rfl, sS⟩
  · exact Or.inr ⟨rfl, rfl, rfl, dS⟩
theorem un_all (n F E : Int) (hF : Fn n F E) (op : Int) (ho : 1 ≤ op ∧ op ≤ 7) (a : Nat) (ha : a < 18446744073709551616) (c : Nat) (Hc : a % (2 * (fmt F).signWeight) = c) (u : Nat) (hu : (F = 23 → un32 op c = some u) ∧ (F = 52 → un64 op c = u)) (w : World) :
    Calls Tryz.prog 99 #[.int .i64 n, .int .i64 op, .int .u64 a] w fun e w' => e = .returned (.tuple #[.int .u64 (u : Nat), .int .i64 0]) ∧ Below w.heap.size w w' := by
  have hb := fm_b F E hF.fm; have hsp : 0 < (fmt F).signWeight := Nat.two_pow_pos _; have Hl : c < 2 * (fmt F).signWeight := by rw [← Hc]; exact Nat.mod_lt _ (by omega)
  have hc : c < 18446744073709551616 := by omega
  have cw : (fmt F).word (!neg (fmt F) c) (siz (fmt F) c) = if (fmt F).signWeight ≤ c then c - (fmt F).signWeight else c + (fmt F).signWeight := by
    have hw := word_eq (fmt F) c Hl; have hl := siz_lt (fmt F) c; cases hn : neg (fmt F) c
    · rw [hn] at hw
      have hw : siz (fmt F) c = c := hw; rw [if_neg (by omega), hw]; show (fmt F).signWeight + c = _
      omega
    · rw [hn] at hw
      have hw : (fmt F).signWeight + siz (fmt F) c = c := hw; rw [if_pos (by omega)]; show siz (fmt F) c = _
      omega
  by_cases o1 : op = 1
  · subst o1
    have e : u = siz (fmt F) c := by
      rcases fn_s hF with ⟨rfl, rfl, e, e2⟩ | ⟨rfl, rfl, e, e2⟩
      · have h : some (c % 2147483648) = some u := hu.1 rfl
        rw [← Option.some.inj h, ← e2]; rfl
      · have h : c % 9223372036854775808 = u := hu.2 rfl
        rw [← h, ← e2]; rfl
    rw [e]; exact un_1 n F E hF a ha c (Lib.hid Hc) hc Hl w
  by_cases o2 : op = 2
  · subst o2
    have e : u = (fmt F).word (!neg (fmt F) c) (siz (fmt F) c) := by
      rw [cw]; rcases fn_s hF with ⟨rfl, rfl, e, e2⟩ | ⟨rfl, rfl, e, e2⟩
      · have h : some (if 2147483648 ≤ c then c - 2147483648 else c + 2147483648) = some u := hu.1 rfl
        rw [← Option.some.inj h, ← e2]
      · have h : (if 9223372036854775808 ≤ c then c - 9223372036854775808 else c + 9223372036854775808) = u := hu.2 rfl
        rw [← h, ← e2]
    rw [e]; exact un_2 n F E hF a ha c (Lib.hid Hc) hc Hl w
  by_cases o3 : op = 3
  · subst o3
    have h := un_3 n F E hF a ha c (Lib.hid Hc) hc Hl u (Lib.hid hu) w
    have e : (if isN (fmt F) c = true then (nn F : Int) else (u : Int)) = (u : Int) := by
      by_cases k : isN (fmt F) c = true
      · rw [if_pos k]
        rcases fn_s hF with ⟨rfl, rfl, e, e2⟩ | ⟨rfl, rfl, e, e2⟩
        · rw [e] at k
          have h := hu.1 rfl; unfold un32 at h; rw [if_neg (by decide), if_neg (by decide), if_pos k] at h; rw [← Option.some.inj h]; rfl
        · rw [e] at k
          have h := hu.2 rfl; unfold un64 at h; rw [if_neg (by decide), if_neg (by decide), mth_nan 3 c k] at h; rw [← h]; rfl
      · rw [if_neg k]
    rw [e] at h; exact h
  have e : (if isN (fmt F) c = true then (nn F : Int) else ((whlF (fmt F) (wyo op) c : Nat) : Int)) = (u : Int) := by
    rcases fn_s hF with ⟨rfl, rfl, e, e2⟩ | ⟨rfl, rfl, e, e2⟩
    · have h := hu.1 rfl
      rw [un32_whl op (by omega) c (by omega)] at h; rw [← Option.some.inj h, e]; split <;> rfl
    · have h := hu.2 rfl
      rw [un64_whl op (by omega) c] at h; rw [← h, e]; split <;> rfl
  have h := un_4 n F E hF a ha c (Lib.hid Hc) hc Hl op (by omega) (decide_eq_false (by omega)) (decide_eq_false (by omega)) (beq_false_of_ne o1) (beq_false_of_ne o2) (beq_false_of_ne o3) w; rw [e] at h; exact h
theorem un_any32 (op : Int) (a u : Nat) (w : World) (ho : 1 ≤ op ∧ op ≤ 7) (ha : a < 18446744073709551616) (hu : un32 op (a % 4294967296) = some u) : Calls Tryz.prog 99 #[.int .i64 32, .int .i64 op, .int .u64 a] w fun e w' => e = .returned (.tuple #[.int .u64 u, .int .i64 0]) ∧ Below w.heap.size w w' :=
  un_all 32 23 8 (Or.inl ⟨rfl, rfl, rfl⟩) op ho a ha (a % 4294967296) (by rw [show (fmt 23).signWeight = 2147483648 from sS]) u ⟨fun _ => hu, fun h => absurd h (by decide)⟩ w
theorem un_any64 (op : Int) (a : Nat) (w : World) (ho : 1 ≤ op ∧ op ≤ 7) (ha : a < 18446744073709551616) : Calls Tryz.prog 99 #[.int .i64 64, .int .i64 op, .int .u64 a] w fun e w' => e = .returned (.tuple #[.int .u64 (un64 op a : Nat), .int .i64 0]) ∧ Below w.heap.size w w' :=
  un_all 64 52 11 (Or.inr ⟨rfl, rfl, rfl⟩) op ho a ha a (by rw [show (fmt 52).signWeight = 9223372036854775808 from dS]; exact Nat.mod_eq_of_lt ha) (un64 op a) ⟨fun h => absurd h (by decide), fun _ => rfl⟩ w
end Go.Proofs.YtkhhhceeoljheaaGreatDoor
set_option linter.unusedVariables false
set_option maxHeartbeats 8000000
set_option maxRecDepth 100000
namespace Go.Proofs.YtkhhhceeoljheaaGreatDoor
open Go.RowKit Go.Proofs.YtkhhhceeoljheaaGreatDoor.Fl Ieee Go.Proofs.YtkhhhceeoljheaaGreatDoorW.PrintWords Go.Proofs.YtkhhhceeoljheaaGreatDoorW.PrintLast Go.Proofs.YtkhhhceeoljheaaGreatDoorW.PrintMore
theorem sm_of {F E : Int} (hF : Fm F E) {c d : Nat} (h : Hid (c < 2 * (fmt F).signWeight ∧ d < 2 * (fmt F).signWeight)) (h1 : ¬ isN (fmt F) c = true) (h2 : isN (fmt F) d = false) : Sm F E c d := ⟨hF, h.out.1, h.out.2, (isN_lt _ _).1 (by simpa using h1), (isN_lt _ _).1 h2⟩
theorem sm_neg {F E : Int} (hF : Fm F E) {c d d2 : Nat} (h : Hid (c < 2 * (fmt F).signWeight ∧ d < 2 * (fmt F).signWeight)) (h3 : Hid ((fmt F).word (!neg (fmt F) d) (siz (fmt F) d) = d2)) (h1 : ¬ isN (fmt F) c = true) (h2 : isN (fmt F) d = false) : Sm F E c d2 := by
  have h1 : isN (fmt F) c = false := by simpa using h1
  have hl := siz_lt (fmt F) d; have hI := (fm_b F E hF).2.2.2.2.2.2; refine ⟨hF, h.out.1, ?_, (isN_lt _ _).1 h1, ?_⟩
  · rw [← h3.out]; exact word_lt _ _ _ hl
  · rw [← h3.out, siz_word _ _ _ hl]; exact (isN_lt _ _).1 h2
theorem bin_7 (n F E : Int) (hF : Fn n F E) (a b : Nat) (ha : a < 18446744073709551616) (hb : b < 18446744073709551616) (c d : Nat) (Hc : Hid (a % (2 * (fmt F).signWeight) = c)) (Hd_ : Hid (b % (2 * (fmt F).signWeight) = d)) (hc : c < 18446744073709551616) (hd : d < 18446744073709551616) (Hl : Hid (c < 2 * (fmt F).signWeight ∧ d < 2 * (fmt F).signWeight))  (w : World) : Calls Tryz.prog 51 #[.int .i64 n, .int .i64 7, .int .u64 a, .int .u64 b] w fun e w' => e = .returned (.tuple #[.int .u64 (((fmt F).word (neg (fmt F) d) (siz (fmt F) c) : Nat)), .int .i64 0]) ∧ Below w.heap.size w w' := by
  have HB := zm_ (Below.refl w.heap.size w); rcases hF with ⟨rfl, rfl, rfl⟩ | ⟨rfl, rfl, rfl⟩
  all_goals
    go_enter Tryz.func51, Tryz.ntmps51
    go_upto_region 2 with (first | (go_at_call 88; (first | (with_reducible refine (of_32 _).mono ?_) | (with_reducible refine (of_64 _).mono ?_)); rintro e w4 ⟨rfl, hb⟩; replace HB := zm_ (below_step bl2_ hb); clear hb))
    first | (show Code.wp _ _ _ _ (w4.alloc (Obj.cells #[.int .i64 23, .int .i64 8] 94 (0, 0))); have BK := zm_ (heap_alloc_new w4 (Obj.cells #[.int .i64 23, .int .i64 8] 94 (0, 0))); replace HB := zm_ (below_alloc HB.out (Obj.cells #[.int .i64 23, .int .i64 8] 94 (0, 0))); generalize w4.alloc (Obj.cells #[.int .i64 23, .int .i64 8] 94 (0, 0)) = w5 at BK HB ⊢; generalize w4.heap.size = gb at BK ⊢) | (show Code.wp _ _ _ _ (w4.alloc (Obj.cells #[.int .i64 52, .int .i64 11] 94 (0, 0))); have BK := zm_ (heap_alloc_new w4 (Obj.cells #[.int .i64 52, .int .i64 11] 94 (0, 0))); replace HB := zm_ (below_alloc HB.out (Obj.cells #[.int .i64 52, .int .i64 11] 94 (0, 0))); generalize w4.alloc (Obj.cells #[.int .i64 52, .int .i64 11] 94 (0, 0)) = w5 at BK HB ⊢; generalize w4.heap.size = gb at BK ⊢)
    obtain ⟨z0, z1, y0, y1⟩ := zz_ BK; go_wp2_with (first | (go_at_call 89; (with_reducible refine (none_c _ _ fm_ _).mono ?_); refine cb_ BK HB ?_; intro w4 BK HB z0 z1 y0 y1))
    replace BK := zm_ (blk_drew BK.out); replace HB := zm_ (below_drew1 HB.out); refine start_ (S := Hd gb _ _) (ds := []) (ba 8 0) (by kernel_rfl) rfl rfl (hd_ BK) (fun hH => ?_); refine pu_ 1 (some 25) (ba 8 2) ?_; refine pu_ 4 (some 28) (ba 8 18) ?_; refine ta_ 0 (some 24) (ba 8 19) ?_; refine ta_ 3 (some 27) (ba 8 27) ?_; refine og_ 2 (some 26) (ba 8 31) Tryz.func100 ?_; refine ox_ (cut_n _ _ fm_ _ c (by assumption) Hc _) BK HB (fun w4 BK HB hH => no_ ?_); refine og_ 5 (some 29) (ba 8 63) Tryz.func100 ?_; refine ox_ (cut_n _ _ fm_ _ d (by assumption) Hd_ _) BK HB (fun w4 BK HB hH => no_ ?_); refine pu_ 6 (some 2) (ba 8 127) ?_; refine pu_ 7 (some 3) (ba 8 255) ?_; refine done_ (by kernel_rfl) ?_; obtain ⟨z0, z1, y0, y1⟩ := zz_ BK; go_wp2_with (first | (go_at_call 89; (with_reducible refine (none_c _ _ fm_ _).mono ?_); refine cb_ BK HB ?_; intro w4 BK HB z0 z1 y0 y1) | (go_at_call 90; (with_reducible refine (isNaN_c _ _ fm_ _ (by assumption) _).mono ?_); refine cb_ BK HB ?_; intro w4 BK HB z0 z1 y0 y1) | (go_at_call 104; (with_reducible refine (nan_c _ _ fm_ _).mono ?_); refine cb_ BK HB ?_; intro w4 BK HB z0 z1 y0 y1))
    all_goals
      replace BK := zm_ (blk_drew BK.out); replace HB := zm_ (below_drew1 HB.out); refine start_ (S := Hd gb _ _) (ds := []) (ba 10 0) (by kernel_rfl) rfl rfl (hd_ BK) (fun hH => ?_); refine pu_ 2 (some 43) (ba 10 4) ?_; refine pu_ 5 (some 46) (ba 10 36) ?_; refine ta_ 0 (some 41) (ba 10 37) ?_; refine ta_ 1 (some 42) (ba 10 39) ?_; refine ta_ 4 (some 45) (ba 10 55) ?_; refine og_ 3 (some 44) (ba 10 63) Tryz.func102 ?_; refine ox_ (neg_c _ _ fm_ _ (by assumption) _) BK HB (fun w4 BK HB hH => no_ ?_); refine og_ 6 (some 47) (ba 10 127) Tryz.func103 ?_; refine ox_ (size_c _ _ fm_ _ (by assumption) _) BK HB (fun w4 BK HB hH => no_ ?_); refine og_ 7 (some 48) (ba 10 255) Tryz.func101 ?_; refine ox_ (signed_c _ _ fm_ _ _ (siz_lt _ _) _) BK HB (fun w4 BK HB hH => no_ ?_); refine pu_ 8 (some 8) (ba 10 511) ?_; refine pu_ 9 (some 9) (ba 10 1023) ?_; refine done_ (by kernel_rfl) ?_; obtain ⟨z0, z1, y0, y1⟩ := zz_ BK
    all_goals go_wp2_with fail
    all_goals go_ret2
    all_goals exact ⟨ret2i rfl rfl, bl2_⟩
theorem bin_1 (n F E : Int) (hF : Fn n F E) (a b : Nat) (ha : a < 18446744073709551616) (hb : b < 18446744073709551616) (c d : Nat) (Hc : Hid (a % (2 * (fmt F).signWeight) = c)) (Hd_ : Hid (b % (2 * (fmt F).signWeight) = d)) (hc : c < 18446744073709551616) (hd : d < 18446744073709551616) (Hl : Hid (c < 2 * (fmt F).signWeight ∧ d < 2 * (fmt F).signWeight))  (w : World) : Calls Tryz.prog 51 #[.int .i64 n, .int .i64 1, .int .u64 a, .int .u64 b] w fun e w' => e = .returned (.tuple #[.int .u64 (if (isN (fmt F) c || isN (fmt F) d) = true then (nn F : Int) else ((orn F ((fmt F).add c d) : Nat) : Int)), .int .i64 0]) ∧ Below w.heap.size w w' := by
  have HB := zm_ (Below.refl w.heap.size w); rcases hF with ⟨rfl, rfl, rfl⟩ | ⟨rfl, rfl, rfl⟩
  all_goals
    go_enter Tryz.func51, Tryz.ntmps51
    go_upto_region 2 with (first | (go_at_call 88; (first | (with_reducible refine (of_32 _).mono ?_) | (with_reducible refine (of_64 _).mono ?_)); rintro e w4 ⟨rfl, hb⟩; replace HB := zm_ (below_step bl2_ hb); clear hb))
    first | (show Code.wp _ _ _ _ (w4.alloc (Obj.cells #[.int .i64 23, .int .i64 8] 94 (0, 0))); have BK := zm_ (heap_alloc_new w4 (Obj.cells #[.int .i64 23, .int .i64 8] 94 (0, 0))); replace HB := zm_ (below_alloc HB.out (Obj.cells #[.int .i64 23, .int .i64 8] 94 (0, 0))); generalize w4.alloc (Obj.cells #[.int .i64 23, .int .i64 8] 94 (0, 0)) = w5 at BK HB ⊢; generalize w4.heap.size = gb at BK ⊢) | (show Code.wp _ _ _ _ (w4.alloc (Obj.cells #[.int .i64 52, .int .i64 11] 94 (0, 0))); have BK := zm_ (heap_alloc_new w4 (Obj.cells #[.int .i64 52, .int .i64 11] 94 (0, 0))); replace HB := zm_ (below_alloc HB.out (Obj.cells #[.int .i64 52, .int .i64 11] 94 (0, 0))); generalize w4.alloc (Obj.cells #[.int .i64 52, .int .i64 11] 94 (0, 0)) = w5 at BK HB ⊢; generalize w4.heap.size = gb at BK ⊢)
    obtain ⟨z0, z1, y0, y1⟩ := zz_ BK; go_wp2_with (first | (go_at_call 89; (with_reducible refine (none_c _ _ fm_ _).mono ?_); refine cb_ BK HB ?_; intro w4 BK HB z0 z1 y0 y1))
    replace BK := zm_ (blk_drew BK.out); replace HB := zm_ (below_drew1 HB.out); refine start_ (S := Hd gb _ _) (ds := []) (ba 8 0) (by kernel_rfl) rfl rfl (hd_ BK) (fun hH => ?_); refine pu_ 1 (some 25) (ba 8 2) ?_; refine pu_ 4 (some 28) (ba 8 18) ?_; refine ta_ 0 (some 24) (ba 8 19) ?_; refine ta_ 3 (some 27) (ba 8 27) ?_; refine og_ 2 (some 26) (ba 8 31) Tryz.func100 ?_; refine ox_ (cut_n _ _ fm_ _ c (by assumption) Hc _) BK HB (fun w4 BK HB hH => no_ ?_); refine og_ 5 (some 29) (ba 8 63) Tryz.func100 ?_; refine ox_ (cut_n _ _ fm_ _ d (by assumption) Hd_ _) BK HB (fun w4 BK HB hH => no_ ?_); refine pu_ 6 (some 2) (ba 8 127) ?_; refine pu_ 7 (some 3) (ba 8 255) ?_; refine done_ (by kernel_rfl) ?_; obtain ⟨z0, z1, y0, y1⟩ := zz_ BK; go_wp2_with (first | (go_at_call 89; (with_reducible refine (none_c _ _ fm_ _).mono ?_); refine cb_ BK HB ?_; intro w4 BK HB z0 z1 y0 y1) | (go_at_call 90; (with_reducible refine (isNaN_c _ _ fm_ _ (by assumption) _).mono ?_); refine cb_ BK HB ?_; intro w4 BK HB z0 z1 y0 y1) | (go_at_call 104; (with_reducible refine (nan_c _ _ fm_ _).mono ?_); refine cb_ BK HB ?_; intro w4 BK HB z0 z1 y0 y1) | (go_at_call 106; (with_reducible refine (add_c _ _ c d hc hd (sm_of fm_ Hl (by assumption) (by assumption)) _).mono ?_); refine cb_ BK HB ?_; intro w4 BK HB z0 z1 y0 y1))
    all_goals go_ret2
    all_goals exact ⟨ret2i rfl rfl, bl2_⟩
theorem bin_2 (n F E : Int) (hF : Fn n F E) (a b : Nat) (ha : a < 18446744073709551616) (hb : b < 18446744073709551616) (c d : Nat) (Hc : Hid (a % (2 * (fmt F).signWeight) = c)) (Hd_ : Hid (b % (2 * (fmt F).signWeight) = d)) (hc : c < 18446744073709551616) (hd : d < 18446744073709551616) (Hl : Hid (c < 2 * (fmt F).signWeight ∧ d < 2 * (fmt F).signWeight)) (d2 : Nat) (Hx : Hid ((fmt F).word (!neg (fmt F) d) (siz (fmt F) d) = d2)) (gx : bits .xor .u64 (d : Int) (swt F) = (d2 : Int)) (hd2 : d2 < 18446744073709551616)  (w : World) : Calls Tryz.prog 51 #[.int .i64 n, .int .i64 2, .int .u64 a, .int .u64 b] w fun e w' => e = .returned (.tuple #[.int .u64 (if (isN (fmt F) c || isN (fmt F) d) = true then (nn F : Int) else ((orn F ((fmt F).add c d2) : Nat) : Int)), .int .i64 0]) ∧ Below w.heap.size w w' := by
  have HB := zm_ (Below.refl w.heap.size w); rcases hF with ⟨rfl, rfl, rfl⟩ | ⟨rfl, rfl, rfl⟩
  all_goals
    go_enter Tryz.func51, Tryz.ntmps51
    go_upto_region 2 with (first | (go_at_call 88; (first | (with_reducible refine (of_32 _).mono ?_) | (with_reducible refine (of_64 _).mono ?_)); rintro e w4 ⟨rfl, hb⟩; replace HB := zm_ (below_step bl2_ hb); clear hb))
    first | (show Code.wp _ _ _ _ (w4.alloc (Obj.cells #[.int .i64 23, .int .i64 8] 94 (0, 0))); have BK := zm_ (heap_alloc_new w4 (Obj.cells #[.int .i64 23, .int .i64 8] 94 (0, 0))); replace HB := zm_ (below_alloc HB.out (Obj.cells #[.int .i64 23, .int .i64 8] 94 (0, 0))); generalize w4.alloc (Obj.cells #[.int .i64 23, .int .i64 8] 94 (0, 0)) = w5 at BK HB ⊢; generalize w4.heap.size = gb at BK ⊢) | (show Code.wp _ _ _ _ (w4.alloc (Obj.cells #[.int .i64 52, .int .i64 11] 94 (0, 0))); have BK := zm_ (heap_alloc_new w4 (Obj.cells #[.int .i64 52, .int .i64 11] 94 (0, 0))); replace HB := zm_ (below_alloc HB.out (Obj.cells #[.int .i64 52, .int .i64 11] 94 (0, 0))); generalize w4.alloc (Obj.cells #[.int .i64 52, .int .i64 11] 94 (0, 0)) = w5 at BK HB ⊢; generalize w4.heap.size = gb at BK ⊢)
    obtain ⟨z0, z1, y0, y1⟩ := zz_ BK; go_wp2_with (first | (go_at_call 89; (with_reducible refine (none_c _ _ fm_ _).mono ?_); refine cb_ BK HB ?_; intro w4 BK HB z0 z1 y0 y1))
    replace BK := zm_ (blk_drew BK.out); replace HB := zm_ (below_drew1 HB.out); refine start_ (S := Hd gb _ _) (ds := []) (ba 8 0) (by kernel_rfl) rfl rfl (hd_ BK) (fun hH => ?_); refine pu_ 1 (some 25) (ba 8 2) ?_; refine pu_ 4 (some 28) (ba 8 18) ?_; refine ta_ 0 (some 24) (ba 8 19) ?_; refine ta_ 3 (some 27) (ba 8 27) ?_; refine og_ 2 (some 26) (ba 8 31) Tryz.func100 ?_; refine ox_ (cut_n _ _ fm_ _ c (by assumption) Hc _) BK HB (fun w4 BK HB hH => no_ ?_); refine og_ 5 (some 29) (ba 8 63) Tryz.func100 ?_; refine ox_ (cut_n _ _ fm_ _ d (by assumption) Hd_ _) BK HB (fun w4 BK HB hH => no_ ?_); refine pu_ 6 (some 2) (ba 8 127) ?_; refine pu_ 7 (some 3) (ba 8 255) ?_; refine done_ (by kernel_rfl) ?_; obtain ⟨z0, z1, y0, y1⟩ := zz_ BK; go_wp2_with (first | (go_at_call 89; (with_reducible refine (none_c _ _ fm_ _).mono ?_); refine cb_ BK HB ?_; intro w4 BK HB z0 z1 y0 y1) | (go_at_call 90; (with_reducible refine (isNaN_c _ _ fm_ _ (by assumption) _).mono ?_); refine cb_ BK HB ?_; intro w4 BK HB z0 z1 y0 y1) | (go_at_call 104; (with_reducible refine (nan_c _ _ fm_ _).mono ?_); refine cb_ BK HB ?_; intro w4 BK HB z0 z1 y0 y1) | (go_at_call 105; (with_reducible refine (sign_c _ _ fm_ _).mono ?_); refine cb_ BK HB ?_; intro w4 BK HB z0 z1 y0 y1) | (go_at_call 106; (with_reducible refine (add_c _ _ c d2 hc hd2 (sm_neg fm_ Hl Hx (by assumption) (by assumption)) _).mono ?_); refine cb_ BK HB ?_; intro w4 BK HB z0 z1 y0 y1))
    all_goals go_ret2
    all_goals exact ⟨ret2i rfl rfl, bl2_⟩
theorem bin_3 (n F E : Int) (hF : Fn n F E) (a b : Nat) (ha : a < 18446744073709551616) (hb : b < 18446744073709551616) (c d : Nat) (Hc : Hid (a % (2 * (fmt F).signWeight) = c)) (Hd_ : Hid (b % (2 * (fmt F).signWeight) = d)) (hc : c < 18446744073709551616) (hd : d < 18446744073709551616) (Hl : Hid (c < 2 * (fmt F).signWeight ∧ d < 2 * (fmt F).signWeight))  (w : World) : Calls Tryz.prog 51 #[.int .i64 n, .int .i64 3, .int .u64 a, .int .u64 b] w fun e w' => e = .returned (.tuple #[.int .u64 (if (isN (fmt F) c || isN (fmt F) d) = true then (nn F : Int) else ((orn F ((fmt F).mul c d) : Nat) : Int)), .int .i64 0]) ∧ Below w.heap.size w w' := by
  have HB := zm_ (Below.refl w.heap.size w); rcases hF with ⟨rfl, rfl, rfl⟩ | ⟨rfl, rfl, rfl⟩
  all_goals
    go_enter Tryz.func51, Tryz.ntmps51
    go_upto_region 2 with (first | (go_at_call 88; (first | (with_reducible refine (of_32 _).mono ?_) | (with_reducible refine (of_64 _).mono ?_)); rintro e w4 ⟨rfl, hb⟩; replace HB := zm_ (below_step bl2_ hb); clear hb))
    first | (show Code.wp _ _ _ _ (w4.alloc (Obj.cells #[.int .i64 23, .int .i64 8] 94 (0, 0))); have BK := zm_ (heap_alloc_new w4 (Obj.cells #[.int .i64 23, .int .i64 8] 94 (0, 0))); replace HB := zm_ (below_alloc HB.out (Obj.cells #[.int .i64 23, .int .i64 8] 94 (0, 0))); generalize w4.alloc (Obj.cells #[.int .i64 23, .int .i64 8] 94 (0, 0)) = w5 at BK HB ⊢; generalize w4.heap.size = gb at BK ⊢) | (show Code.wp _ _ _ _ (w4.alloc (Obj.cells #[.int .i64 52, .int .i64 11] 94 (0, 0))); have BK := zm_ (heap_alloc_new w4 (Obj.cells #[.int .i64 52, .int .i64 11] 94 (0, 0))); replace HB := zm_ (below_alloc HB.out (Obj.cells #[.int .i64 52, .int .i64 11] 94 (0, 0))); generalize w4.alloc (Obj.cells #[.int .i64 52, .int .i64 11] 94 (0, 0)) = w5 at BK HB ⊢; generalize w4.heap.size = gb at BK ⊢)
    obtain ⟨z0, z1, y0, y1⟩ := zz_ BK; go_wp2_with (first | (go_at_call 89; (with_reducible refine (none_c _ _ fm_ _).mono ?_); refine cb_ BK HB ?_; intro w4 BK HB z0 z1 y0 y1))
    replace BK := zm_ (blk_drew BK.out); replace HB := zm_ (below_drew1 HB.out); refine start_ (S := Hd gb _ _) (ds := []) (ba 8 0) (by kernel_rfl) rfl rfl (hd_ BK) (fun hH => ?_); refine pu_ 1 (some 25) (ba 8 2) ?_; refine pu_ 4 (some 28) (ba 8 18) ?_; refine ta_ 0 (some 24) (ba 8 19) ?_; refine ta_ 3 (some 27) (ba 8 27) ?_; refine og_ 2 (some 26) (ba 8 31) Tryz.func100 ?_; refine ox_ (cut_n _ _ fm_ _ c (by assumption) Hc _) BK HB (fun w4 BK HB hH => no_ ?_); refine og_ 5 (some 29) (ba 8 63) Tryz.func100 ?_; refine ox_ (cut_n _ _ fm_ _ d (by assumption) Hd_ _) BK HB (fun w4 BK HB hH => no_ ?_); refine pu_ 6 (some 2) (ba 8 127) ?_; refine pu_ 7 (some 3) (ba 8 255) ?_; refine done_ (by kernel_rfl) ?_; obtain ⟨z0, z1, y0, y1⟩ := zz_ BK; go_wp2_with (first | (go_at_call 89; (with_reducible refine (none_c _ _ fm_ _).mono ?_); refine cb_ BK HB ?_; intro w4 BK HB z0 z1 y0 y1) | (go_at_call 90; (with_reducible refine (isNaN_c _ _ fm_ _ (by assumption) _).mono ?_); refine cb_ BK HB ?_; intro w4 BK HB z0 z1 y0 y1) | (go_at_call 104; (with_reducible refine (nan_c _ _ fm_ _).mono ?_); refine cb_ BK HB ?_; intro w4 BK HB z0 z1 y0 y1) | (go_at_call 107; (with_reducible refine (mul_c _ _ c d hc hd (sm_of fm_ Hl (by assumption) (by assumption)) _).mono ?_); refine cb_ BK HB ?_; intro w4 BK HB z0 z1 y0 y1))
    all_goals go_ret2
    all_goals exact ⟨ret2i rfl rfl, bl2_⟩
theorem bin_4 (n F E : Int) (hF : Fn n F E) (a b : Nat) (ha : a < 18446744073709551616) (hb : b < 18446744073709551616) (c d : Nat) (Hc : Hid (a % (2 * (fmt F).signWeight) = c)) (Hd_ : Hid (b % (2 * (fmt F).signWeight) = d)) (hc : c < 18446744073709551616) (hd : d < 18446744073709551616) (Hl : Hid (c < 2 * (fmt F).signWeight ∧ d < 2 * (fmt F).signWeight))  (w : World) : Calls Tryz.prog 51 #[.int .i64 n, .int .i64 4, .int .u64 a, .int .u64 b] w fun e w' => e = .returned (.tuple #[.int .u64 (if (isN (fmt F) c || isN (fmt F) d) = true then (nn F : Int) else ((orn F ((fmt F).div c d) : Nat) : Int)), .int .i64 0]) ∧ Below w.heap.size w w' := by
  have HB := zm_ (Below.refl w.heap.size w); rcases hF with ⟨rfl, rfl, rfl⟩ | ⟨rfl, rfl, rfl⟩
  all_goals
    go_enter Tryz.func51, Tryz.ntmps51
    go_upto_region 2 with (first | (go_at_call 88; (first | (with_reducible refine (of_32 _).mono ?_) | (with_reducible refine (of_64 _).mono ?_)); rintro e w4 ⟨rfl, hb⟩; replace HB := zm_ (below_step bl2_ hb); clear hb))
    first | (show Code.wp _ _ _ _ (w4.alloc (Obj.cells #[.int .i64 23, .int .i64 8] 94 (0, 0))); have BK := zm_ (heap_alloc_new w4 (Obj.cells #[.int .i64 23, .int .i64 8] 94 (0, 0))); replace HB := zm_ (below_alloc HB.out (Obj.cells #[.int .i64 23, .int .i64 8] 94 (0, 0))); generalize w4.alloc (Obj.cells #[.int .i64 23, .int .i64 8] 94 (0, 0)) = w5 at BK HB ⊢; generalize w4.heap.size = gb at BK ⊢) | (show Code.wp _ _ _ _ (w4.alloc (Obj.cells #[.int .i64 52, .int .i64 11] 94 (0, 0))); have BK := zm_ (heap_alloc_new w4 (Obj.cells #[.int .i64 52, .int .i64 11] 94 (0, 0))); replace HB := zm_ (below_alloc HB.out (Obj.cells #[.int .i64 52, .int .i64 11] 94 (0, 0))); generalize w4.alloc (Obj.cells #[.int .i64 52, .int .i64 11] 94 (0, 0)) = w5 at BK HB ⊢; generalize w4.heap.size = gb at BK ⊢)
    obtain ⟨z0, z1, y0, y1⟩ := zz_ BK; go_wp2_with (first | (go_at_call 89; (with_reducible refine (none_c _ _ fm_ _).mono ?_); refine cb_ BK HB ?_; intro w4 BK HB z0 z1 y0 y1))
    replace BK := zm_ (blk_drew BK.out); replace HB := zm_ (below_drew1 HB.out); refine start_ (S := Hd gb _ _) (ds := []) (ba 8 0) (by kernel_rfl) rfl rfl (hd_ BK) (fun hH => ?_); refine pu_ 1 (some 25) (ba 8 2) ?_; refine pu_ 4 (some 28) (ba 8 18) ?_; refine ta_ 0 (some 24) (ba 8 19) ?_; refine ta_ 3 (some 27) (ba 8 27) ?_; refine og_ 2 (some 26) (ba 8 31) Tryz.func100 ?_; refine ox_ (cut_n _ _ fm_ _ c (by assumption) Hc _) BK HB (fun w4 BK HB hH => no_ ?_); refine og_ 5 (some 29) (ba 8 63) Tryz.func100 ?_; refine ox_ (cut_n _ _ fm_ _ d (by assumption) Hd_ _) BK HB (fun w4 BK HB hH => no_ ?_); refine pu_ 6 (some 2) (ba 8 127) ?_; refine pu_ 7 (some 3) (ba 8 255) ?_; refine done_ (by kernel_rfl) ?_; obtain ⟨z0, z1, y0, y1⟩ := zz_ BK; go_wp2_with (first | (go_at_call 89; (with_reducible refine (none_c _ _ fm_ _).mono ?_); refine cb_ BK HB ?_; intro w4 BK HB z0 z1 y0 y1) | (go_at_call 90; (with_reducible refine (isNaN_c _ _ fm_ _ (by assumption) _).mono ?_); refine cb_ BK HB ?_; intro w4 BK HB z0 z1 y0 y1) | (go_at_call 104; (with_reducible refine (nan_c _ _ fm_ _).mono ?_); refine cb_ BK HB ?_; intro w4 BK HB z0 z1 y0 y1) | (go_at_call 108; (with_reducible refine (div_c _ _ c d hc hd (sm_of fm_ Hl (by assumption) (by assumption)) _).mono ?_); refine cb_ BK HB ?_; intro w4 BK HB z0 z1 y0 y1))
    all_goals go_ret2
    all_goals exact ⟨ret2i rfl rfl, bl2_⟩
theorem bin_5 (n F E : Int) (hF : Fn n F E) (a b : Nat) (ha : a < 18446744073709551616) (hb : b < 18446744073709551616) (c d : Nat) (Hc : Hid (a % (2 * (fmt F).signWeight) = c)) (Hd_ : Hid (b % (2 * (fmt F).signWeight) = d)) (hc : c < 18446744073709551616) (hd : d < 18446744073709551616) (Hl : Hid (c < 2 * (fmt F).signWeight ∧ d < 2 * (fmt F).signWeight))  (w : World) : Calls Tryz.prog 51 #[.int .i64 n, .int .i64 5, .int .u64 a, .int .u64 b] w fun e w' => e = .returned (.tuple #[.int .u64 (if (isN (fmt F) c || isN (fmt F) d) = true then (nn F : Int) else ((endV F 5 c d : Nat) : Int)), .int .i64 0]) ∧ Below w.heap.size w w' := by
  have HB := zm_ (Below.refl w.heap.size w); rcases hF with ⟨rfl, rfl, rfl⟩ | ⟨rfl, rfl, rfl⟩
  all_goals
    go_enter Tryz.func51, Tryz.ntmps51
    go_upto_region 2 with (first | (go_at_call 88; (first | (with_reducible refine (of_32 _).mono ?_) | (with_reducible refine (of_64 _).mono ?_)); rintro e w4 ⟨rfl, hb⟩; replace HB := zm_ (below_step bl2_ hb); clear hb))
    first | (show Code.wp _ _ _ _ (w4.alloc (Obj.cells #[.int .i64 23, .int .i64 8] 94 (0, 0))); have BK := zm_ (heap_alloc_new w4 (Obj.cells #[.int .i64 23, .int .i64 8] 94 (0, 0))); replace HB := zm_ (below_alloc HB.out (Obj.cells #[.int .i64 23, .int .i64 8] 94 (0, 0))); generalize w4.alloc (Obj.cells #[.int .i64 23, .int .i64 8] 94 (0, 0)) = w5 at BK HB ⊢; generalize w4.heap.size = gb at BK ⊢) | (show Code.wp _ _ _ _ (w4.alloc (Obj.cells #[.int .i64 52, .int .i64 11] 94 (0, 0))); have BK := zm_ (heap_alloc_new w4 (Obj.cells #[.int .i64 52, .int .i64 11] 94 (0, 0))); replace HB := zm_ (below_alloc HB.out (Obj.cells #[.int .i64 52, .int .i64 11] 94 (0, 0))); generalize w4.alloc (Obj.cells #[.int .i64 52, .int .i64 11] 94 (0, 0)) = w5 at BK HB ⊢; generalize w4.heap.size = gb at BK ⊢)
    obtain ⟨z0, z1, y0, y1⟩ := zz_ BK; go_wp2_with (first | (go_at_call 89; (with_reducible refine (none_c _ _ fm_ _).mono ?_); refine cb_ BK HB ?_; intro w4 BK HB z0 z1 y0 y1))
    replace BK := zm_ (blk_drew BK.out); replace HB := zm_ (below_drew1 HB.out); refine start_ (S := Hd gb _ _) (ds := []) (ba 8 0) (by kernel_rfl) rfl rfl (hd_ BK) (fun hH => ?_); refine pu_ 1 (some 25) (ba 8 2) ?_; refine pu_ 4 (some 28) (ba 8 18) ?_; refine ta_ 0 (some 24) (ba 8 19) ?_; refine ta_ 3 (some 27) (ba 8 27) ?_; refine og_ 2 (some 26) (ba 8 31) Tryz.func100 ?_; refine ox_ (cut_n _ _ fm_ _ c (by assumption) Hc _) BK HB (fun w4 BK HB hH => no_ ?_); refine og_ 5 (some 29) (ba 8 63) Tryz.func100 ?_; refine ox_ (cut_n _ _ fm_ _ d (by assumption) Hd_ _) BK HB (fun w4 BK HB hH => no_ ?_); refine pu_ 6 (some 2) (ba 8 127) ?_; refine pu_ 7 (some 3) (ba 8 255) ?_; refine done_ (by kernel_rfl) ?_; obtain ⟨z0, z1, y0, y1⟩ := zz_ BK; go_wp2_with (first | (go_at_call 89; (with_reducible refine (none_c _ _ fm_ _).mono ?_); refine cb_ BK HB ?_; intro w4 BK HB z0 z1 y0 y1) | (go_at_call 90; (with_reducible refine (isNaN_c _ _ fm_ _ (by assumption) _).mono ?_); refine cb_ BK HB ?_; intro w4 BK HB z0 z1 y0 y1) | (go_at_call 104; (with_reducible refine (nan_c _ _ fm_ _).mono ?_); refine cb_ BK HB ?_; intro w4 BK HB z0 z1 y0 y1) | (go_at_call 109; (with_reducible refine (end_min _ _ fm_ c d hc hd (Lib.hid (sm_of fm_ Hl (by assumption) (by assumption))) _).mono ?_); refine cb_ BK HB ?_; intro w4 BK HB z0 z1 y0 y1))
    all_goals go_ret2
    all_goals exact ⟨ret2i rfl rfl, bl2_⟩
theorem bin_6 (n F E : Int) (hF : Fn n F E) (a b : Nat) (ha : a < 18446744073709551616) (hb : b < 18446744073709551616) (c d : Nat) (Hc : Hid (a % (2 * (fmt F).signWeight) = c)) (Hd_ : Hid (b % (2 * (fmt F).signWeight) = d)) (hc : c < 18446744073709551616) (hd : d < 18446744073709551616) (Hl : Hid (c < 2 * (fmt F).signWeight ∧ d < 2 * (fmt F).signWeight))  (w : World) : Calls Tryz.prog 51 #[.int .i64 n, .int .i64 6, .int .u64 a, .int .u64 b] w fun e w' => e = .returned (.tuple #[.int .u64 (if (isN (fmt F) c || isN (fmt F) d) = true then (nn F : Int) else ((endV F 6 c d : Nat) : Int)), .int .i64 0]) ∧ Below w.heap.size w w' := by
  have HB := zm_ (Below.refl w.heap.size w); rcases hF with ⟨rfl, rfl, rfl⟩ | ⟨rfl, rfl, rfl⟩
  all_goals
    go_enter Tryz.func51, Tryz.ntmps51
    go_upto_region 2 with (first | (go_at_call 88; (first | (with_reducible refine (of_32 _).mono ?_) | (with_reducible refine (of_64 _).mono ?_)); rintro e w4 ⟨rfl, hb⟩; replace HB := zm_ (below_step bl2_ hb); clear hb))
    first | (show Code.wp _ _ _ _ (w4.alloc (Obj.cells #[.int .i64 23, .int .i64 8] 94 (0, 0))); have BK := zm_ (heap_alloc_new w4 (Obj.cells #[.int .i64 23, .int .i64 8] 94 (0, 0))); replace HB := zm_ (below_alloc HB.out (Obj.cells #[.int .i64 23, .int .i64 8] 94 (0, 0))); generalize w4.alloc (Obj.cells #[.int .i64 23, .int .i64 8] 94 (0, 0)) = w5 at BK HB ⊢; generalize w4.heap.size = gb at BK ⊢) | (show Code.wp _ _ _ _ (w4.alloc (Obj.cells #[.int .i64 52, .int .i64 11] 94 (0, 0))); have BK := zm_ (heap_alloc_new w4 (Obj.cells #[.int .i64 52, .int .i64 11] 94 (0, 0))); replace HB := zm_ (below_alloc HB.out (Obj.cells #[.int .i64 52, .int .i64 11] 94 (0, 0))); generalize w4.alloc (Obj.cells #[.int .i64 52, .int .i64 11] 94 (0, 0)) = w5 at BK HB ⊢; generalize w4.heap.size = gb at BK ⊢)
    obtain ⟨z0, z1, y0, y1⟩ := zz_ BK; go_wp2_with (first | (go_at_call 89; (with_reducible refine (none_c _ _ fm_ _).mono ?_); refine cb_ BK HB ?_; intro w4 BK HB z0 z1 y0 y1))
    replace BK := zm_ (blk_drew BK.out); replace HB := zm_ (below_drew1 HB.out); refine start_ (S := Hd gb _ _) (ds := []) (ba 8 0) (by kernel_rfl) rfl rfl (hd_ BK) (fun hH => ?_); refine pu_ 1 (some 25) (ba 8 2) ?_; refine pu_ 4 (some 28) (ba 8 18) ?_; refine ta_ 0 (some 24) (ba 8 19) ?_; refine ta_ 3 (some 27) (ba 8 27) ?_; refine og_ 2 (some 26) (ba 8 31) Tryz.func100 ?_; refine ox_ (cut_n _ _ fm_ _ c (by assumption) Hc _) BK HB (fun w4 BK HB hH => no_ ?_); refine og_ 5 (some 29) (ba 8 63) Tryz.func100 ?_; refine ox_ (cut_n _ _ fm_ _ d (by assumption) Hd_ _) BK HB (fun w4 BK HB hH => no_ ?_); refine pu_ 6 (some 2) (ba 8 127) ?_; refine pu_ 7 (some 3) (ba 8 255) ?_; refine done_ (by kernel_rfl) ?_; obtain ⟨z0, z1, y0, y1⟩ := zz_ BK; go_wp2_with (first | (go_at_call 89; (with_reducible refine (none_c _ _ fm_ _).mono ?_); refine cb_ BK HB ?_; intro w4 BK HB z0 z1 y0 y1) | (go_at_call 90; (with_reducible refine (isNaN_c _ _ fm_ _ (by assumption) _).mono ?_); refine cb_ BK HB ?_; intro w4 BK HB z0 z1 y0 y1) | (go_at_call 104; (with_reducible refine (nan_c _ _ fm_ _).mono ?_); refine cb_ BK HB ?_; intro w4 BK HB z0 z1 y0 y1) | (go_at_call 109; (with_reducible refine (end_max _ _ fm_ c d hc hd (Lib.hid (sm_of fm_ Hl (by assumption) (by assumption))) _).mono ?_); refine cb_ BK HB ?_; intro w4 BK HB z0 z1 y0 y1))
    all_goals go_ret2
    all_goals exact ⟨ret2i rfl rfl, bl2_⟩
theorem orn_bt32 (o : Option Nat) (h : ∀ r, o = some r → isN single r = false) : orN 2143289344 bt32 o = orn 23 o := by
  cases o with
  | none => rfl
  | some r =>
    show bt32 r = r
    unfold bt32; rw [h r rfl]; rfl
theorem orn_bt64 (o : Option Nat) (h : ∀ r, o = some r → isN double r = false) : orN 9221120237041090560 bt64 o = orn 52 o := by
  cases o with
  | none => rfl
  | some r =>
    show bt64 r = r
    unfold bt64; rw [h r rfl]; rfl
theorem wr_n (f : Format) (hI : f.infRung < f.signWeight) (o : Option Datum) (ho : ∀ d, o = some d → d.isNaN = false) (r : Nat) (h : o.map f.write = some r) : isN f r = false := by
  cases o with
  | none => cases h
  | some d =>
    have hd := ho d rfl; have h : f.write d = r := Option.some.inj h; rw [← h]
    cases d with
    | number s m e =>
      show isN f (f.nearest s m e) = false
      rw [nearest_eq]
      exact isN_word f hI _ _ (rung_le' _ _ _)
    | infinity s => exact isN_word f hI _ _ (Nat.le_refl _)
    | nan s t => cases hd
theorem sum_n (x y d : Datum) (h : x.sum y = some d) : d.isNaN = false := by
  cases x <;> cases y <;> simp only [Datum.sum] at h <;> first | (cases h; done) | (split at h <;> first | (cases h; done) | (cases h; rfl)) | (cases h; rfl)
theorem prod_n (x y d : Datum) (h : x.product y = some d) : d.isNaN = false := by
  cases x <;> cases y <;> simp only [Datum.product] at h <;> first | (cases h; done) | (split at h <;> first | (cases h; done) | (cases h; rfl)) | (cases h; rfl)
theorem quot_n (n : Nat) (x y d : Datum) (h : x.quotient n y = some d) : d.isNaN = false := by
  cases x <;> cases y <;> simp only [Datum.quotient] at h <;> first | (cases h; done) | (split at h <;> first | (cases h; done) | (cases h; rfl) | (split at h <;> first | (cases h; done) | (cases h; rfl))) | (cases h; rfl)
theorem fadd_n (f : Format) (hI : f.infRung < f.signWeight) (a b r : Nat) (h : f.add a b = some r) : isN f r = false := wr_n f hI _ (sum_n _ _) r h
theorem fmul_n (f : Format) (hI : f.infRung < f.signWeight) (a b r : Nat) (h : f.mul a b = some r) : isN f r = false := wr_n f hI _ (prod_n _ _) r h
theorem fdiv_n (f : Format) (hI : f.infRung < f.signWeight) (a b r : Nat) (h : f.div a b = some r) : isN f r = false := wr_n f hI _ (quot_n _ _ _) r h
theorem sub_add (f : Format) (hE : 1 ≤ f.exponentBits) (hI : f.infRung < f.signWeight) (a b : Nat) (h2 : siz f b ≤ f.infRung) : f.sub a b = f.add a (f.word (!neg f b) (siz f b)) := by
  have hl := siz_lt f b
  have e : (f.read b).opposite = f.read (f.word (!neg f b) (siz f b)) := by
    have hs := siz_word f (!neg f b) (siz f b) hl; have hn := neg_word f (!neg f b) (siz f b) hl; by_cases c : siz f b < f.infRung
    · rw [read_pm f b c, read_pm f _ (by rw [hs]; exact c), hn]
      show Datum.number (!neg f b) (pm f b) (pe f b) = _
      unfold pm pe; rw [hs]
    · rw [read_inf f hE b (by omega), read_inf f hE _ (by rw [hs]; omega), hn]; rfl
  unfold Format.sub Format.add; rw [e]
def binF (F op : Int) (c d : Nat) : Nat :=
  if op = 7 then (fmt F).word (neg (fmt F) d) (siz (fmt F) c)
  else if (isN (fmt F) c || isN (fmt F) d) = true then nn F
  else if op = 5 ∨ op = 6 then endV F op c d
  else if op = 1 then orn F ((fmt F).add c d) else if op = 2 then orn F ((fmt F).add c ((fmt F).word (!neg (fmt F) d) (siz (fmt F) d))) else if op = 3 then orn F ((fmt F).mul c d) else orn F ((fmt F).div c d)
theorem cpy (f : Format) (c d : Nat) (h : d < 2 * f.signWeight) : f.word (neg f d) (siz f c) = c % f.signWeight + (d - d % f.signWeight) := by
  have hw := word_eq f d h; have hm : d % f.signWeight = siz f d := rfl; have hmc : c % f.signWeight = siz f c := rfl; rw [hm, hmc]; cases hn : neg f d
  · rw [hn] at hw
    have hw : siz f d = d := hw; show siz f c = _
    omega
  · rw [hn] at hw
    have hw : f.signWeight + siz f d = d := hw; show f.signWeight + siz f c = _
    omega
theorem ite_x {c : Bool} {x y : Nat} : (if c = true then (x : Int) else (y : Int)) = ((if c = true then x else y : Nat) : Int) := by split <;> rfl
theorem bin_all (n F E : Int) (hF : Fn n F E) (op : Int) (ho : 1 ≤ op ∧ op ≤ 7) (a b : Nat) (ha : a < 18446744073709551616) (hb : b < 18446744073709551616) (c d : Nat) (Hc : a % (2 * (fmt F).signWeight) = c) (Hd_ : b % (2 * (fmt F).signWeight) = d) (w : World) :
    Calls Tryz.prog 51 #[.int .i64 n, .int .i64 op, .int .u64 a, .int .u64 b] w fun e w' => e = .returned (.tuple #[.int .u64 (binF F op c d : Nat), .int .i64 0]) ∧ Below w.heap.size w w' := by
  have hbb := fm_b F E hF.fm; have hsp : 0 < (fmt F).signWeight := Nat.two_pow_pos _; have Hl : c < 2 * (fmt F).signWeight := by rw [← Hc]; exact Nat.mod_lt _ (by omega)
  have Hm : d < 2 * (fmt F).signWeight := by rw [← Hd_]; exact Nat.mod_lt _ (by omega)
  have hc : c < 18446744073709551616 := by omega
  have hd : d < 18446744073709551616 := by omega
  have HL := Lib.hid (And.intro Hl Hm); have hx : (fmt F).word (!neg (fmt F) d) (siz (fmt F) d) < 2 * (fmt F).signWeight := word_lt _ _ _ (siz_lt _ _); have hop : op = 1 ∨ op = 2 ∨ op = 3 ∨ op = 4 ∨ op = 5 ∨ op = 6 ∨ op = 7 := by omega
  rcases hop with rfl | rfl | rfl | rfl | rfl | rfl | rfl
  · have h := bin_1 n F E hF a b ha hb c d (Lib.hid Hc) (Lib.hid Hd_) hc hd HL w
    rw [ite_x] at h; exact h
  · have h := bin_2 n F E hF a b ha hb c d (Lib.hid Hc) (Lib.hid Hd_) hc hd HL _ (Lib.hid rfl) (xor_i F E hF.fm d Hm) (by omega) w
    rw [ite_x] at h; exact h
  · have h := bin_3 n F E hF a b ha hb c d (Lib.hid Hc) (Lib.hid Hd_) hc hd HL w
    rw [ite_x] at h; exact h
  · have h := bin_4 n F E hF a b ha hb c d (Lib.hid Hc) (Lib.hid Hd_) hc hd HL w
    rw [ite_x] at h; exact h
  · have h := bin_5 n F E hF a b ha hb c d (Lib.hid Hc) (Lib.hid Hd_) hc hd HL w
    rw [ite_x] at h; exact h
  · have h := bin_6 n F E hF a b ha hb c d (Lib.hid Hc) (Lib.hid Hd_) hc hd HL w
    rw [ite_x] at h; exact h
  · exact bin_7 n F E hF a b ha hb c d (Lib.hid Hc) (Lib.hid Hd_) hc hd HL w
theorem binF_32 (op : Int) (ho : 1 ≤ op ∧ op ≤ 7) (c d : Nat) (hc : c < 4294967296) (hd : d < 4294967296) : binF 23 op c d = bin32 op c d := by
  have hI : single.infRung < single.signWeight := by rw [sI, sS]; omega
  have e : fmt 23 = single := rfl; unfold binF bin32; rw [e]; by_cases o7 : op = 7
  · rw [if_pos o7, if_pos o7, cpy single c d (by rw [sS]; omega), sS]
  · rw [if_neg o7, if_neg o7]
    by_cases k : (isN single c || isN single d) = true
    · rw [if_pos k, if_pos k]; rfl
    · rw [if_neg k, if_neg k]
      have k2 : siz single d ≤ single.infRung := (isN_lt _ _).1 (by revert k; cases isN single c <;> cases isN single d <;> simp); by_cases o5 : op = 5 ∨ op = 6
      · rw [if_pos o5, if_pos o5]
        unfold endV; rw [e, sS]
      · rw [if_neg o5, if_neg o5]
        have hop : op = 1 ∨ op = 2 ∨ op = 3 ∨ op = 4 := by omega
        rcases hop with rfl | rfl | rfl | rfl
        · exact (orn_bt32 _ (fun r h => fadd_n single hI _ _ r h)).symm
        · rw [if_neg (by decide), if_pos rfl, ← sub_add single (by decide) hI c d k2]
          refine (orn_bt32 _ (fun r h => ?_)).symm; have h : single.sub c d = some r := h; rw [sub_add single (by decide) hI c d k2] at h; exact fadd_n single hI _ _ r h
        · exact (orn_bt32 _ (fun r h => fmul_n single hI _ _ r h)).symm
        · exact (orn_bt32 _ (fun r h => fdiv_n single hI _ _ r h)).symm
theorem binF_64 (op : Int) (ho : 1 ≤ op ∧ op ≤ 7) (c d : Nat) (hc : c < 18446744073709551616) (hd : d < 18446744073709551616) : binF 52 op c d = bin64 op c d := by
  have hI : double.infRung < double.signWeight := by rw [dI, dS]; omega
  have e : fmt 52 = double := rfl; unfold binF bin64; rw [e]; by_cases o7 : op = 7
  · rw [if_pos o7, if_pos o7, cpy double c d (by rw [dS]; omega), dS]
  · rw [if_neg o7, if_neg o7]
    by_cases k : (isN double c || isN double d) = true
    · rw [if_pos k, if_pos k]; rfl
    · rw [if_neg k, if_neg k]
      have k2 : siz double d ≤ double.infRung := (isN_lt _ _).1 (by revert k; cases isN double c <;> cases isN double d <;> simp); by_cases o5 : op = 5 ∨ op = 6
      · rw [if_pos o5, if_pos o5]
        unfold endV; rw [e, dS]
      · rw [if_neg o5, if_neg o5]
        have hop : op = 1 ∨ op = 2 ∨ op = 3 ∨ op = 4 := by omega
        rcases hop with rfl | rfl | rfl | rfl
        · exact (orn_bt64 _ (fun r h => fadd_n double hI _ _ r h)).symm
        · rw [if_neg (by decide), if_pos rfl, ← sub_add double (by decide) hI c d k2]
          refine (orn_bt64 _ (fun r h => ?_)).symm; have h : double.sub c d = some r := h; rw [sub_add double (by decide) hI c d k2] at h; exact fadd_n double hI _ _ r h
        · exact (orn_bt64 _ (fun r h => fmul_n double hI _ _ r h)).symm
        · exact (orn_bt64 _ (fun r h => fdiv_n double hI _ _ r h)).symm
theorem binp_any32 (op : Int) (a b : Nat) (w : World) (ho : 1 ≤ op ∧ op ≤ 7) (ha : a < 18446744073709551616) (hb : b < 18446744073709551616) : Calls Tryz.prog 51 #[.int .i64 32, .int .i64 op, .int .u64 a, .int .u64 b] w fun e w' => e = .returned (.tuple #[.int .u64 (bin32 op (a % 4294967296) (b % 4294967296) : Nat), .int .i64 0]) ∧ Below w.heap.size w w' := by
  have h := bin_all 32 23 8 (Or.inl ⟨rfl, rfl, rfl⟩) op ho a b ha hb (a % 4294967296) (b % 4294967296) (by rw [show (fmt 23).signWeight = 2147483648 from sS]) (by rw [show (fmt 23).signWeight = 2147483648 from sS]) w; rw [binF_32 op ho _ _ (Nat.mod_lt _ (by decide)) (Nat.mod_lt _ (by decide))] at h; exact h
theorem binp_any64 (op : Int) (a b : Nat) (w : World) (ho : 1 ≤ op ∧ op ≤ 7) (ha : a < 18446744073709551616) (hb : b < 18446744073709551616) : Calls Tryz.prog 51 #[.int .i64 64, .int .i64 op, .int .u64 a, .int .u64 b] w fun e w' => e = .returned (.tuple #[.int .u64 (bin64 op a b : Nat), .int .i64 0]) ∧ Below w.heap.size w w' := by
  have h := bin_all 64 52 11 (Or.inr ⟨rfl, rfl, rfl⟩) op ho a b ha hb a b (by rw [show (fmt 52).signWeight = 9223372036854775808 from dS]; exact Nat.mod_eq_of_lt ha) (by rw [show (fmt 52).signWeight = 9223372036854775808 from dS]; exact Nat.mod_eq_of_lt hb) w; rw [binF_64 op ho a b ha hb] at h; exact h
end Go.Proofs.YtkhhhceeoljheaaGreatDoor
set_option linter.unusedVariables false
set_option maxHeartbeats 8000000
set_option maxRecDepth 100000
namespace Go.Proofs.YtkhhhceeoljheaaGreatDoor
open Go.RowKit Go.Proofs.YtkhhhceeoljheaaGreatDoor.Fl Ieee Go.Proofs.YtkhhhceeoljheaaGreatDoorW.PrintWords Go.Proofs.YtkhhhceeoljheaaGreatDoorW.PrintLast Go.Proofs.YtkhhhceeoljheaaGreatDoorW.PrintMore
def flo (k : Int) : Int := if k = 0 then 1 else if k = 1 then 2 else if k = 2 then 4 else if k = 3 then 5 else if k = 4 then 6 else if k = 5 then 7 else 3
theorem fl_0 (n a u : Int) (hC : ∀ w : World, Calls Tryz.prog 99 #[.int .i64 n, .int .i64 1, .int .u64 a] w fun e w' => e = .returned (.tuple #[.int .u64 u, .int .i64 0]) ∧ Below w.heap.size w w') (w : World) : Calls Tryz.prog 50 #[.int .i64 n, .int .i64 0, .int .u64 a] w fun e w' => e = .returned (.tuple #[.int .u64 u, .int .i64 0]) ∧ Below w.heap.size w w' := by
  have HB := zm_ (Below.refl w.heap.size w); go_enter Tryz.func50, Tryz.ntmps50
  go_wp2_with (first | (go_at_call 99; (with_reducible refine (hC _).mono ?_); rintro e w4 ⟨rfl, hb⟩; replace HB := zm_ (below_step bl2_ hb); clear hb))
  go_ret2; exact ⟨rfl, bl2_⟩
theorem fl_1 (n a u : Int) (hC : ∀ w : World, Calls Tryz.prog 99 #[.int .i64 n, .int .i64 2, .int .u64 a] w fun e w' => e = .returned (.tuple #[.int .u64 u, .int .i64 0]) ∧ Below w.heap.size w w') (w : World) : Calls Tryz.prog 50 #[.int .i64 n, .int .i64 1, .int .u64 a] w fun e w' => e = .returned (.tuple #[.int .u64 u, .int .i64 0]) ∧ Below w.heap.size w w' := by
  have HB := zm_ (Below.refl w.heap.size w); go_enter Tryz.func50, Tryz.ntmps50
  go_wp2_with (first | (go_at_call 99; (with_reducible refine (hC _).mono ?_); rintro e w4 ⟨rfl, hb⟩; replace HB := zm_ (below_step bl2_ hb); clear hb))
  go_ret2; exact ⟨rfl, bl2_⟩
theorem fl_2 (n a u : Int) (hC : ∀ w : World, Calls Tryz.prog 99 #[.int .i64 n, .int .i64 4, .int .u64 a] w fun e w' => e = .returned (.tuple #[.int .u64 u, .int .i64 0]) ∧ Below w.heap.size w w') (w : World) : Calls Tryz.prog 50 #[.int .i64 n, .int .i64 2, .int .u64 a] w fun e w' => e = .returned (.tuple #[.int .u64 u, .int .i64 0]) ∧ Below w.heap.size w w' := by
  have HB := zm_ (Below.refl w.heap.size w); go_enter Tryz.func50, Tryz.ntmps50
  go_wp2_with (first | (go_at_call 99; (with_reducible refine (hC _).mono ?_); rintro e w4 ⟨rfl, hb⟩; replace HB := zm_ (below_step bl2_ hb); clear hb))
  go_ret2; exact ⟨rfl, bl2_⟩
theorem fl_3 (n a u : Int) (hC : ∀ w : World, Calls Tryz.prog 99 #[.int .i64 n, .int .i64 5, .int .u64 a] w fun e w' => e = .returned (.tuple #[.int .u64 u, .int .i64 0]) ∧ Below w.heap.size w w') (w : World) : Calls Tryz.prog 50 #[.int .i64 n, .int .i64 3, .int .u64 a] w fun e w' => e = .returned (.tuple #[.int .u64 u, .int .i64 0]) ∧ Below w.heap.size w w' := by
  have HB := zm_ (Below.refl w.heap.size w); go_enter Tryz.func50, Tryz.ntmps50
  go_wp2_with (first | (go_at_call 99; (with_reducible refine (hC _).mono ?_); rintro e w4 ⟨rfl, hb⟩; replace HB := zm_ (below_step bl2_ hb); clear hb))
  go_ret2; exact ⟨rfl, bl2_⟩
theorem fl_4 (n a u : Int) (hC : ∀ w : World, Calls Tryz.prog 99 #[.int .i64 n, .int .i64 6, .int .u64 a] w fun e w' => e = .returned (.tuple #[.int .u64 u, .int .i64 0]) ∧ Below w.heap.size w w') (w : World) : Calls Tryz.prog 50 #[.int .i64 n, .int .i64 4, .int .u64 a] w fun e w' => e = .returned (.tuple #[.int .u64 u, .int .i64 0]) ∧ Below w.heap.size w w' := by
  have HB := zm_ (Below.refl w.heap.size w); go_enter Tryz.func50, Tryz.ntmps50
  go_wp2_with (first | (go_at_call 99; (with_reducible refine (hC _).mono ?_); rintro e w4 ⟨rfl, hb⟩; replace HB := zm_ (below_step bl2_ hb); clear hb))
  go_ret2; exact ⟨rfl, bl2_⟩
theorem fl_5 (n a u : Int) (hC : ∀ w : World, Calls Tryz.prog 99 #[.int .i64 n, .int .i64 7, .int .u64 a] w fun e w' => e = .returned (.tuple #[.int .u64 u, .int .i64 0]) ∧ Below w.heap.size w w') (w : World) : Calls Tryz.prog 50 #[.int .i64 n, .int .i64 5, .int .u64 a] w fun e w' => e = .returned (.tuple #[.int .u64 u, .int .i64 0]) ∧ Below w.heap.size w w' := by
  have HB := zm_ (Below.refl w.heap.size w); go_enter Tryz.func50, Tryz.ntmps50
  go_wp2_with (first | (go_at_call 99; (with_reducible refine (hC _).mono ?_); rintro e w4 ⟨rfl, hb⟩; replace HB := zm_ (below_step bl2_ hb); clear hb))
  go_ret2; exact ⟨rfl, bl2_⟩
theorem fl_6 (n a u : Int) (hC : ∀ w : World, Calls Tryz.prog 99 #[.int .i64 n, .int .i64 3, .int .u64 a] w fun e w' => e = .returned (.tuple #[.int .u64 u, .int .i64 0]) ∧ Below w.heap.size w w') (w : World) : Calls Tryz.prog 50 #[.int .i64 n, .int .i64 6, .int .u64 a] w fun e w' => e = .returned (.tuple #[.int .u64 u, .int .i64 0]) ∧ Below w.heap.size w w' := by
  have HB := zm_ (Below.refl w.heap.size w); go_enter Tryz.func50, Tryz.ntmps50
  go_wp2_with (first | (go_at_call 99; (with_reducible refine (hC _).mono ?_); rintro e w4 ⟨rfl, hb⟩; replace HB := zm_ (below_step bl2_ hb); clear hb))
  go_ret2; exact ⟨rfl, bl2_⟩
theorem flo_all (n k a u : Int) (hk : 0 ≤ k ∧ k ≤ 6) (hC : ∀ w : World, Calls Tryz.prog 99 #[.int .i64 n, .int .i64 (flo k), .int .u64 a] w fun e w' => e = .returned (.tuple #[.int .u64 u, .int .i64 0]) ∧ Below w.heap.size w w') (w : World) : Calls Tryz.prog 50 #[.int .i64 n, .int .i64 k, .int .u64 a] w fun e w' => e = .returned (.tuple #[.int .u64 u, .int .i64 0]) ∧ Below w.heap.size w w' := by
  have hop : k = 0 ∨ k = 1 ∨ k = 2 ∨ k = 3 ∨ k = 4 ∨ k = 5 ∨ k = 6 := by omega
  rcases hop with rfl | rfl | rfl | rfl | rfl | rfl | rfl
  · exact fl_0 n a u hC w
  · exact fl_1 n a u hC w
  · exact fl_2 n a u hC w
  · exact fl_3 n a u hC w
  · exact fl_4 n a u hC w
  · exact fl_5 n a u hC w
  · exact fl_6 n a u hC w
theorem flo_b (k : Int) (hk : 0 ≤ k ∧ k ≤ 6) : 1 ≤ flo k ∧ flo k ≤ 7 := by
  have hop : k = 0 ∨ k = 1 ∨ k = 2 ∨ k = 3 ∨ k = 4 ∨ k = 5 ∨ k = 6 := by omega
  rcases hop with rfl | rfl | rfl | rfl | rfl | rfl | rfl <;> decide
theorem float_32 (k : Int) (a u : Nat) (w : World) (hk : 0 ≤ k ∧ k ≤ 6) (ha : a < 18446744073709551616) (hu : un32 (flo k) (a % 4294967296) = some u) : Calls Tryz.prog 50 #[.int .i64 32, .int .i64 k, .int .u64 a] w fun e w' => e = .returned (.tuple #[.int .u64 u, .int .i64 0]) ∧ Below w.heap.size w w' :=
  flo_all 32 k a u hk (fun w => un_any32 (flo k) a u w (flo_b k hk) ha hu) w
theorem float_64 (k : Int) (a : Nat) (w : World) (hk : 0 ≤ k ∧ k ≤ 6) (ha : a < 18446744073709551616) : Calls Tryz.prog 50 #[.int .i64 64, .int .i64 k, .int .u64 a] w fun e w' => e = .returned (.tuple #[.int .u64 (un64 (flo k) a : Nat), .int .i64 0]) ∧ Below w.heap.size w w' :=
  flo_all 64 k a _ hk (fun w => un_any64 (flo k) a w (flo_b k hk) ha) w
end Go.Proofs.YtkhhhceeoljheaaGreatDoor
set_option linter.unusedVariables false
namespace Go.Proofs.YtkhhhceeoljheaaGreatDoor
open Go.RowKit Go.Proofs.YtkhhhceeoljheaaGreatDoor.Fl Ieee
theorem wr_lt {F E : Int} (hF : Fm F E) (d : Datum) : (fmt F).write d < 18446744073709551616 := by
  have hb := fm_b F E hF; have hB := binade_pos (fmt F); have hi : (fmt F).infRung + (fmt F).binade ≤ (fmt F).signWeight := by rcases hF with ⟨rfl, rfl⟩ | ⟨rfl, rfl⟩ <;> decide +kernel
  cases d with
  | number s m e =>
    show (fmt F).nearest s m e < _
    rw [nearest_eq]; have := word_lt (fmt F) s (rung (fmt F) m e) (Nat.lt_of_le_of_lt (rung_le' _ _ _) hb.2.2.2.2.2.2)
    omega
  | infinity s =>
    have := word_lt (fmt F) s (fmt F).infRung hb.2.2.2.2.2.2; show (fmt F).word s (fmt F).infRung < _
    omega
  | nan s t =>
    have h2 := Nat.mod_lt t hB; have := word_lt (fmt F) s ((fmt F).infRung + t % (fmt F).binade) (by omega); show (fmt F).word s ((fmt F).infRung + t % (fmt F).binade) < _
    omega
theorem wl32 (d : Datum) : single.write d < 18446744073709551616 := wr_lt fm32 d
theorem wl64 (d : Datum) : double.write d < 18446744073709551616 := wr_lt fm64 d
theorem bt64_lt (y : Nat) (h : y < 18446744073709551616) : bt64 y < 18446744073709551616 := by unfold bt64; split <;> omega
theorem sq_lt (x y : Nat) (h : double.sqrt x = some y) : y < 18446744073709551616 := by
  unfold Format.sqrt at h; obtain ⟨d, -, e⟩ := Option.map_eq_some_iff.1 h; rw [← e]; exact wl64 d
theorem un64_ok (v : Int) (hv : 1 ≤ v ∧ v ≤ 7) (c : Nat) (hc : c < 18446744073709551616) : un64 v c < 18446744073709551616 := by
  by_cases h1 : v = 1
  · subst h1
    show c % 9223372036854775808 < _
    omega
  by_cases h2 : v = 2
  · subst h2
    show (if 9223372036854775808 ≤ c then c - 9223372036854775808 else c + 9223372036854775808) < _
    split <;> omega
  by_cases h3 : v = 3
  · subst h3
    rw [un64_sqrt]
    cases h : double.sqrt c with
    | none => show 9221120237041090560 < _; omega
    | some y => exact bt64_lt y (sq_lt c y h)
  rw [un64_whl v (by omega)]; split
  · omega
  · exact wl64 _
theorem nn32 (s : Bool) (o : Option Nat) (h : o = some (single.word s 0)) : ∃ u, o = some u ∧ u < 18446744073709551616 := ⟨_, h, by have := word_lt single s 0 (by rw [sS]; omega); rw [sS] at this; omega⟩
theorem un32_ok (v : Int) (hv : 1 ≤ v ∧ v ≤ 7) (c : Nat) (hc : c < 4294967296) : ∃ u, un32 v c = some u ∧ u < 18446744073709551616 := by
  by_cases h1 : v = 1
  · subst h1
    exact ⟨c % 2147483648, rfl, by omega⟩
  by_cases h2 : v = 2
  · subst h2
    refine ⟨_, rfl, ?_⟩; split <;> omega
  by_cases h3 : v = 3
  · subst h3
    cases hN : isN single c
    · have hs := (isN_lt single c).1 hN
      have hu := un32_sqrt c hN; by_cases z : siz single c = 0
      · rw [fsqrt_z double (by rw [dI]; omega) (wide c) ((wide_zero c hN).2 z)] at hu
        exact nn32 (neg double (wide c)) _ (hu.trans (nar_zero _))
      · cases n : neg single c
        · by_cases i : siz single c = single.infRung
          · rw [fsqrt_inf double (by decide) (wide c) (wide_inf c i).2 (by rw [wide_neg c hN, n])] at hu
            have hu : un32 3 c = (floatToFloatBits .f64 (double.word false double.infRung) .f32).map bt32 := hu; rw [narrow_inf, Option.map_some, bt32_word _ _ (Nat.le_refl _)] at hu; exact ⟨_, hu, wl32 (.infinity false)⟩
          · obtain ⟨u, M, hb, u1, u2, m1, m2, m3, hl⟩ := up_ (pm single c) (fun k => z ((pm_zero single c).1 k)) (by have := (pm_s c (by omega)).1; omega)
            have hpl := pm_log single c; rw [sP] at hpl; have ev : M = (pm single c * 2 ^ (u - 1)) * 2 := by rw [m1, Nat.mul_assoc, ← Nat.pow_succ, Nat.succ_eq_add_one, Nat.sub_add_cancel (by omega)]
            have hM2 : M / 2 * 2 = M := by rw [ev, Nat.mul_div_cancel _ (by decide)]
            by_cases p : (pe single c - (u : Int)) % 2 = 1
            · obtain ⟨-, k2⟩ := sqrt_32 c (by omega) z n u 1 (M / 2) _ ⟨by omega, u2⟩ (by rw [Nat.pow_one, hM2, m1]) (by omega) (by omega) (by omega) (by omega) (root_is _)
              exact ⟨_, k2, by rw [← nearest_eq]; exact wl32 (.number _ _ _)⟩
            · obtain ⟨-, k2⟩ := sqrt_32 c (by omega) z n u 0 M _ ⟨by omega, u2⟩ (by rw [Nat.pow_zero, Nat.mul_one, m1]) (by omega) (by omega) (by omega) (by omega) (root_is _)
              exact ⟨_, k2, by rw [← nearest_eq]; exact wl32 (.number _ _ _)⟩
        · rw [fsqrt_neg double (by decide) (wide c) (fun k => z ((wide_zero c hN).1 k)) ((isN_lt double _).1 (wide_isN c hN)) (by rw [wide_neg c hN, n])] at hu
          exact ⟨2143289344, hu, by omega⟩
    · refine ⟨2143289344, ?_, by omega⟩
      unfold un32; rw [if_neg (by decide), if_neg (by decide), if_pos hN]
  refine ⟨_, un32_whl v (by omega) c hc, ?_⟩; split
  · omega
  · exact wl32 _
theorem orn_lt {F E : Int} (hF : Fm F E) (o : Option Datum) : orn F (o.map (fmt F).write) < 18446744073709551616 := by
  cases o with
  | none => rcases hF with ⟨rfl, rfl⟩ | ⟨rfl, rfl⟩ <;> decide +kernel
  | some d => exact wr_lt hF d
theorem ends_lt (op : Int) (zx zy lt ge : Bool) (a b N : Nat) (ha : a < N) (hb : b < N) : ends op zx zy lt ge a b < N := by
  unfold ends; split
  · exact ha
  · split
    · exact hb
    · exact ha
theorem binF_lt {F E : Int} (hF : Fm F E) (op : Int) (c d : Nat) (hc : c < 18446744073709551616) (hd : d < 18446744073709551616) : binF F op c d < 18446744073709551616 := by
  have hb := fm_b F E hF; unfold binF; split
  · have := word_lt (fmt F) (neg (fmt F) d) (siz (fmt F) c) (siz_lt _ _)
    omega
  split
  · rcases hF with ⟨rfl, rfl⟩ | ⟨rfl, rfl⟩ <;> decide +kernel
  split
  · exact ends_lt _ _ _ _ _ _ _ _ hc hd
  split
  · exact orn_lt hF _
  split
  · exact orn_lt hF _
  split
  · exact orn_lt hF _
  · exact orn_lt hF _
theorem bin32_ok (op : Int) (ho : 1 ≤ op ∧ op ≤ 7) (c d : Nat) (hc : c < 4294967296) (hd : d < 4294967296) : bin32 op c d < 18446744073709551616 := by
  rw [← binF_32 op ho c d hc hd]; exact binF_lt fm32 op c d (by omega) (by omega)
theorem bin64_ok (op : Int) (ho : 1 ≤ op ∧ op ≤ 7) (c d : Nat) (hc : c < 18446744073709551616) (hd : d < 18446744073709551616) : bin64 op c d < 18446744073709551616 := by
  rw [← binF_64 op ho c d hc hd]; exact binF_lt fm64 op c d hc hd
end Go.Proofs.YtkhhhceeoljheaaGreatDoor
