import Derived.Test.YtkhhhceeoljheaaGreatDoorFxPFlox1
set_option maxHeartbeats 8000000
set_option maxRecDepth 100000
namespace Go.Proofs.YtkhhhceeoljheaaGreatDoor.PFlo
open Go.RowKit Go.Proofs.YtkhhhceeoljheaaGreatDoorW.PrintWords Go.Proofs.YtkhhhceeoljheaaGreatDoorW.PrintLast Go.Proofs.YtkhhhceeoljheaaGreatDoorW.PrintMore
attribute [local go_sem] max2_int min2_int max_two min_two max_three min_three max_four min_four   
set_option linter.unusedVariables false
set_option linter.unusedSimpArgs false
mutual
def bodkinref05_words.l0 : Nat → ByteArray → List ByteArray → ByteArray → Int → Option (List ByteArray)
 | 0, _, _, _, _ => none
 | k + 1, x0, x3, x4, x5 => if x5 ≤ (x0.size : Int) then (if x5 = (x0.size : Int) then (bodkinref05_words.j1 k x0 x3 x4 x5 true) else (if 0 ≤ x5 then (if x5 < (x0.size : Int) then (bodkinref05_words.j1 k x0 x3 x4 x5 ((bt x0 x5) == 32)) else (none)) else (none))) else (some x3)
def bodkinref05_words.j1 : Nat → ByteArray → List ByteArray → ByteArray → Int → Bool → Option (List ByteArray)
 | 0, _, _, _, _, _ => none
 | k + 1, x0, x3, x4, x5, x21 => if x21 = true then (if x4.toList = ([] : List UInt8) then (bodkinref05_words.l0 k x0 x3 (⟨#[]⟩ : ByteArray) (wrap64 (x5 + 1))) else (if x3.length < 8796093022208 then (bodkinref05_words.l0 k x0 (x3 ++ [x4]) (⟨#[]⟩ : ByteArray) (wrap64 (x5 + 1))) else (none))) else (if 0 ≤ x5 then (if x5 ≤ (wrap64 (x5 + 1)) then (if (wrap64 (x5 + 1)) ≤ (x0.size : Int) then (if x4.size + (x0.extract (x5 : Int).toNat ((wrap64 (x5 + 1)) : Int).toNat).size ≤ 9223372036854775807 then (bodkinref05_words.l0 k x0 x3 (x4 ++ (x0.extract (x5 : Int).toNat ((wrap64 (x5 + 1)) : Int).toNat)) (wrap64 (x5 + 1))) else (none)) else (none)) else (none)) else (none))
end
def bodkinref05_words.f (k : Nat) (a0 : ByteArray) : Option (List ByteArray) := bodkinref05_words.l0 k a0 ([] : List ByteArray) (⟨#[]⟩ : ByteArray) 0
theorem bodkinref05_words.mono_l : ∀ k, (∀ y0 y1 y2 y3, LeO (bodkinref05_words.l0 k y0 y1 y2 y3) (bodkinref05_words.l0 (k + 1) y0 y1 y2 y3)) ∧ (∀ y0 y1 y2 y3 y4, LeO (bodkinref05_words.j1 k y0 y1 y2 y3 y4) (bodkinref05_words.j1 (k + 1) y0 y1 y2 y3 y4))
 | 0 => ⟨fun _ _ _ _ r h => by simp [bodkinref05_words.l0] at h, fun _ _ _ _ _ r h => by simp [bodkinref05_words.j1] at h⟩
 | k + 1 => by
  obtain ⟨ih0, ih1⟩ := bodkinref05_words.mono_l k; refine ⟨?_, ?_⟩
  ·intro y0 y1 y2 y3; unfold bodkinref05_words.l0
   repeat' first
   | (with_reducible exact ih0 _ _ _ _)
   | (with_reducible exact ih1 _ _ _ _ _)
   | (with_reducible exact LeO.refl _)
   | (with_reducible exact LeO.none _)
   | (with_reducible refine LeO.ite ?_ ?_)
   | (with_reducible refine LeO.bind ?_ (fun _ => ?_))
   | exact ih0 _ _ _ _
   | exact ih1 _ _ _ _ _
   | exact LeO.none _
   | refine LeO.ite ?_ ?_
   | refine LeO.bind ?_ (fun _ => ?_)
  ·intro y0 y1 y2 y3 y4; unfold bodkinref05_words.j1
   repeat' first
   | (with_reducible exact ih0 _ _ _ _)
   | (with_reducible exact ih1 _ _ _ _ _)
   | (with_reducible exact LeO.refl _)
   | (with_reducible exact LeO.none _)
   | (with_reducible refine LeO.ite ?_ ?_)
   | (with_reducible refine LeO.bind ?_ (fun _ => ?_))
   | exact ih0 _ _ _ _
   | exact ih1 _ _ _ _ _
   | exact LeO.none _
   | refine LeO.ite ?_ ?_
   | refine LeO.bind ?_ (fun _ => ?_)
theorem bodkinref05_words.mono : ∀ a0 k, LeO (bodkinref05_words.f k a0) (bodkinref05_words.f (k + 1) a0) := by
 intro a0 k; obtain ⟨ih0, ih1⟩ := bodkinref05_words.mono_l k; unfold bodkinref05_words.f
 repeat' first
   | (with_reducible exact ih0 _ _ _ _)
   | (with_reducible exact ih1 _ _ _ _ _)
   | (with_reducible exact LeO.refl _)
   | (with_reducible exact LeO.none _)
   | (with_reducible refine LeO.ite ?_ ?_)
   | (with_reducible refine LeO.bind ?_ (fun _ => ?_))
   | exact ih0 _ _ _ _
   | exact ih1 _ _ _ _ _
   | exact LeO.none _
   | refine LeO.ite ?_ ?_
   | refine LeO.bind ?_ (fun _ => ?_)
theorem bodkinref05_words.calls (k : Nat) (a0 : ByteArray) (r : List ByteArray) (w : World) (h : bodkinref05_words.f k a0 = some r) (hG : GD w := by first | assumption | exact GD.below (by assumption) (by repeat (first | exact Aside0.out (by assumption) | exact Below.refl _ _ | assumption | apply below_alloc | apply pw_below_drewN | apply below_drew1 | refine below_set ?_ (Aside0.out (by assumption))))) :
  Calls Tryz.prog 23 #[.string a0] w fun e w' => ∃ v0_ : Value, e = .returned (v0_) ∧ Kd.R Kd.string 9 w' w.heap.size (fun _ => True) v0_ r ∧ Below w.heap.size w w' := by
 have HB := zm_ (Below.refl w.heap.size w); have H : (bodkinref05_words.l0 k a0 ([] : List ByteArray) (⟨#[]⟩ : ByteArray) 0) = some r := h; clear h; have H' := zm_ H; clear H; go_enter Tryz.func23, Tryz.ntmps23
 go_wp2
 go_loopg [3, 4, 5] k (fun kq v3 v4 v5 w' => ∃ (x3_1 : List ByteArray) (x4_1 : ByteArray) (x5_1 : Int), v4 = .string x4_1 ∧ v5 = .int .i64 x5_1 ∧ Aside0 (bodkinref05_words.l0 kq a0 x3_1 x4_1 x5_1 = some r) ∧ Aside0 (kq ≤ k) ∧ Aside0 (Kd.R Kd.string 9 w' w.heap.size (fun _ => True) v3 x3_1) ∧ Aside0 (Below w.heap.size w w'))
 case atStart => exact ⟨(([] : List ByteArray)), ((⟨#[]⟩ : ByteArray)), (0), rs_, rs_, H', ⟨Nat.le_refl _⟩, ⟨by first | exact Kd.R_nil _ _ _ _ _ | exact Kd.N_nil _ _ _ _ _ | exact Kd.V_nil _ _ _ _ _ | exact Kd.Q_nil _ _ _ _ _ | exact Kd.S_nil _ _ _ _ _⟩, ⟨bl_⟩⟩
 case round =>
  clear H'; obtain ⟨x3_1, x4_1, x5_1, rfl, rfl, HA, HK1, HO_3, HB⟩ := hrel
  cases gk with
  | zero => exact absurd HA.out (by simp [bodkinref05_words.l0])
  | succ k1 =>
   have H := HA.out; clear HA; simp only [bodkinref05_words.l0] at H; by_cases c2 : x5_1 ≤ (a0.size : Int)
   ·rw [if_pos c2] at H; have c2b0 : decide (x5_1 ≤ (a0.size : Int)) = true := decide_eq_true c2; clear c2; have HC3 := zm_ H; clear H; go_upto_region 6 with (fail)
    go_cut [21] (fun v21 wc => ∃ (kq : Nat) (x21_2 : Bool), v21 = .bool x21_2 ∧ Aside0 (bodkinref05_words.j1 kq a0 x3_1 x4_1 x5_1 x21_2 = some r) ∧ Aside0 (kq ≤ k1) ∧ Aside0 (Kd.R Kd.string 9 wc w.heap.size (fun _ => True) u3 x3_1) ∧ Aside0 (Below w.heap.size w wc))
    case first =>
     have H := HC3.out; clear HC3; by_cases c4 : x5_1 = (a0.size : Int)
     ·rw [if_pos c4] at H; have c4b0 : (x5_1 == (a0.size : Int)) = true := beq_iff_eq.mpr c4; have c4b1 : (x5_1 != (a0.size : Int)) = false := bne_eq_false_iff_eq.mpr c4; clear c4; (first | rw [c4b0] | (simp only [i64_w, i32_w]; rw [c4b0]) | skip)
      have H' := zm_ H; clear H; go_wp2
      go_meet
      case rel => exact ⟨_, (true), rs_, H', ⟨by have := HK1.out; first | omega | exact Nat.le_refl _⟩, ⟨rl_ HO_3⟩, ⟨bl_⟩⟩
     ·rw [if_neg c4] at H; have c4b0 : (x5_1 == (a0.size : Int)) = false := beq_eq_false_iff_ne.mpr c4; have c4b1 : (x5_1 != (a0.size : Int)) = true := bne_iff_ne.mpr c4; (first | rw [c4b0] | (simp only [i64_w, i32_w]; rw [c4b0]) | skip)
      by_cases c5 : 0 ≤ x5_1
      ·rw [if_pos c5] at H; have c5b0 : decide (0 ≤ x5_1) = true := decide_eq_true c5; clear c5; by_cases c6 : x5_1 < (a0.size : Int)
       ·rw [if_pos c6] at H; have c6b0 : decide (x5_1 < (a0.size : Int)) = true := decide_eq_true c6; clear c6; have H' := zm_ H; clear H; have p7 : 0 ≤ (x5_1 : Int) := od_; have q7 : x5_1 < (a0.size : Int) := od_; have hx7 := bt_at a0 x5_1; replace p7 := eq_true p7; replace q7 := eq_true q7; go_wp2
        go_meet
        case rel => exact ⟨_, (((bt a0 x5_1) == 32)), rs_, H', ⟨by have := HK1.out; first | omega | exact Nat.le_refl _⟩, ⟨rl_ HO_3⟩, ⟨bl_⟩⟩
       ·rw [if_neg c6] at H; exact absurd H (by simp)
      ·rw [if_neg c5] at H; exact absurd H (by simp)
    case rest =>
     clear HC3; (try clear c2); (try clear c2b0); (try clear p2); (try clear c4); (try clear c4b0); (try clear c4b1); (try clear c5); (try clear c5b0); (try clear c6); (try clear c6b0); (try clear p7); (try clear q7); (try clear hx7); (try clear p7); (try clear q7)
     obtain ⟨kq, x21_2, rfl, HA, HJ2, HO_3, HB⟩ := hcut
     cases kq with
     | zero => exact absurd HA.out (by simp [bodkinref05_words.j1])
     | succ kj2 =>
      have H := HA.out; clear HA; simp only [bodkinref05_words.j1] at H; by_cases c8 : x21_2 = true
      ·subst c8; have H1 : (if x4_1.toList = ([] : List UInt8) then (bodkinref05_words.l0 kj2 a0 x3_1 (⟨#[]⟩ : ByteArray) (wrap64 (x5_1 + 1))) else (if x3_1.length < 8796093022208 then (bodkinref05_words.l0 kj2 a0 (x3_1 ++ [x4_1]) (⟨#[]⟩ : ByteArray) (wrap64 (x5_1 + 1))) else (none))) = some r := by rw [if_pos rfl] at H; exact H
       clear H; have H := H1; clear H1; by_cases c9 : x4_1.toList = ([] : List UInt8)
       ·rw [if_pos c9] at H; have c9b0 : (x4_1.toList == ([] : List UInt8)) = true := beq_iff_eq.mpr c9; have c9b1 : (x4_1.toList != ([] : List UInt8)) = false := bne_eq_false_iff_eq.mpr c9; clear c9; have H' := zm_ H; clear H; go_wp2
        go_roundg kj2
        case measure => have := HK1.out; have := HJ2.out; omega
        case rel => exact ⟨(x3_1), ((⟨#[]⟩ : ByteArray)), (wrap64 (x5_1 + 1)), rs_, rs_, H', ⟨by have := HK1.out; have := HJ2.out; omega⟩, ⟨rl_ HO_3⟩, ⟨bl_⟩⟩
       ·rw [if_neg c9] at H; have c9b0 : (x4_1.toList == ([] : List UInt8)) = false := beq_eq_false_iff_ne.mpr c9; have c9b1 : (x4_1.toList != ([] : List UInt8)) = true := bne_iff_ne.mpr c9; by_cases c10 : x3_1.length < 8796093022208
        ·rw [if_pos c10] at H; have LMc10 := zm_ c10; clear c10; obtain ⟨y204, hy204⟩ : ∃ y_ : List ByteArray, y_ = (x3_1 ++ [x4_1]) := ⟨_, rfl⟩
         replace H : (bodkinref05_words.l0 kj2 a0 y204 (⟨#[]⟩ : ByteArray) (wrap64 (x5_1 + 1))) = some r := by first | (rw [hy204]; with_reducible exact H) | (have H2_ := (Option.bind_some _ _).symm.trans H; rw [hy204]; with_reducible exact H2_) | (have H2_ := (Option.bind_some _ _).symm.trans H; with_reducible exact H2_) | with_reducible exact H | (rw [hy204]; exact H) | exact H
         have Ny204 := zm_ hy204; clear hy204; have H' := zm_ H; clear H; go_wp2_with (first | ((with_reducible refine gate_builtin (b := .append) (xs := #[.tmp 24, .tmp 26]) rfl ?_); at_builtin; refine Kd.R_append Kd.string (w0 := w) w.heap.size rfl (.tmp 24) (.tmp 26) 42 9 (.string ⟨#[]⟩) 16 rfl Tryz.underlying42 info9 rfl (by decide) (by omega) u3 x3_1 x4_1 [.string x4_1] (fun _ => True) (fun _ => False) rfl rfl ?aP (fun _ hk => hk.elim) ?aF ?aO ?aB ?aS ?aL ?_; (case aP => exact rfl); (case aB => exact bl_); (case aF => exact (fun _ _ => trivial)); (case aO => exact (rl_ HO_3)); (case aS => exact (below_size bl_)); (case aL => have := LMc10.out; omega); intro v205 w11 ho hb hg hat; rw [← Ny204.out] at ho; have n0_ := zm_ (hb); have n1_ := zm_ (ho); clear HB; clear HO_3; have HB := n0_; have HO206 := n1_; clear n0_ n1_; clear ho hb hg hat))
         go_roundg kj2
         case measure => have := HK1.out; have := HJ2.out; omega
         case rel => exact ⟨(y204), ((⟨#[]⟩ : ByteArray)), (wrap64 (x5_1 + 1)), rs_, rs_, H', ⟨by have := HK1.out; have := HJ2.out; omega⟩, ⟨rl_ HO206⟩, ⟨bl_⟩⟩
        ·rw [if_neg c10] at H; exact absurd H (by simp)
      ·replace c8 := Bool.eq_false_iff.mpr c8; subst c8; have H1 : (if 0 ≤ x5_1 then (if x5_1 ≤ (wrap64 (x5_1 + 1)) then (if (wrap64 (x5_1 + 1)) ≤ (a0.size : Int) then (if x4_1.size + (a0.extract (x5_1 : Int).toNat ((wrap64 (x5_1 + 1)) : Int).toNat).size ≤ 9223372036854775807 then (bodkinref05_words.l0 kj2 a0 x3_1 (x4_1 ++ (a0.extract (x5_1 : Int).toNat ((wrap64 (x5_1 + 1)) : Int).toNat)) (wrap64 (x5_1 + 1))) else (none)) else (none)) else (none)) else (none)) = some r := by rw [if_neg (show ¬ (false = true) by decide)] at H; exact H
       clear H; have H := H1; clear H1; by_cases c12 : 0 ≤ x5_1
       ·rw [if_pos c12] at H; have c12b0 := eq_true c12; have c12b1 : decide (0 ≤ x5_1) = true := decide_eq_true c12; clear c12; by_cases c13 : x5_1 ≤ (wrap64 (x5_1 + 1))
        ·rw [if_pos c13] at H; have c13b0 := eq_true c13; have c13b1 : decide (x5_1 ≤ (wrap64 (x5_1 + 1))) = true := decide_eq_true c13; by_cases c14 : (wrap64 (x5_1 + 1)) ≤ (a0.size : Int)
         ·rw [if_pos c14] at H; have c14b0 := eq_true c14; have c14b1 : decide ((wrap64 (x5_1 + 1)) ≤ (a0.size : Int)) = true := decide_eq_true c14; by_cases c15 : x4_1.size + (a0.extract (x5_1 : Int).toNat ((wrap64 (x5_1 + 1)) : Int).toNat).size ≤ 9223372036854775807
          ·rw [if_pos c15] at H; have c15b0 := eq_true c15; have c15b1 : decide (x4_1.size + (a0.extract (x5_1 : Int).toNat ((wrap64 (x5_1 + 1)) : Int).toNat).size ≤ 9223372036854775807) = true := decide_eq_true c15; try have c15b2 : (9223372036854775807 < x4_1.size + (a0.extract (x5_1 : Int).toNat ((wrap64 (x5_1 + 1)) : Int).toNat).size) = False := eq_false (Nat.not_lt.2 c15)
           try have c15b3 : (9223372036854775807 < x4_1.size + (((wrap64 (x5_1 + 1)) : Int).toNat - (x5_1 : Int).toNat)) = False := eq_false (by have h_ := c15; simp only [ByteArray.size_extract] at h_; omega)
           have H' := zm_ H; clear H; go_wp2
           go_roundg kj2
           case measure => have := HK1.out; have := HJ2.out; omega
           case rel => exact ⟨(x3_1), (x4_1 ++ (a0.extract (x5_1 : Int).toNat ((wrap64 (x5_1 + 1)) : Int).toNat)), (wrap64 (x5_1 + 1)), rs_, rs_, H', ⟨by have := HK1.out; have := HJ2.out; omega⟩, ⟨rl_ HO_3⟩, ⟨bl_⟩⟩
          ·rw [if_neg c15] at H; exact absurd H (by simp)
         ·rw [if_neg c14] at H; exact absurd H (by simp)
        ·rw [if_neg c13] at H; exact absurd H (by simp)
       ·rw [if_neg c12] at H; exact absurd H (by simp)
   ·rw [if_neg c2] at H; have c2b0 : decide (x5_1 ≤ (a0.size : Int)) = false := decide_eq_false c2; clear c2; obtain rfl := Option.some.inj H; go_wp2
    go_ret; exact ⟨_, er_, by (with_reducible repeat (first | apply Kd.R_alloc | apply Kd.R_drewN | apply Kd.R_drew)); exact HO_3.out, bl_⟩
def bodkinref05_none.f  : Option (Int × ByteArray × Int × ByteArray × ByteArray × Bool) := some ((-1), (⟨#[]⟩ : ByteArray), 0, (⟨#[]⟩ : ByteArray), (⟨#[]⟩ : ByteArray), false)
theorem bodkinref05_none.calls  (r1 : Int) (r2 : ByteArray) (r3 : Int) (r4 : ByteArray) (r5 : ByteArray) (r6 : Bool) (w : World) (h : bodkinref05_none.f  = some (r1, r2, r3, r4, r5, r6)) (hG : GD w := by first | assumption | exact GD.below (by assumption) (by repeat (first | exact Aside0.out (by assumption) | exact Below.refl _ _ | assumption | apply below_alloc | apply pw_below_drewN | apply below_drew1 | refine below_set ?_ (Aside0.out (by assumption))))) :
  Calls Tryz.prog 24 #[] w fun e w' => e = .returned (.agg #[.int .i64 r1, .string r2, .int .i64 r3, .string r4, .string r5, .bool r6]) ∧ Below w.heap.size w w' := by
 have hu25 := Tryz.underlying25; have HB := zm_ (Below.refl w.heap.size w); have H : (some ((-1), (⟨#[]⟩ : ByteArray), 0, (⟨#[]⟩ : ByteArray), (⟨#[]⟩ : ByteArray), false)) = some (r1, r2, r3, r4, r5, r6) := h; clear h; simp only [Option.some.injEq, Prod.mk.injEq] at H; obtain ⟨rfl, rfl, rfl, rfl, rfl, rfl⟩ := H; go_enter Tryz.func24, Tryz.ntmps24
 go_wp2_with (first | ((with_reducible refine gate_dst (N := 0) rfl ?_); refine box_event ?hg (N := 0) ?hd (cs := #[.int .i64 0, .string (⟨#[]⟩ : ByteArray), .int .i64 0, .string (⟨#[]⟩ : ByteArray), .string (⟨#[]⟩ : ByteArray), .bool false]) (t := 25) ?hr ?_; (case hd => rfl); (case hg => rfl); (case hr => first | (go_simp; done) | (go_simp; rfl)); intro gb207 hg w1 hbox hb; have n0_ := zm_ (below_step bl_ hb); have n1_ := zm_ (hbox); have n2_ := zm_ ((by rw [hg]; exact (below_size bl_) : w.heap.size ≤ gb207)); have n3_ := zm_ ((by rw [hg]; exact (below_size bl_) : w.heap.size ≤ gb207)); clear HB; have HB := n0_; have BK207 := n1_; have GW207 := n2_; have GE207 := n3_; clear n0_ n1_ n2_ n3_; clear hb hbox hg; have hcz2_0 := zl_ BK207 0 (.int .i64 0); have hcz2_1 := zl_ BK207 1 (.string (⟨#[]⟩ : ByteArray)); have hcz2_2 := zl_ BK207 2 (.int .i64 0); have hcz2_3 := zl_ BK207 3 (.string (⟨#[]⟩ : ByteArray)); have hcz2_4 := zl_ BK207 4 (.string (⟨#[]⟩ : ByteArray)); have hcz2_5 := zl_ BK207 5 (.bool false); have hfz2_0 := blk_frozen BK207.out 0; have hfz2_1 := blk_frozen BK207.out 1; have hfz2_2 := blk_frozen BK207.out 2; have hfz2_3 := blk_frozen BK207.out 3; have hfz2_4 := blk_frozen BK207.out 4; have hfz2_5 := blk_frozen BK207.out 5))
 refine bodyPost_ret (results_cell_row rfl _ _ gb207 25 #[.int .i64 (-1), .string (⟨#[]⟩ : ByteArray), .int .i64 0, .string (⟨#[]⟩ : ByteArray), .string (⟨#[]⟩ : ByteArray), .bool false] (0, 0) _ rfl (by refine zb_ ?_; refine blk_put (cs := #[.int .i64 (-1), .string (⟨#[]⟩ : ByteArray), .int .i64 0, .string (⟨#[]⟩ : ByteArray), .string (⟨#[]⟩ : ByteArray), .bool false]) ?_ 5 _ rfl; refine zb_ ?_; refine blk_put (cs := #[.int .i64 (-1), .string (⟨#[]⟩ : ByteArray), .int .i64 0, .string (⟨#[]⟩ : ByteArray), .string (⟨#[]⟩ : ByteArray), .bool false]) ?_ 4 _ rfl; refine zb_ ?_; refine blk_put (cs := #[.int .i64 (-1), .string (⟨#[]⟩ : ByteArray), .int .i64 0, .string (⟨#[]⟩ : ByteArray), .string (⟨#[]⟩ : ByteArray), .bool false]) ?_ 3 _ rfl; refine zb_ ?_; refine blk_put (cs := #[.int .i64 (-1), .string (⟨#[]⟩ : ByteArray), .int .i64 0, .string (⟨#[]⟩ : ByteArray), .string (⟨#[]⟩ : ByteArray), .bool false]) ?_ 2 _ rfl; refine zb_ ?_; refine blk_put (cs := #[.int .i64 (-1), .string (⟨#[]⟩ : ByteArray), .int .i64 0, .string (⟨#[]⟩ : ByteArray), .string (⟨#[]⟩ : ByteArray), .bool false]) ?_ 1 _ rfl; refine zb_ ?_; refine blk_put (cs := #[.int .i64 0, .string (⟨#[]⟩ : ByteArray), .int .i64 0, .string (⟨#[]⟩ : ByteArray), .string (⟨#[]⟩ : ByteArray), .bool false]) ?_ 0 _ rfl; refine zb_ ?_; exact BK207.out) Tryz.underlying25 rfl (by kernel_rfl)) rfl ?_; exact ⟨er_, bs_⟩
def bodkinref05_digits.l0 : Nat → ByteArray → Int → Int → Option (Int)
 | 0, _, _, _ => none
 | k + 1, x0, x3, x4 => if x4 < (x0.size : Int) then (if 0 ≤ x4 then (bodkinref05_digits.l0 k x0 (wrap64 ((wrap64 ((wrap64 (x3 * 10)) + (wrap64 (bt x0 x4)))) - 48)) (wrap64 (x4 + 1))) else (none)) else (some x3)
def bodkinref05_digits.f (k : Nat) (a0 : ByteArray) : Option (Int) := bodkinref05_digits.l0 k a0 0 0
theorem bodkinref05_digits.mono_l : ∀ k, (∀ y0 y1 y2, LeO (bodkinref05_digits.l0 k y0 y1 y2) (bodkinref05_digits.l0 (k + 1) y0 y1 y2))
 | 0 => fun _ _ _ r h => by simp [bodkinref05_digits.l0] at h
 | k + 1 => by
  have ih0 := bodkinref05_digits.mono_l k
  ·intro y0 y1 y2; unfold bodkinref05_digits.l0
   repeat' first
   | (with_reducible exact ih0 _ _ _)
   | (with_reducible exact LeO.refl _)
   | (with_reducible exact LeO.none _)
   | (with_reducible refine LeO.ite ?_ ?_)
   | (with_reducible refine LeO.bind ?_ (fun _ => ?_))
   | exact ih0 _ _ _
   | exact LeO.none _
   | refine LeO.ite ?_ ?_
   | refine LeO.bind ?_ (fun _ => ?_)
theorem bodkinref05_digits.mono : ∀ a0 k, LeO (bodkinref05_digits.f k a0) (bodkinref05_digits.f (k + 1) a0) := by
 intro a0 k; have ih0 := bodkinref05_digits.mono_l k; unfold bodkinref05_digits.f
 repeat' first
   | (with_reducible exact ih0 _ _ _)
   | (with_reducible exact LeO.refl _)
   | (with_reducible exact LeO.none _)
   | (with_reducible refine LeO.ite ?_ ?_)
   | (with_reducible refine LeO.bind ?_ (fun _ => ?_))
   | exact ih0 _ _ _
   | exact LeO.none _
   | refine LeO.ite ?_ ?_
   | refine LeO.bind ?_ (fun _ => ?_)
theorem bodkinref05_digits.calls (k : Nat) (a0 : ByteArray) (r : Int) (w : World) (h : bodkinref05_digits.f k a0 = some r) (hG : GD w := by first | assumption | exact GD.below (by assumption) (by repeat (first | exact Aside0.out (by assumption) | exact Below.refl _ _ | assumption | apply below_alloc | apply pw_below_drewN | apply below_drew1 | refine below_set ?_ (Aside0.out (by assumption))))) :
  Calls Tryz.prog 25 #[.string a0] w fun e w' => e = .returned (.int .i64 r) ∧ Drawn0 w w' := by
 have H : (bodkinref05_digits.l0 k a0 0 0) = some r := h; clear h; have H' := zm_ H; clear H; go_enter Tryz.func25, Tryz.ntmps25
 go_wp2
 go_loopg [3, 4] k (fun kq v3 v4 w' => ∃ (x3_1 : Int) (x4_1 : Int), v3 = .int .i64 x3_1 ∧ v4 = .int .i64 x4_1 ∧ Aside0 (bodkinref05_digits.l0 kq a0 x3_1 x4_1 = some r) ∧ Aside0 (kq ≤ k) ∧ Drawn0 w w')
 case atStart => exact ⟨(0), (0), rs_, rs_, H', ⟨Nat.le_refl _⟩, by repeat (first | exact Drawn0.refl _ | apply Drawn0.step)⟩
 case round =>
  clear H'; obtain ⟨x3_1, x4_1, rfl, rfl, HA, HK1, ⟨m1, rfl⟩⟩ := hrel
  cases gk with
  | zero => exact absurd HA.out (by simp [bodkinref05_digits.l0])
  | succ k1 =>
   have H := HA.out; clear HA; simp only [bodkinref05_digits.l0] at H; by_cases c2 : x4_1 < (a0.size : Int)
   ·rw [if_pos c2] at H; have c2b0 : decide (x4_1 < (a0.size : Int)) = true := decide_eq_true c2; clear c2; by_cases c3 : 0 ≤ x4_1
    ·rw [if_pos c3] at H; have c3b0 : decide (0 ≤ x4_1) = true := decide_eq_true c3; clear c3; have H' := zm_ H; clear H; have p4 : 0 ≤ (x4_1 : Int) := od_; have q4 : x4_1 < (a0.size : Int) := od_; have hx4 := bt_at a0 x4_1; replace p4 := eq_true p4; replace q4 := eq_true q4; go_wp2
     go_roundg k1
     case measure => have := HK1.out; omega
     case rel => exact ⟨(wrap64 ((wrap64 ((wrap64 (x3_1 * 10)) + (wrap64 (bt a0 x4_1)))) - 48)), (wrap64 (x4_1 + 1)), rs_, rs_, H', ⟨by have := HK1.out; omega⟩, by repeat (first | exact Drawn0.refl _ | apply Drawn0.step)⟩
    ·rw [if_neg c3] at H; exact absurd H (by simp)
   ·rw [if_neg c2] at H; have c2b0 : decide (x4_1 < (a0.size : Int)) = false := decide_eq_false c2; clear c2; obtain rfl := Option.some.inj H; go_wp2
    go_ret; exact ⟨by first | rfl | (simp; done) | (simp [*]; done), by repeat (first | exact Drawn0.refl _ | apply Drawn0.step)⟩
end Go.Proofs.YtkhhhceeoljheaaGreatDoor.PFlo
