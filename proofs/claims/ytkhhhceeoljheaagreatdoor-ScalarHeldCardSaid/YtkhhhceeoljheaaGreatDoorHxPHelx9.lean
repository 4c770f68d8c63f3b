import Derived.Test.YtkhhhceeoljheaaGreatDoorHxPHelx8
namespace Go.Proofs.YtkhhhceeoljheaaGreatDoor.PHel
open Go.RowKit Go.Proofs.YtkhhhceeoljheaaGreatDoorW.PrintWords Go.Proofs.YtkhhhceeoljheaaGreatDoorW.PrintLast Go.Proofs.YtkhhhceeoljheaaGreatDoorW.PrintMore
attribute [local go_sem] max2_int min2_int max_two min_two max_three min_three max_four min_four   
set_option linter.unusedVariables false
set_option linter.unusedSimpArgs false
mutual
def scalar_clean.l0 : Nat → List (S33) → List (S33) → Int → Int → Option ((List (S33)))
 | 0, _, _, _, _ => none
 | k + 1, x3, x7, x8, x9 => if x9 < x8 then (if 0 ≤ x9 then (if x9 < (x7.length : Int) then (if ((rd_T33 x7 x9).f0) = 127 then (scalar_clean.j1 k x3 x7 x8 x9 ((rd_T33 x7 x9).f0) (((rd_T33 x7 x9).f0) == 127) ((rd_T33 x7 x9).f0) ((rd_T33 x7 x9).f1) ((rd_T33 x7 x9).f2) ((rd_T33 x7 x9).f3) ((rd_T33 x7 x9).f0) ((rd_T33 x7 x9).f1) 0 false) else (scalar_clean.j1 k x3 x7 x8 x9 ((rd_T33 x7 x9).f0) (((rd_T33 x7 x9).f0) == 125) ((rd_T33 x7 x9).f0) ((rd_T33 x7 x9).f1) ((rd_T33 x7 x9).f2) ((rd_T33 x7 x9).f3) ((rd_T33 x7 x9).f0) ((rd_T33 x7 x9).f1) 0 false)) else (none)) else (none)) else (some x3)
def scalar_clean.j1 : Nat → List (S33) → List (S33) → Int → Int → Int → Bool → Int → Int → Int → Bool → Int → Int → Int → Bool → Option ((List (S33)))
 | 0, _, _, _, _, _, _, _, _, _, _, _, _, _, _ => none
 | k + 1, x3, x7, x8, x9, x19, x20, x183000, x183001, x183002, x183003, x184000, x184001, x184002, x184003 => if x20 = true then (if x3.length < 4398046511104 then (scalar_clean.l0 k (x3 ++ [(⟨x184000, Go.bits .and .u64 x184001 4294967295, x184002, x184003⟩ : S33)]) x7 x8 (wrap64 (x9 + 1))) else (none)) else (if x19 = 123 then (if x3.length < 4398046511104 then (scalar_clean.l0 k (x3 ++ [(⟨x184000, x184001, x183002, x184003⟩ : S33)]) x7 x8 (wrap64 (x9 + 1))) else (none)) else (if x3.length < 4398046511104 then (scalar_clean.l0 k (x3 ++ [(⟨x184000, x184001, x184002, x184003⟩ : S33)]) x7 x8 (wrap64 (x9 + 1))) else (none)))
end
def scalar_clean.f (k : Nat) (l0 : List (S33)) : Option ((List (S33))) := scalar_clean.l0 k ([] : List (S33)) l0 (l0.length : Int) 0
theorem scalar_clean.mono_l : ∀ k, (∀ y0 y1 y2 y3, LeO (scalar_clean.l0 k y0 y1 y2 y3) (scalar_clean.l0 (k + 1) y0 y1 y2 y3)) ∧ (∀ y0 y1 y2 y3 y4 y5 y6 y7 y8 y9 y10 y11 y12 y13, LeO (scalar_clean.j1 k y0 y1 y2 y3 y4 y5 y6 y7 y8 y9 y10 y11 y12 y13) (scalar_clean.j1 (k + 1) y0 y1 y2 y3 y4 y5 y6 y7 y8 y9 y10 y11 y12 y13))
 | 0 => ⟨fun _ _ _ _ r h => by simp [scalar_clean.l0] at h, fun _ _ _ _ _ _ _ _ _ _ _ _ _ _ r h => by simp [scalar_clean.j1] at h⟩
 | k + 1 => by
  obtain ⟨ih0, ih1⟩ := scalar_clean.mono_l k
  refine ⟨?_, ?_⟩
  ·intro y0 y1 y2 y3
   unfold scalar_clean.l0
   repeat' first
   | (with_reducible exact ih0 _ _ _ _)
   | (with_reducible exact ih1 _ _ _ _ _ _ _ _ _ _ _ _ _ _)
   | (with_reducible exact LeO.refl _)
   | (with_reducible exact LeO.none _)
   | (with_reducible refine LeO.ite ?_ ?_)
   | (with_reducible refine LeO.bind ?_ (fun _ => ?_))
   | exact ih0 _ _ _ _
   | exact ih1 _ _ _ _ _ _ _ _ _ _ _ _ _ _
   | exact LeO.none _
   | refine LeO.ite ?_ ?_
   | refine LeO.bind ?_ (fun _ => ?_)
  ·intro y0 y1 y2 y3 y4 y5 y6 y7 y8 y9 y10 y11 y12 y13
   unfold scalar_clean.j1
   repeat' first
   | (with_reducible exact ih0 _ _ _ _)
   | (with_reducible exact ih1 _ _ _ _ _ _ _ _ _ _ _ _ _ _)
   | (with_reducible exact LeO.refl _)
   | (with_reducible exact LeO.none _)
   | (with_reducible refine LeO.ite ?_ ?_)
   | (with_reducible refine LeO.bind ?_ (fun _ => ?_))
   | exact ih0 _ _ _ _
   | exact ih1 _ _ _ _ _ _ _ _ _ _ _ _ _ _
   | exact LeO.none _
   | refine LeO.ite ?_ ?_
   | refine LeO.bind ?_ (fun _ => ?_)
theorem scalar_clean.mono : ∀ a0 k, LeO (scalar_clean.f k a0) (scalar_clean.f (k + 1) a0) := by
 intro a0 k
 obtain ⟨ih0, ih1⟩ := scalar_clean.mono_l k
 unfold scalar_clean.f
 repeat' first
   | (with_reducible exact ih0 _ _ _ _)
   | (with_reducible exact ih1 _ _ _ _ _ _ _ _ _ _ _ _ _ _)
   | (with_reducible exact LeO.refl _)
   | (with_reducible exact LeO.none _)
   | (with_reducible refine LeO.ite ?_ ?_)
   | (with_reducible refine LeO.bind ?_ (fun _ => ?_))
   | exact ih0 _ _ _ _
   | exact ih1 _ _ _ _ _ _ _ _ _ _ _ _ _ _
   | exact LeO.none _
   | refine LeO.ite ?_ ?_
   | refine LeO.bind ?_ (fun _ => ?_)
set_option maxHeartbeats 8000000 in
set_option maxRecDepth 100000 in
theorem scalar_clean.calls (k : Nat) (A0 : Option Addr) (c0 : Nat) (l0 : List (S33)) (r : List (S33)) (w : World) (hr0 : Kd.C k33 w A0 l0.length l0) (hc0 : l0.length ≤ c0) (h : scalar_clean.f k l0 = some r) (hG : GD w := by first | assumption | exact GD.below (by assumption) (by repeat (first | exact Aside0.out (by assumption) | exact Below.refl _ _ | assumption | apply below_alloc | apply pw_below_drewN | apply below_drew1 | refine below_set ?_ (Aside0.out (by assumption))))) :
  Calls Tryz.prog 29 #[.slice A0 l0.length c0] w fun e w' => ∃ v0_ : Value, e = .returned (v0_) ∧ Kd.R k33 33 w' w.heap.size (fun _ => True) v0_ r ∧ Below w.heap.size w w' := by
 have hu33 := Tryz.underlying33
 have HR0 := Aside0.mk hr0
 have HC0 := Aside0.mk hc0
 clear hr0 hc0
 have HB := Aside0.mk (Below.refl w.heap.size w)
 have H : (scalar_clean.l0 k ([] : List (S33)) l0 (l0.length : Int) 0) = some r := h
 clear h
 have H' := Aside0.mk H
 clear H
 go_enter Tryz.func29, Tryz.ntmps29
 go_wp2
 go_loopg [3, 9] k (fun kq v3 v9 w' => ∃ (x3_1 : List (S33)) (x9_1 : Int), v9 = .int .i64 x9_1 ∧ Aside0 (scalar_clean.l0 kq x3_1 l0 (l0.length : Int) x9_1 = some r) ∧ Aside0 (kq ≤ k) ∧ Aside0 (Kd.R k33 33 w' w.heap.size (fun _ => True) v3 x3_1) ∧ Aside0 (Below w.heap.size w w'))
 case atStart => exact ⟨(([] : List (S33))), (0), rs_, H', ⟨Nat.le_refl _⟩, ⟨by first | exact Kd.R_nil _ _ _ _ _ | exact Kd.N_nil _ _ _ _ _ | exact Kd.V_nil _ _ _ _ _ | exact Kd.Q_nil _ _ _ _ _ | exact Kd.S_nil _ _ _ _ _⟩, ⟨bl_⟩⟩
 case round =>
  clear H'
  obtain ⟨x3_1, x9_1, rfl, HA, HK1, HO_3, HB⟩ := hrel
  cases gk with
  | zero => exact absurd HA.out (by simp [scalar_clean.l0])
  | succ k1 =>
   have H := HA.out
   clear HA
   simp only [scalar_clean.l0] at H
   by_cases c2 : x9_1 < (l0.length : Int)
   ·rw [if_pos c2] at H
    have c2b0 : decide (x9_1 < (l0.length : Int)) = true := decide_eq_true c2
    clear c2
    by_cases c3 : 0 ≤ x9_1
    ·rw [if_pos c3] at H
     have c3b0 : decide (0 ≤ x9_1) = true := decide_eq_true c3
     clear c3
     by_cases c4 : x9_1 < (l0.length : Int)
     ·rw [if_pos c4] at H
      have c4b0 : decide (x9_1 < (l0.length : Int)) = true := decide_eq_true c4
      clear c4
      have HC5 := Aside0.mk H
      clear H
      have p181 : 0 ≤ (x9_1 : Int) := od_
      have q181 : x9_1 < (l0.length : Int) := od_
      obtain ⟨ad181, e181, hx181_0, hx181_1, hx181_2, hx181_3⟩ := at_T33 HR0.out x9_1 p181 q181
      cases e181
      replace hx181_0 := (HB.out.cell (World.block_lt_of_cell? w _ hx181_0)).trans hx181_0
      replace hx181_1 := (HB.out.cell (World.block_lt_of_cell? w _ hx181_1)).trans hx181_1
      replace hx181_2 := (HB.out.cell (World.block_lt_of_cell? w _ hx181_2)).trans hx181_2
      replace hx181_3 := (HB.out.cell (World.block_lt_of_cell? w _ hx181_3)).trans hx181_3
      replace p181 := eq_true p181
      replace q181 := eq_true q181
      go_upto_if 20 with (first | ((with_reducible refine gate_dst (N := 5) rfl ?_); refine box_event ?hg (N := 5) ?hd (cs := #[.int .i64 0, .int .u64 0, .int .u64 0, .bool false]) (t := 33) ?hr ?_; (case hd => rfl); (case hg => rfl); (case hr => first | (go_simp; done) | (go_simp; rfl)); intro gb182 hg w6 hbox hb; have n0_ := Aside0.mk (Kd.R_below (Kd.R_elderB (rl_ HO_3) gb182 (Nat.le_of_eq hg.symm)) hb); have n1_ := Aside0.mk (below_step bl_ hb); have n2_ := Aside0.mk (hbox); have n3_ := Aside0.mk ((by rw [hg]; exact (below_size bl_) : w.heap.size ≤ gb182)); have n4_ := Aside0.mk ((by rw [hg]; exact (below_size bl_) : w.heap.size ≤ gb182)); clear HO_3; clear HB; have HO_3 := n0_; have HB := n1_; have BK182 := n2_; have GW182 := n3_; have GE182 := n4_; clear n0_ n1_ n2_ n3_ n4_; clear hb hbox hg; have hcz7_0 : w6.cell? ⟨gb182, 0, none⟩ = some (.int .i64 0) := (blk_cell BK182.out 0).trans rfl; have hcz7_1 : w6.cell? ⟨gb182, 1, none⟩ = some (.int .u64 0) := (blk_cell BK182.out 1).trans rfl; have hcz7_2 : w6.cell? ⟨gb182, 2, none⟩ = some (.int .u64 0) := (blk_cell BK182.out 2).trans rfl; have hcz7_3 : w6.cell? ⟨gb182, 3, none⟩ = some (.bool false) := (blk_cell BK182.out 3).trans rfl; have hfz7_0 := blk_frozen BK182.out 0; have hfz7_1 := blk_frozen BK182.out 1; have hfz7_2 := blk_frozen BK182.out 2; have hfz7_3 := blk_frozen BK182.out 3) | ((with_reducible refine gate_dst (N := 6) rfl ?_); refine box_event ?hg (N := 6) ?hd (cs := #[.int .i64 0, .int .u64 0, .int .u64 0, .bool false]) (t := 33) ?hr ?_; (case hd => rfl); (case hg => rfl); (case hr => first | (go_simp; done) | (go_simp; rfl)); intro gb183 hg w8 hbox hb; have n0_ := Aside0.mk (Kd.R_below (Kd.R_elderB (by (with_reducible repeat (first | apply Kd.R_alloc | apply Kd.R_drewN | apply Kd.R_drew)); exact (Kd.R_mono (Kd.R_far (p := ⟨gb182, 3, none⟩) (Kd.R_far (p := ⟨gb182, 2, none⟩) (Kd.R_far (p := ⟨gb182, 1, none⟩) (Kd.R_far (p := ⟨gb182, 0, none⟩) (Kd.R_mono HO_3.out (fun k_ hk => (⟨hk, hk.2⟩ : _ ∧ k_ ≠ gb182))) (fun _ hk => hk.2) (.int .i64 ((rd_T33 l0 x9_1).f0))) (fun _ hk => hk.2) (.int .u64 ((rd_T33 l0 x9_1).f1))) (fun _ hk => hk.2) (.int .u64 ((rd_T33 l0 x9_1).f2))) (fun _ hk => hk.2) (.bool ((rd_T33 l0 x9_1).f3))) (fun _ h_ => h_.1))) gb183 (Nat.le_of_eq hg.symm)) hb); have n1_ := Aside0.mk (blk_below (g := gb182) (o := .cells #[.int .i64 ((rd_T33 l0 x9_1).f0), .int .u64 ((rd_T33 l0 x9_1).f1), .int .u64 ((rd_T33 l0 x9_1).f2), .bool ((rd_T33 l0 x9_1).f3)] 33 (0, 0)) (by (with_reducible repeat (first | refine blk_drewN ?_ _ | refine blk_drew ?_ | refine blk_alloc ?_ _)); refine blk_put (cs := #[.int .i64 ((rd_T33 l0 x9_1).f0), .int .u64 ((rd_T33 l0 x9_1).f1), .int .u64 ((rd_T33 l0 x9_1).f2), .bool false]) ?_ 3 _ rfl; (with_reducible repeat (first | refine blk_drewN ?_ _ | refine blk_drew ?_ | refine blk_alloc ?_ _)); refine blk_put (cs := #[.int .i64 ((rd_T33 l0 x9_1).f0), .int .u64 ((rd_T33 l0 x9_1).f1), .int .u64 0, .bool false]) ?_ 2 _ rfl; (with_reducible repeat (first | refine blk_drewN ?_ _ | refine blk_drew ?_ | refine blk_alloc ?_ _)); refine blk_put (cs := #[.int .i64 ((rd_T33 l0 x9_1).f0), .int .u64 0, .int .u64 0, .bool false]) ?_ 1 _ rfl; (with_reducible repeat (first | refine blk_drewN ?_ _ | refine blk_drew ?_ | refine blk_alloc ?_ _)); refine blk_put (cs := #[.int .i64 0, .int .u64 0, .int .u64 0, .bool false]) ?_ 0 _ rfl; (with_reducible repeat (first | refine blk_drewN ?_ _ | refine blk_drew ?_ | refine blk_alloc ?_ _)); exact BK182.out) hb); have n2_ := Aside0.mk (below_step bs_ hb); have n3_ := Aside0.mk (hbox); have n4_ := Aside0.mk ((by rw [hg]; exact (below_size bs_) : w.heap.size ≤ gb183)); have n5_ := Aside0.mk ((by rw [hg]; exact (below_size bs_) : w.heap.size ≤ gb183)); have n6_ := Aside0.mk ((by rw [hg]; exact Nat.ne_of_lt (blk_lt (g := gb182) (o := .cells #[.int .i64 ((rd_T33 l0 x9_1).f0), .int .u64 ((rd_T33 l0 x9_1).f1), .int .u64 ((rd_T33 l0 x9_1).f2), .bool ((rd_T33 l0 x9_1).f3)] 33 (0, 0)) (by (with_reducible repeat (first | refine blk_drewN ?_ _ | refine blk_drew ?_ | refine blk_alloc ?_ _)); refine blk_put (cs := #[.int .i64 ((rd_T33 l0 x9_1).f0), .int .u64 ((rd_T33 l0 x9_1).f1), .int .u64 ((rd_T33 l0 x9_1).f2), .bool false]) ?_ 3 _ rfl; (with_reducible repeat (first | refine blk_drewN ?_ _ | refine blk_drew ?_ | refine blk_alloc ?_ _)); refine blk_put (cs := #[.int .i64 ((rd_T33 l0 x9_1).f0), .int .u64 ((rd_T33 l0 x9_1).f1), .int .u64 0, .bool false]) ?_ 2 _ rfl; (with_reducible repeat (first | refine blk_drewN ?_ _ | refine blk_drew ?_ | refine blk_alloc ?_ _)); refine blk_put (cs := #[.int .i64 ((rd_T33 l0 x9_1).f0), .int .u64 0, .int .u64 0, .bool false]) ?_ 1 _ rfl; (with_reducible repeat (first | refine blk_drewN ?_ _ | refine blk_drew ?_ | refine blk_alloc ?_ _)); refine blk_put (cs := #[.int .i64 0, .int .u64 0, .int .u64 0, .bool false]) ?_ 0 _ rfl; (with_reducible repeat (first | refine blk_drewN ?_ _ | refine blk_drew ?_ | refine blk_alloc ?_ _)); exact BK182.out)) : gb182 ≠ gb183)); have n7_ := Aside0.mk ((by rw [hg]; exact Nat.ne_of_gt (blk_lt (g := gb182) (o := .cells #[.int .i64 ((rd_T33 l0 x9_1).f0), .int .u64 ((rd_T33 l0 x9_1).f1), .int .u64 ((rd_T33 l0 x9_1).f2), .bool ((rd_T33 l0 x9_1).f3)] 33 (0, 0)) (by (with_reducible repeat (first | refine blk_drewN ?_ _ | refine blk_drew ?_ | refine blk_alloc ?_ _)); refine blk_put (cs := #[.int .i64 ((rd_T33 l0 x9_1).f0), .int .u64 ((rd_T33 l0 x9_1).f1), .int .u64 ((rd_T33 l0 x9_1).f2), .bool false]) ?_ 3 _ rfl; (with_reducible repeat (first | refine blk_drewN ?_ _ | refine blk_drew ?_ | refine blk_alloc ?_ _)); refine blk_put (cs := #[.int .i64 ((rd_T33 l0 x9_1).f0), .int .u64 ((rd_T33 l0 x9_1).f1), .int .u64 0, .bool false]) ?_ 2 _ rfl; (with_reducible repeat (first | refine blk_drewN ?_ _ | refine blk_drew ?_ | refine blk_alloc ?_ _)); refine blk_put (cs := #[.int .i64 ((rd_T33 l0 x9_1).f0), .int .u64 0, .int .u64 0, .bool false]) ?_ 1 _ rfl; (with_reducible repeat (first | refine blk_drewN ?_ _ | refine blk_drew ?_ | refine blk_alloc ?_ _)); refine blk_put (cs := #[.int .i64 0, .int .u64 0, .int .u64 0, .bool false]) ?_ 0 _ rfl; (with_reducible repeat (first | refine blk_drewN ?_ _ | refine blk_drew ?_ | refine blk_alloc ?_ _)); exact BK182.out)) : gb183 ≠ gb182)); clear HO_3; clear BK182; clear HB; have HO_3 := n0_; have BK182 := n1_; have HB := n2_; have BK183 := n3_; have GW183 := n4_; have GE183 := n5_; have NB182_183 := n6_; have NB183_182 := n7_; clear n0_ n1_ n2_ n3_ n4_ n5_ n6_ n7_; clear hb hbox hg; have hnb9 := NB183_182.out; have hnc9 := NB182_183.out; have hcz10_0 : w8.cell? ⟨gb183, 0, none⟩ = some (.int .i64 0) := (blk_cell BK183.out 0).trans rfl; have hcz10_1 : w8.cell? ⟨gb183, 1, none⟩ = some (.int .u64 0) := (blk_cell BK183.out 1).trans rfl; have hcz10_2 : w8.cell? ⟨gb183, 2, none⟩ = some (.int .u64 0) := (blk_cell BK183.out 2).trans rfl; have hcz10_3 : w8.cell? ⟨gb183, 3, none⟩ = some (.bool false) := (blk_cell BK183.out 3).trans rfl; have hfz10_0 := blk_frozen BK183.out 0; have hfz10_1 := blk_frozen BK183.out 1; have hfz10_2 := blk_frozen BK183.out 2; have hfz10_3 := blk_frozen BK183.out 3; have hcz11_0 : w8.cell? ⟨gb182, 0, none⟩ = some (.int .i64 ((rd_T33 l0 x9_1).f0)) := (blk_cell BK182.out 0).trans rfl; have hcz11_1 : w8.cell? ⟨gb182, 1, none⟩ = some (.int .u64 ((rd_T33 l0 x9_1).f1)) := (blk_cell BK182.out 1).trans rfl; have hcz11_2 : w8.cell? ⟨gb182, 2, none⟩ = some (.int .u64 ((rd_T33 l0 x9_1).f2)) := (blk_cell BK182.out 2).trans rfl; have hcz11_3 : w8.cell? ⟨gb182, 3, none⟩ = some (.bool ((rd_T33 l0 x9_1).f3)) := (blk_cell BK182.out 3).trans rfl; have hfz11_0 := blk_frozen BK182.out 0; have hfz11_1 := blk_frozen BK182.out 1; have hfz11_2 := blk_frozen BK182.out 2; have hfz11_3 := blk_frozen BK182.out 3))
      (try simp only [Act.put, List.setIfInBounds_toArray, List.set_cons_zero, List.set_cons_succ])
      go_cut [20] (fun v20 wc => ∃ (kq : Nat) (x20_4 : Bool), v20 = .bool x20_4 ∧ Aside0 (scalar_clean.j1 kq x3_1 l0 (l0.length : Int) x9_1 ((rd_T33 l0 x9_1).f0) x20_4 ((rd_T33 l0 x9_1).f0) ((rd_T33 l0 x9_1).f1) ((rd_T33 l0 x9_1).f2) ((rd_T33 l0 x9_1).f3) ((rd_T33 l0 x9_1).f0) ((rd_T33 l0 x9_1).f1) 0 false = some r) ∧ Aside0 (kq ≤ k1) ∧ Aside0 (Kd.R k33 33 wc w.heap.size (fun k_ => k_ ≠ gb182 ∧ k_ ≠ gb183) u3 x3_1) ∧ Aside0 (wc.heap[gb182]? = some (.cells #[.int .i64 ((rd_T33 l0 x9_1).f0), .int .u64 ((rd_T33 l0 x9_1).f1), .int .u64 ((rd_T33 l0 x9_1).f2), .bool ((rd_T33 l0 x9_1).f3)] 33 (0, 0))) ∧ Aside0 (wc.heap[gb183]? = some (.cells #[.int .i64 ((rd_T33 l0 x9_1).f0), .int .u64 ((rd_T33 l0 x9_1).f1), .int .u64 0, .bool false] 33 (0, 0))) ∧ Aside0 (Below w.heap.size w wc))
      case first =>
       have H := HC5.out
       clear HC5
       by_cases c12 : ((rd_T33 l0 x9_1).f0) = 127
       ·rw [if_pos c12] at H
        have c12b0 : (((rd_T33 l0 x9_1).f0) == 127) = true := beq_iff_eq.mpr c12
        have c12b1 : (((rd_T33 l0 x9_1).f0) != 127) = false := bne_eq_false_iff_eq.mpr c12
        clear c12
        (first | rw [c12b0] | (simp only [i64_w, i32_w]; rw [c12b0]) | skip)
        have H' := Aside0.mk H
        clear H
        go_wp2
        go_meet
        case rel => exact ⟨_, ((((rd_T33 l0 x9_1).f0) == 127)), rs_, H', ⟨by have := HK1.out; first | omega | exact Nat.le_refl _⟩, ⟨by (with_reducible repeat (first | apply Kd.R_alloc | apply Kd.R_drewN | apply Kd.R_drew)); exact Kd.R_mono (Kd.R_far (p := ⟨gb183, 3, none⟩) (Kd.R_far (p := ⟨gb183, 2, none⟩) (Kd.R_far (p := ⟨gb183, 1, none⟩) (Kd.R_far (p := ⟨gb183, 0, none⟩) (Kd.R_mono HO_3.out (fun k_ hk => (⟨hk, hk.2⟩ : _ ∧ k_ ≠ gb183))) (fun _ hk => hk.2) (.int .i64 ((rd_T33 l0 x9_1).f0))) (fun _ hk => hk.2) (.int .u64 ((rd_T33 l0 x9_1).f1))) (fun _ hk => hk.2) (.int .u64 0)) (fun _ hk => hk.2) (.bool false)) (fun _ hk => ⟨hk.1.1.2, hk.1.2⟩)⟩, ⟨by (with_reducible repeat (first | refine blk_drewN ?_ _ | refine blk_drew ?_ | refine blk_alloc ?_ _)); refine blk_far ?_ NB182_183.out _; (with_reducible repeat (first | refine blk_drewN ?_ _ | refine blk_drew ?_ | refine blk_alloc ?_ _)); refine blk_far ?_ NB182_183.out _; (with_reducible repeat (first | refine blk_drewN ?_ _ | refine blk_drew ?_ | refine blk_alloc ?_ _)); refine blk_far ?_ NB182_183.out _; (with_reducible repeat (first | refine blk_drewN ?_ _ | refine blk_drew ?_ | refine blk_alloc ?_ _)); refine blk_far ?_ NB182_183.out _; (with_reducible repeat (first | refine blk_drewN ?_ _ | refine blk_drew ?_ | refine blk_alloc ?_ _)); exact BK182.out⟩, ⟨by (with_reducible repeat (first | refine blk_drewN ?_ _ | refine blk_drew ?_ | refine blk_alloc ?_ _)); refine blk_put (cs := #[.int .i64 ((rd_T33 l0 x9_1).f0), .int .u64 ((rd_T33 l0 x9_1).f1), .int .u64 0, .bool false]) ?_ 3 _ rfl; (with_reducible repeat (first | refine blk_drewN ?_ _ | refine blk_drew ?_ | refine blk_alloc ?_ _)); refine blk_put (cs := #[.int .i64 ((rd_T33 l0 x9_1).f0), .int .u64 ((rd_T33 l0 x9_1).f1), .int .u64 0, .bool false]) ?_ 2 _ rfl; (with_reducible repeat (first | refine blk_drewN ?_ _ | refine blk_drew ?_ | refine blk_alloc ?_ _)); refine blk_put (cs := #[.int .i64 ((rd_T33 l0 x9_1).f0), .int .u64 0, .int .u64 0, .bool false]) ?_ 1 _ rfl; (with_reducible repeat (first | refine blk_drewN ?_ _ | refine blk_drew ?_ | refine blk_alloc ?_ _)); refine blk_put (cs := #[.int .i64 0, .int .u64 0, .int .u64 0, .bool false]) ?_ 0 _ rfl; (with_reducible repeat (first | refine blk_drewN ?_ _ | refine blk_drew ?_ | refine blk_alloc ?_ _)); exact BK183.out⟩, ⟨bs_⟩⟩
       ·rw [if_neg c12] at H
        have c12b0 : (((rd_T33 l0 x9_1).f0) == 127) = false := beq_eq_false_iff_ne.mpr c12
        have c12b1 : (((rd_T33 l0 x9_1).f0) != 127) = true := bne_iff_ne.mpr c12
        (first | rw [c12b0] | (simp only [i64_w, i32_w]; rw [c12b0]) | skip)
        have H' := Aside0.mk H
        clear H
        go_wp2
        go_meet
        case rel => exact ⟨_, ((((rd_T33 l0 x9_1).f0) == 125)), rs_, H', ⟨by have := HK1.out; first | omega | exact Nat.le_refl _⟩, ⟨by (with_reducible repeat (first | apply Kd.R_alloc | apply Kd.R_drewN | apply Kd.R_drew)); exact Kd.R_mono (Kd.R_far (p := ⟨gb183, 3, none⟩) (Kd.R_far (p := ⟨gb183, 2, none⟩) (Kd.R_far (p := ⟨gb183, 1, none⟩) (Kd.R_far (p := ⟨gb183, 0, none⟩) (Kd.R_mono HO_3.out (fun k_ hk => (⟨hk, hk.2⟩ : _ ∧ k_ ≠ gb183))) (fun _ hk => hk.2) (.int .i64 ((rd_T33 l0 x9_1).f0))) (fun _ hk => hk.2) (.int .u64 ((rd_T33 l0 x9_1).f1))) (fun _ hk => hk.2) (.int .u64 0)) (fun _ hk => hk.2) (.bool false)) (fun _ hk => ⟨hk.1.1.2, hk.1.2⟩)⟩, ⟨by (with_reducible repeat (first | refine blk_drewN ?_ _ | refine blk_drew ?_ | refine blk_alloc ?_ _)); refine blk_far ?_ NB182_183.out _; (with_reducible repeat (first | refine blk_drewN ?_ _ | refine blk_drew ?_ | refine blk_alloc ?_ _)); refine blk_far ?_ NB182_183.out _; (with_reducible repeat (first | refine blk_drewN ?_ _ | refine blk_drew ?_ | refine blk_alloc ?_ _)); refine blk_far ?_ NB182_183.out _; (with_reducible repeat (first | refine blk_drewN ?_ _ | refine blk_drew ?_ | refine blk_alloc ?_ _)); refine blk_far ?_ NB182_183.out _; (with_reducible repeat (first | refine blk_drewN ?_ _ | refine blk_drew ?_ | refine blk_alloc ?_ _)); exact BK182.out⟩, ⟨by (with_reducible repeat (first | refine blk_drewN ?_ _ | refine blk_drew ?_ | refine blk_alloc ?_ _)); refine blk_put (cs := #[.int .i64 ((rd_T33 l0 x9_1).f0), .int .u64 ((rd_T33 l0 x9_1).f1), .int .u64 0, .bool false]) ?_ 3 _ rfl; (with_reducible repeat (first | refine blk_drewN ?_ _ | refine blk_drew ?_ | refine blk_alloc ?_ _)); refine blk_put (cs := #[.int .i64 ((rd_T33 l0 x9_1).f0), .int .u64 ((rd_T33 l0 x9_1).f1), .int .u64 0, .bool false]) ?_ 2 _ rfl; (with_reducible repeat (first | refine blk_drewN ?_ _ | refine blk_drew ?_ | refine blk_alloc ?_ _)); refine blk_put (cs := #[.int .i64 ((rd_T33 l0 x9_1).f0), .int .u64 0, .int .u64 0, .bool false]) ?_ 1 _ rfl; (with_reducible repeat (first | refine blk_drewN ?_ _ | refine blk_drew ?_ | refine blk_alloc ?_ _)); refine blk_put (cs := #[.int .i64 0, .int .u64 0, .int .u64 0, .bool false]) ?_ 0 _ rfl; (with_reducible repeat (first | refine blk_drewN ?_ _ | refine blk_drew ?_ | refine blk_alloc ?_ _)); exact BK183.out⟩, ⟨bs_⟩⟩
      case rest =>
       clear HC5
       (try clear c1); (try clear p1); (try clear q1); (try clear hx1); (try clear c2); (try clear c2b0); (try clear p2); (try clear c3); (try clear c3b0); (try clear c4); (try clear c4b0); (try clear c9); (try clear c12); (try clear c12b0); (try clear c12b1); (try clear hcz10_0); (try clear hcz10_1); (try clear hcz10_2); (try clear hcz10_3); (try clear hcz11_0); (try clear hcz11_1); (try clear hcz11_2); (try clear hcz11_3); (try clear hcz7_0); (try clear hcz7_1); (try clear hcz7_2); (try clear hcz7_3); (try clear hfz10_0); (try clear hfz10_1); (try clear hfz10_2); (try clear hfz10_3); (try clear hfz11_0); (try clear hfz11_1); (try clear hfz11_2); (try clear hfz11_3); (try clear hfz7_0); (try clear hfz7_1); (try clear hfz7_2); (try clear hfz7_3); (try clear hx181_0); (try clear hx181_1); (try clear hx181_2); (try clear hx181_3); (try clear p181); (try clear q181)
       obtain ⟨kq, x20_4, rfl, HA, HJ4, HO_3, BK182, BK183, HB⟩ := hcut
       cases kq with
       | zero => exact absurd HA.out (by simp [scalar_clean.j1])
       | succ kj4 =>
        have H := HA.out
        clear HA
        simp only [scalar_clean.j1] at H
        by_cases c13 : x20_4 = true
        ·subst c13
         have H1 : (if x3_1.length < 4398046511104 then (scalar_clean.l0 kj4 (x3_1 ++ [(⟨((rd_T33 l0 x9_1).f0), Go.bits .and .u64 ((rd_T33 l0 x9_1).f1) 4294967295, 0, false⟩ : S33)]) l0 (l0.length : Int) (wrap64 (x9_1 + 1))) else (none)) = some r := by rw [if_pos rfl] at H; exact H
         clear H
         have H := H1
         clear H1
         by_cases c14 : x3_1.length < 4398046511104
         ·rw [if_pos c14] at H
          have LMc14 := Aside0.mk c14
          clear c14
          obtain ⟨y184, hy184⟩ : ∃ y_ : List (S33), y_ = (x3_1 ++ [(⟨((rd_T33 l0 x9_1).f0), Go.bits .and .u64 ((rd_T33 l0 x9_1).f1) 4294967295, 0, false⟩ : S33)]) := ⟨_, rfl⟩
          replace H : (scalar_clean.l0 kj4 y184 l0 (l0.length : Int) (wrap64 (x9_1 + 1))) = some r := by first | (rw [hy184]; with_reducible exact H) | (have H2_ := (Option.bind_some _ _).symm.trans H; rw [hy184]; with_reducible exact H2_) | (have H2_ := (Option.bind_some _ _).symm.trans H; with_reducible exact H2_) | with_reducible exact H | (rw [hy184]; exact H) | exact H
          have Ny184 := Aside0.mk hy184
          clear hy184
          have H' := Aside0.mk H
          clear H
          have hnb15 := NB183_182.out
          have hnc15 := NB182_183.out
          have hcz16_0 : wc.cell? ⟨gb183, 0, none⟩ = some (.int .i64 ((rd_T33 l0 x9_1).f0)) := (blk_cell BK183.out 0).trans rfl
          have hcz16_1 : wc.cell? ⟨gb183, 1, none⟩ = some (.int .u64 ((rd_T33 l0 x9_1).f1)) := (blk_cell BK183.out 1).trans rfl
          have hcz16_2 : wc.cell? ⟨gb183, 2, none⟩ = some (.int .u64 0) := (blk_cell BK183.out 2).trans rfl
          have hcz16_3 : wc.cell? ⟨gb183, 3, none⟩ = some (.bool false) := (blk_cell BK183.out 3).trans rfl
          have hfz16_0 := blk_frozen BK183.out 0
          have hfz16_1 := blk_frozen BK183.out 1
          have hfz16_2 := blk_frozen BK183.out 2
          have hfz16_3 := blk_frozen BK183.out 3
          go_wp2_with (first | ((with_reducible refine gate_builtin (b := .append) (xs := #[.tmp 32, .tmp 34]) rfl ?_); at_builtin; refine Kd.R_append k33 (w0 := w) w.heap.size rfl (.tmp 32) (.tmp 34) 30 33 (.agg #[(.int .i64 0), (.int .u64 0), (.int .u64 0), (.bool false)]) 32 rfl Tryz.underlying30 info33 rfl (by decide) (by omega) u3 x3_1 (⟨((rd_T33 l0 x9_1).f0), Go.bits .and .u64 ((rd_T33 l0 x9_1).f1) 4294967295, 0, false⟩ : S33) [.int .i64 ((rd_T33 l0 x9_1).f0), .int .u64 (Go.bits .and .u64 ((rd_T33 l0 x9_1).f1) 4294967295), .int .u64 0, .bool false] (fun k_ => k_ ≠ gb182 ∧ k_ ≠ gb183) (fun _ => False) rfl (by first | (go_simp; done) | (go_simp; rfl)) ?aP (fun _ hk => hk.elim) ?aF ?aO ?aB ?aS ?aL ?_; (case aP => exact k33_mkM _ _ _ (⟨((rd_T33 l0 x9_1).f0), Go.bits .and .u64 ((rd_T33 l0 x9_1).f1) 4294967295, 0, false⟩ : S33)); (case aB => exact bs_); (case aF => exact (fun k_ hk => ⟨Kd.freshB (g := gb182) (o := .cells #[.int .i64 ((rd_T33 l0 x9_1).f0), .int .u64 ((rd_T33 l0 x9_1).f1), .int .u64 ((rd_T33 l0 x9_1).f2), .bool ((rd_T33 l0 x9_1).f3)] 33 (0, 0)) (by (with_reducible repeat (first | refine blk_drewN ?_ _ | refine blk_drew ?_ | refine blk_alloc ?_ _)); refine blk_far ?_ NB182_183.out _; (with_reducible repeat (first | refine blk_drewN ?_ _ | refine blk_drew ?_ | refine blk_alloc ?_ _)); exact BK182.out) k_ hk, Kd.freshB (g := gb183) (o := .cells #[.int .i64 ((rd_T33 l0 x9_1).f0), .int .u64 (Go.bits .and .u64 ((rd_T33 l0 x9_1).f1) 4294967295), .int .u64 0, .bool false] 33 (0, 0)) (by (with_reducible repeat (first | refine blk_drewN ?_ _ | refine blk_drew ?_ | refine blk_alloc ?_ _)); refine blk_put (cs := #[.int .i64 ((rd_T33 l0 x9_1).f0), .int .u64 ((rd_T33 l0 x9_1).f1), .int .u64 0, .bool false]) ?_ 1 _ rfl; (with_reducible repeat (first | refine blk_drewN ?_ _ | refine blk_drew ?_ | refine blk_alloc ?_ _)); exact BK183.out) k_ hk⟩)); (case aO => exact (by (with_reducible repeat (first | apply Kd.R_alloc | apply Kd.R_drewN | apply Kd.R_drew)); exact Kd.R_mono (Kd.R_far (p := ⟨gb183, 1, none⟩) (Kd.R_mono HO_3.out (fun k_ hk => (⟨hk, hk.2⟩ : _ ∧ k_ ≠ gb183))) (fun _ hk => hk.2) (.int .u64 (Go.bits .and .u64 ((rd_T33 l0 x9_1).f1) 4294967295))) (fun _ hk => ⟨hk.1.1, hk.1.2⟩))); (case aS => exact (below_size bs_)); (case aL => have := LMc14.out; omega); intro v185 w17 ho hb hg hat; rw [← Ny184.out] at ho; have n0_ := Aside0.mk (blk_grown (g := gb182) (o := .cells #[.int .i64 ((rd_T33 l0 x9_1).f0), .int .u64 ((rd_T33 l0 x9_1).f1), .int .u64 ((rd_T33 l0 x9_1).f2), .bool ((rd_T33 l0 x9_1).f3)] 33 (0, 0)) (by (with_reducible repeat (first | refine blk_drewN ?_ _ | refine blk_drew ?_ | refine blk_alloc ?_ _)); refine blk_far ?_ NB182_183.out _; (with_reducible repeat (first | refine blk_drewN ?_ _ | refine blk_drew ?_ | refine blk_alloc ?_ _)); exact BK182.out) hg (Kd.R_away HO_3.out (fun _ hk => hk.1))); have n1_ := Aside0.mk (blk_grown (g := gb183) (o := .cells #[.int .i64 ((rd_T33 l0 x9_1).f0), .int .u64 (Go.bits .and .u64 ((rd_T33 l0 x9_1).f1) 4294967295), .int .u64 0, .bool false] 33 (0, 0)) (by (with_reducible repeat (first | refine blk_drewN ?_ _ | refine blk_drew ?_ | refine blk_alloc ?_ _)); refine blk_put (cs := #[.int .i64 ((rd_T33 l0 x9_1).f0), .int .u64 ((rd_T33 l0 x9_1).f1), .int .u64 0, .bool false]) ?_ 1 _ rfl; (with_reducible repeat (first | refine blk_drewN ?_ _ | refine blk_drew ?_ | refine blk_alloc ?_ _)); exact BK183.out) hg (Kd.R_away HO_3.out (fun _ hk => hk.2))); have n2_ := Aside0.mk (hb); have n3_ := Aside0.mk (ho); clear BK182; clear BK183; clear HB; clear HO_3; have BK182 := n0_; have BK183 := n1_; have HB := n2_; have HO186 := n3_; clear n0_ n1_ n2_ n3_; clear ho hb hg hat))
          go_roundg kj4
          case measure => have := HK1.out; have := HJ4.out; omega
          case rel => exact ⟨(y184), (wrap64 (x9_1 + 1)), rs_, H', ⟨by have := HK1.out; have := HJ4.out; omega⟩, ⟨by (with_reducible repeat (first | apply Kd.R_alloc | apply Kd.R_drewN | apply Kd.R_drew)); exact Kd.R_mono HO186.out (fun _ hk => trivial)⟩, ⟨bs_⟩⟩
         ·rw [if_neg c14] at H
          exact absurd H (by simp)
        ·replace c13 := Bool.eq_false_iff.mpr c13
         subst c13
         have H1 : (if ((rd_T33 l0 x9_1).f0) = 123 then (if x3_1.length < 4398046511104 then (scalar_clean.l0 kj4 (x3_1 ++ [(⟨((rd_T33 l0 x9_1).f0), ((rd_T33 l0 x9_1).f1), ((rd_T33 l0 x9_1).f2), false⟩ : S33)]) l0 (l0.length : Int) (wrap64 (x9_1 + 1))) else (none)) else (if x3_1.length < 4398046511104 then (scalar_clean.l0 kj4 (x3_1 ++ [(⟨((rd_T33 l0 x9_1).f0), ((rd_T33 l0 x9_1).f1), 0, false⟩ : S33)]) l0 (l0.length : Int) (wrap64 (x9_1 + 1))) else (none))) = some r := by rw [if_neg (show ¬ (false = true) by decide)] at H; exact H
         clear H
         have H := H1
         clear H1
         by_cases c18 : ((rd_T33 l0 x9_1).f0) = 123
         ·rw [if_pos c18] at H
          have c18b0 : (((rd_T33 l0 x9_1).f0) == 123) = true := beq_iff_eq.mpr c18
          have c18b1 : (((rd_T33 l0 x9_1).f0) != 123) = false := bne_eq_false_iff_eq.mpr c18
          clear c18
          by_cases c19 : x3_1.length < 4398046511104
          ·rw [if_pos c19] at H
           have LMc19 := Aside0.mk c19
           clear c19
           obtain ⟨y187, hy187⟩ : ∃ y_ : List (S33), y_ = (x3_1 ++ [(⟨((rd_T33 l0 x9_1).f0), ((rd_T33 l0 x9_1).f1), ((rd_T33 l0 x9_1).f2), false⟩ : S33)]) := ⟨_, rfl⟩
           replace H : (scalar_clean.l0 kj4 y187 l0 (l0.length : Int) (wrap64 (x9_1 + 1))) = some r := by first | (rw [hy187]; with_reducible exact H) | (have H2_ := (Option.bind_some _ _).symm.trans H; rw [hy187]; with_reducible exact H2_) | (have H2_ := (Option.bind_some _ _).symm.trans H; with_reducible exact H2_) | with_reducible exact H | (rw [hy187]; exact H) | exact H
           have Ny187 := Aside0.mk hy187
           clear hy187
           have H' := Aside0.mk H
           clear H
           have hnb20 := NB182_183.out
           have hnc20 := NB183_182.out
           have hcz21_0 : wc.cell? ⟨gb182, 0, none⟩ = some (.int .i64 ((rd_T33 l0 x9_1).f0)) := (blk_cell BK182.out 0).trans rfl
           have hcz21_1 : wc.cell? ⟨gb182, 1, none⟩ = some (.int .u64 ((rd_T33 l0 x9_1).f1)) := (blk_cell BK182.out 1).trans rfl
           have hcz21_2 : wc.cell? ⟨gb182, 2, none⟩ = some (.int .u64 ((rd_T33 l0 x9_1).f2)) := (blk_cell BK182.out 2).trans rfl
           have hcz21_3 : wc.cell? ⟨gb182, 3, none⟩ = some (.bool ((rd_T33 l0 x9_1).f3)) := (blk_cell BK182.out 3).trans rfl
           have hfz21_0 := blk_frozen BK182.out 0
           have hfz21_1 := blk_frozen BK182.out 1
           have hfz21_2 := blk_frozen BK182.out 2
           have hfz21_3 := blk_frozen BK182.out 3
           have hcz22_0 : wc.cell? ⟨gb183, 0, none⟩ = some (.int .i64 ((rd_T33 l0 x9_1).f0)) := (blk_cell BK183.out 0).trans rfl
           have hcz22_1 : wc.cell? ⟨gb183, 1, none⟩ = some (.int .u64 ((rd_T33 l0 x9_1).f1)) := (blk_cell BK183.out 1).trans rfl
           have hcz22_2 : wc.cell? ⟨gb183, 2, none⟩ = some (.int .u64 0) := (blk_cell BK183.out 2).trans rfl
           have hcz22_3 : wc.cell? ⟨gb183, 3, none⟩ = some (.bool false) := (blk_cell BK183.out 3).trans rfl
           have hfz22_0 := blk_frozen BK183.out 0
           have hfz22_1 := blk_frozen BK183.out 1
           have hfz22_2 := blk_frozen BK183.out 2
           have hfz22_3 := blk_frozen BK183.out 3
           go_wp2_with (first | ((with_reducible refine gate_builtin (b := .append) (xs := #[.tmp 32, .tmp 34]) rfl ?_); at_builtin; refine Kd.R_append k33 (w0 := w) w.heap.size rfl (.tmp 32) (.tmp 34) 30 33 (.agg #[(.int .i64 0), (.int .u64 0), (.int .u64 0), (.bool false)]) 32 rfl Tryz.underlying30 info33 rfl (by decide) (by omega) u3 x3_1 (⟨((rd_T33 l0 x9_1).f0), ((rd_T33 l0 x9_1).f1), ((rd_T33 l0 x9_1).f2), false⟩ : S33) [.int .i64 ((rd_T33 l0 x9_1).f0), .int .u64 ((rd_T33 l0 x9_1).f1), .int .u64 ((rd_T33 l0 x9_1).f2), .bool false] (fun k_ => k_ ≠ gb182 ∧ k_ ≠ gb183) (fun _ => False) rfl (by first | (go_simp; done) | (go_simp; rfl)) ?aP (fun _ hk => hk.elim) ?aF ?aO ?aB ?aS ?aL ?_; (case aP => exact k33_mkM _ _ _ (⟨((rd_T33 l0 x9_1).f0), ((rd_T33 l0 x9_1).f1), ((rd_T33 l0 x9_1).f2), false⟩ : S33)); (case aB => exact bs_); (case aF => exact (fun k_ hk => ⟨Kd.freshB (g := gb182) (o := .cells #[.int .i64 ((rd_T33 l0 x9_1).f0), .int .u64 ((rd_T33 l0 x9_1).f1), .int .u64 ((rd_T33 l0 x9_1).f2), .bool ((rd_T33 l0 x9_1).f3)] 33 (0, 0)) (by (with_reducible repeat (first | refine blk_drewN ?_ _ | refine blk_drew ?_ | refine blk_alloc ?_ _)); refine blk_far ?_ NB182_183.out _; (with_reducible repeat (first | refine blk_drewN ?_ _ | refine blk_drew ?_ | refine blk_alloc ?_ _)); exact BK182.out) k_ hk, Kd.freshB (g := gb183) (o := .cells #[.int .i64 ((rd_T33 l0 x9_1).f0), .int .u64 ((rd_T33 l0 x9_1).f1), .int .u64 ((rd_T33 l0 x9_1).f2), .bool false] 33 (0, 0)) (by (with_reducible repeat (first | refine blk_drewN ?_ _ | refine blk_drew ?_ | refine blk_alloc ?_ _)); refine blk_put (cs := #[.int .i64 ((rd_T33 l0 x9_1).f0), .int .u64 ((rd_T33 l0 x9_1).f1), .int .u64 0, .bool false]) ?_ 2 _ rfl; (with_reducible repeat (first | refine blk_drewN ?_ _ | refine blk_drew ?_ | refine blk_alloc ?_ _)); exact BK183.out) k_ hk⟩)); (case aO => exact (by (with_reducible repeat (first | apply Kd.R_alloc | apply Kd.R_drewN | apply Kd.R_drew)); exact Kd.R_mono (Kd.R_far (p := ⟨gb183, 2, none⟩) (Kd.R_mono HO_3.out (fun k_ hk => (⟨hk, hk.2⟩ : _ ∧ k_ ≠ gb183))) (fun _ hk => hk.2) (.int .u64 ((rd_T33 l0 x9_1).f2))) (fun _ hk => ⟨hk.1.1, hk.1.2⟩))); (case aS => exact (below_size bs_)); (case aL => have := LMc19.out; omega); intro v188 w23 ho hb hg hat; rw [← Ny187.out] at ho; have n0_ := Aside0.mk (blk_grown (g := gb182) (o := .cells #[.int .i64 ((rd_T33 l0 x9_1).f0), .int .u64 ((rd_T33 l0 x9_1).f1), .int .u64 ((rd_T33 l0 x9_1).f2), .bool ((rd_T33 l0 x9_1).f3)] 33 (0, 0)) (by (with_reducible repeat (first | refine blk_drewN ?_ _ | refine blk_drew ?_ | refine blk_alloc ?_ _)); refine blk_far ?_ NB182_183.out _; (with_reducible repeat (first | refine blk_drewN ?_ _ | refine blk_drew ?_ | refine blk_alloc ?_ _)); exact BK182.out) hg (Kd.R_away HO_3.out (fun _ hk => hk.1))); have n1_ := Aside0.mk (blk_grown (g := gb183) (o := .cells #[.int .i64 ((rd_T33 l0 x9_1).f0), .int .u64 ((rd_T33 l0 x9_1).f1), .int .u64 ((rd_T33 l0 x9_1).f2), .bool false] 33 (0, 0)) (by (with_reducible repeat (first | refine blk_drewN ?_ _ | refine blk_drew ?_ | refine blk_alloc ?_ _)); refine blk_put (cs := #[.int .i64 ((rd_T33 l0 x9_1).f0), .int .u64 ((rd_T33 l0 x9_1).f1), .int .u64 0, .bool false]) ?_ 2 _ rfl; (with_reducible repeat (first | refine blk_drewN ?_ _ | refine blk_drew ?_ | refine blk_alloc ?_ _)); exact BK183.out) hg (Kd.R_away HO_3.out (fun _ hk => hk.2))); have n2_ := Aside0.mk (hb); have n3_ := Aside0.mk (ho); clear BK182; clear BK183; clear HB; clear HO_3; have BK182 := n0_; have BK183 := n1_; have HB := n2_; have HO189 := n3_; clear n0_ n1_ n2_ n3_; clear ho hb hg hat))
           go_roundg kj4
           case measure => have := HK1.out; have := HJ4.out; omega
           case rel => exact ⟨(y187), (wrap64 (x9_1 + 1)), rs_, H', ⟨by have := HK1.out; have := HJ4.out; omega⟩, ⟨by (with_reducible repeat (first | apply Kd.R_alloc | apply Kd.R_drewN | apply Kd.R_drew)); exact Kd.R_mono HO189.out (fun _ hk => trivial)⟩, ⟨bs_⟩⟩
          ·rw [if_neg c19] at H
           exact absurd H (by simp)
         ·rw [if_neg c18] at H
          have c18b0 : (((rd_T33 l0 x9_1).f0) == 123) = false := beq_eq_false_iff_ne.mpr c18
          have c18b1 : (((rd_T33 l0 x9_1).f0) != 123) = true := bne_iff_ne.mpr c18
          by_cases c24 : x3_1.length < 4398046511104
          ·rw [if_pos c24] at H
           have LMc24 := Aside0.mk c24
           clear c24
           obtain ⟨y190, hy190⟩ : ∃ y_ : List (S33), y_ = (x3_1 ++ [(⟨((rd_T33 l0 x9_1).f0), ((rd_T33 l0 x9_1).f1), 0, false⟩ : S33)]) := ⟨_, rfl⟩
           replace H : (scalar_clean.l0 kj4 y190 l0 (l0.length : Int) (wrap64 (x9_1 + 1))) = some r := by first | (rw [hy190]; with_reducible exact H) | (have H2_ := (Option.bind_some _ _).symm.trans H; rw [hy190]; with_reducible exact H2_) | (have H2_ := (Option.bind_some _ _).symm.trans H; with_reducible exact H2_) | with_reducible exact H | (rw [hy190]; exact H) | exact H
           have Ny190 := Aside0.mk hy190
           clear hy190
           have H' := Aside0.mk H
           clear H
           have hnb25 := NB183_182.out
           have hnc25 := NB182_183.out
           have hcz26_0 : wc.cell? ⟨gb183, 0, none⟩ = some (.int .i64 ((rd_T33 l0 x9_1).f0)) := (blk_cell BK183.out 0).trans rfl
           have hcz26_1 : wc.cell? ⟨gb183, 1, none⟩ = some (.int .u64 ((rd_T33 l0 x9_1).f1)) := (blk_cell BK183.out 1).trans rfl
           have hcz26_2 : wc.cell? ⟨gb183, 2, none⟩ = some (.int .u64 0) := (blk_cell BK183.out 2).trans rfl
           have hcz26_3 : wc.cell? ⟨gb183, 3, none⟩ = some (.bool false) := (blk_cell BK183.out 3).trans rfl
           have hfz26_0 := blk_frozen BK183.out 0
           have hfz26_1 := blk_frozen BK183.out 1
           have hfz26_2 := blk_frozen BK183.out 2
           have hfz26_3 := blk_frozen BK183.out 3
           go_wp2_with (first | ((with_reducible refine gate_builtin (b := .append) (xs := #[.tmp 32, .tmp 34]) rfl ?_); at_builtin; refine Kd.R_append k33 (w0 := w) w.heap.size rfl (.tmp 32) (.tmp 34) 30 33 (.agg #[(.int .i64 0), (.int .u64 0), (.int .u64 0), (.bool false)]) 32 rfl Tryz.underlying30 info33 rfl (by decide) (by omega) u3 x3_1 (⟨((rd_T33 l0 x9_1).f0), ((rd_T33 l0 x9_1).f1), 0, false⟩ : S33) [.int .i64 ((rd_T33 l0 x9_1).f0), .int .u64 ((rd_T33 l0 x9_1).f1), .int .u64 0, .bool false] (fun k_ => k_ ≠ gb182 ∧ k_ ≠ gb183) (fun _ => False) rfl rfl ?aP (fun _ hk => hk.elim) ?aF ?aO ?aB ?aS ?aL ?_; (case aP => exact k33_mkM _ _ _ (⟨((rd_T33 l0 x9_1).f0), ((rd_T33 l0 x9_1).f1), 0, false⟩ : S33)); (case aB => exact bs_); (case aF => exact (fun k_ hk => ⟨Kd.freshB (g := gb182) (o := .cells #[.int .i64 ((rd_T33 l0 x9_1).f0), .int .u64 ((rd_T33 l0 x9_1).f1), .int .u64 ((rd_T33 l0 x9_1).f2), .bool ((rd_T33 l0 x9_1).f3)] 33 (0, 0)) (by (with_reducible repeat (first | refine blk_drewN ?_ _ | refine blk_drew ?_ | refine blk_alloc ?_ _)); exact BK182.out) k_ hk, Kd.freshB (g := gb183) (o := .cells #[.int .i64 ((rd_T33 l0 x9_1).f0), .int .u64 ((rd_T33 l0 x9_1).f1), .int .u64 0, .bool false] 33 (0, 0)) (by (with_reducible repeat (first | refine blk_drewN ?_ _ | refine blk_drew ?_ | refine blk_alloc ?_ _)); exact BK183.out) k_ hk⟩)); (case aO => exact (rl_ HO_3)); (case aS => exact (below_size bs_)); (case aL => have := LMc24.out; omega); intro v191 w27 ho hb hg hat; rw [← Ny190.out] at ho; have n0_ := Aside0.mk (blk_grown (g := gb182) (o := .cells #[.int .i64 ((rd_T33 l0 x9_1).f0), .int .u64 ((rd_T33 l0 x9_1).f1), .int .u64 ((rd_T33 l0 x9_1).f2), .bool ((rd_T33 l0 x9_1).f3)] 33 (0, 0)) (by (with_reducible repeat (first | refine blk_drewN ?_ _ | refine blk_drew ?_ | refine blk_alloc ?_ _)); exact BK182.out) hg (Kd.R_away HO_3.out (fun _ hk => hk.1))); have n1_ := Aside0.mk (blk_grown (g := gb183) (o := .cells #[.int .i64 ((rd_T33 l0 x9_1).f0), .int .u64 ((rd_T33 l0 x9_1).f1), .int .u64 0, .bool false] 33 (0, 0)) (by (with_reducible repeat (first | refine blk_drewN ?_ _ | refine blk_drew ?_ | refine blk_alloc ?_ _)); exact BK183.out) hg (Kd.R_away HO_3.out (fun _ hk => hk.2))); have n2_ := Aside0.mk (hb); have n3_ := Aside0.mk (ho); clear BK182; clear BK183; clear HB; clear HO_3; have BK182 := n0_; have BK183 := n1_; have HB := n2_; have HO192 := n3_; clear n0_ n1_ n2_ n3_; clear ho hb hg hat))
           go_roundg kj4
           case measure => have := HK1.out; have := HJ4.out; omega
           case rel => exact ⟨(y190), (wrap64 (x9_1 + 1)), rs_, H', ⟨by have := HK1.out; have := HJ4.out; omega⟩, ⟨by (with_reducible repeat (first | apply Kd.R_alloc | apply Kd.R_drewN | apply Kd.R_drew)); exact Kd.R_mono HO192.out (fun _ hk => trivial)⟩, ⟨bs_⟩⟩
          ·rw [if_neg c24] at H
           exact absurd H (by simp)
     ·rw [if_neg c4] at H
      exact absurd H (by simp)
    ·rw [if_neg c3] at H
     exact absurd H (by simp)
   ·rw [if_neg c2] at H
    have c2b0 : decide (x9_1 < (l0.length : Int)) = false := decide_eq_false c2
    clear c2
    obtain rfl := Option.some.inj H
    go_wp2
    go_ret
    exact ⟨_, er_, by (with_reducible repeat (first | apply Kd.R_alloc | apply Kd.R_drewN | apply Kd.R_drew)); exact HO_3.out, bl_⟩
def scalar_truth.f (a0 : Bool) (a1 : Int) : Option (Int × Int) := none
def scalar_float.f (a0 : Int) (a1 : Int) (a2 : Int) : Option (Int × Int) := none
def scalar_turned.f (a0 : Int) (a1 : Int) : Option (Int × Int) := if a0 = 168 then (none) else (if a0 = 169 then (none) else (if a0 = 170 then (none) else (if a0 = 171 then (none) else (if a0 = 172 then (none) else (if a0 = 174 then (none) else (if a0 = 175 then (none) else (if a0 = 176 then (none) else (if a0 = 177 then (none) else (if a0 = 178 then (none) else (if a0 = 179 then (none) else (if a0 = 180 then (none) else (if a0 = 181 then (none) else (if a0 = 182 then (none) else (if a0 = 183 then (none) else (if a0 = 184 then (none) else (if a0 = 185 then (none) else (if a0 = 186 then (none) else (if a0 = 187 then (none) else (if a0 = 192 then (none) else (if a0 = 193 then (none) else (if a0 = 194 then (none) else (if a0 = 195 then (none) else (if a0 = 196 then (none) else (some (a1, 0)))))))))))))))))))))))))
set_option maxHeartbeats 8000000 in
set_option maxRecDepth 100000 in
theorem scalar_turned.calls (a0 : Int) (a1 : Int) (r1 : Int) (r2 : Int) (w : World) (h : scalar_turned.f a0 a1 = some (r1, r2)) (hG : GD w := by first | assumption | exact GD.below (by assumption) (by repeat (first | exact Aside0.out (by assumption) | exact Below.refl _ _ | assumption | apply below_alloc | apply pw_below_drewN | apply below_drew1 | refine below_set ?_ (Aside0.out (by assumption))))) :
  Calls Tryz.prog 53 #[.int .i64 a0, .int .u64 a1] w fun e w' => e = .returned (.tuple #[.int .u64 r1, .int .i64 r2]) ∧ Below w.heap.size w w' := by
 have HB := Aside0.mk (Below.refl w.heap.size w)
 have H : (if a0 = 168 then (none) else (if a0 = 169 then (none) else (if a0 = 170 then (none) else (if a0 = 171 then (none) else (if a0 = 172 then (none) else (if a0 = 174 then (none) else (if a0 = 175 then (none) else (if a0 = 176 then (none) else (if a0 = 177 then (none) else (if a0 = 178 then (none) else (if a0 = 179 then (none) else (if a0 = 180 then (none) else (if a0 = 181 then (none) else (if a0 = 182 then (none) else (if a0 = 183 then (none) else (if a0 = 184 then (none) else (if a0 = 185 then (none) else (if a0 = 186 then (none) else (if a0 = 187 then (none) else (if a0 = 192 then (none) else (if a0 = 193 then (none) else (if a0 = 194 then (none) else (if a0 = 195 then (none) else (if a0 = 196 then (none) else (some (a1, 0)))))))))))))))))))))))))) = some (r1, r2) := h
 clear h
 by_cases c3 : a0 = 168
 ·rw [if_pos c3] at H
  exact absurd H (by simp)
 ·rw [if_neg c3] at H
  have c3b0 : (a0 == 168) = false := beq_eq_false_iff_ne.mpr c3
  have c3b1 : (a0 != 168) = true := bne_iff_ne.mpr c3
  by_cases c4 : a0 = 169
  ·rw [if_pos c4] at H
   exact absurd H (by simp)
  ·rw [if_neg c4] at H
   have c4b0 : (a0 == 169) = false := beq_eq_false_iff_ne.mpr c4
   have c4b1 : (a0 != 169) = true := bne_iff_ne.mpr c4
   by_cases c5 : a0 = 170
   ·rw [if_pos c5] at H
    exact absurd H (by simp)
   ·rw [if_neg c5] at H
    have c5b0 : (a0 == 170) = false := beq_eq_false_iff_ne.mpr c5
    have c5b1 : (a0 != 170) = true := bne_iff_ne.mpr c5
    by_cases c6 : a0 = 171
    ·rw [if_pos c6] at H
     exact absurd H (by simp)
    ·rw [if_neg c6] at H
     have c6b0 : (a0 == 171) = false := beq_eq_false_iff_ne.mpr c6
     have c6b1 : (a0 != 171) = true := bne_iff_ne.mpr c6
     by_cases c7 : a0 = 172
     ·rw [if_pos c7] at H
      exact absurd H (by simp)
     ·rw [if_neg c7] at H
      have c7b0 : (a0 == 172) = false := beq_eq_false_iff_ne.mpr c7
      have c7b1 : (a0 != 172) = true := bne_iff_ne.mpr c7
      by_cases c8 : a0 = 174
      ·rw [if_pos c8] at H
       exact absurd H (by simp)
      ·rw [if_neg c8] at H
       have c8b0 : (a0 == 174) = false := beq_eq_false_iff_ne.mpr c8
       have c8b1 : (a0 != 174) = true := bne_iff_ne.mpr c8
       by_cases c9 : a0 = 175
       ·rw [if_pos c9] at H
        exact absurd H (by simp)
       ·rw [if_neg c9] at H
        have c9b0 : (a0 == 175) = false := beq_eq_false_iff_ne.mpr c9
        have c9b1 : (a0 != 175) = true := bne_iff_ne.mpr c9
        by_cases c10 : a0 = 176
        ·rw [if_pos c10] at H
         exact absurd H (by simp)
        ·rw [if_neg c10] at H
         have c10b0 : (a0 == 176) = false := beq_eq_false_iff_ne.mpr c10
         have c10b1 : (a0 != 176) = true := bne_iff_ne.mpr c10
         by_cases c11 : a0 = 177
         ·rw [if_pos c11] at H
          exact absurd H (by simp)
         ·rw [if_neg c11] at H
          have c11b0 : (a0 == 177) = false := beq_eq_false_iff_ne.mpr c11
          have c11b1 : (a0 != 177) = true := bne_iff_ne.mpr c11
          by_cases c12 : a0 = 178
          ·rw [if_pos c12] at H
           exact absurd H (by simp)
          ·rw [if_neg c12] at H
           have c12b0 : (a0 == 178) = false := beq_eq_false_iff_ne.mpr c12
           have c12b1 : (a0 != 178) = true := bne_iff_ne.mpr c12
           by_cases c13 : a0 = 179
           ·rw [if_pos c13] at H
            exact absurd H (by simp)
           ·rw [if_neg c13] at H
            have c13b0 : (a0 == 179) = false := beq_eq_false_iff_ne.mpr c13
            have c13b1 : (a0 != 179) = true := bne_iff_ne.mpr c13
            by_cases c14 : a0 = 180
            ·rw [if_pos c14] at H
             exact absurd H (by simp)
            ·rw [if_neg c14] at H
             have c14b0 : (a0 == 180) = false := beq_eq_false_iff_ne.mpr c14
             have c14b1 : (a0 != 180) = true := bne_iff_ne.mpr c14
             by_cases c15 : a0 = 181
             ·rw [if_pos c15] at H
              exact absurd H (by simp)
             ·rw [if_neg c15] at H
              have c15b0 : (a0 == 181) = false := beq_eq_false_iff_ne.mpr c15
              have c15b1 : (a0 != 181) = true := bne_iff_ne.mpr c15
              by_cases c16 : a0 = 182
              ·rw [if_pos c16] at H
               exact absurd H (by simp)
              ·rw [if_neg c16] at H
               have c16b0 : (a0 == 182) = false := beq_eq_false_iff_ne.mpr c16
               have c16b1 : (a0 != 182) = true := bne_iff_ne.mpr c16
               by_cases c17 : a0 = 183
               ·rw [if_pos c17] at H
                exact absurd H (by simp)
               ·rw [if_neg c17] at H
                have c17b0 : (a0 == 183) = false := beq_eq_false_iff_ne.mpr c17
                have c17b1 : (a0 != 183) = true := bne_iff_ne.mpr c17
                by_cases c18 : a0 = 184
                ·rw [if_pos c18] at H
                 exact absurd H (by simp)
                ·rw [if_neg c18] at H
                 have c18b0 : (a0 == 184) = false := beq_eq_false_iff_ne.mpr c18
                 have c18b1 : (a0 != 184) = true := bne_iff_ne.mpr c18
                 by_cases c19 : a0 = 185
                 ·rw [if_pos c19] at H
                  exact absurd H (by simp)
                 ·rw [if_neg c19] at H
                  have c19b0 : (a0 == 185) = false := beq_eq_false_iff_ne.mpr c19
                  have c19b1 : (a0 != 185) = true := bne_iff_ne.mpr c19
                  by_cases c20 : a0 = 186
                  ·rw [if_pos c20] at H
                   exact absurd H (by simp)
                  ·rw [if_neg c20] at H
                   have c20b0 : (a0 == 186) = false := beq_eq_false_iff_ne.mpr c20
                   have c20b1 : (a0 != 186) = true := bne_iff_ne.mpr c20
                   by_cases c21 : a0 = 187
                   ·rw [if_pos c21] at H
                    exact absurd H (by simp)
                   ·rw [if_neg c21] at H
                    have c21b0 : (a0 == 187) = false := beq_eq_false_iff_ne.mpr c21
                    have c21b1 : (a0 != 187) = true := bne_iff_ne.mpr c21
                    by_cases c22 : a0 = 192
                    ·rw [if_pos c22] at H
                     exact absurd H (by simp)
                    ·rw [if_neg c22] at H
                     have c22b0 : (a0 == 192) = false := beq_eq_false_iff_ne.mpr c22
                     have c22b1 : (a0 != 192) = true := bne_iff_ne.mpr c22
                     by_cases c23 : a0 = 193
                     ·rw [if_pos c23] at H
                      exact absurd H (by simp)
                     ·rw [if_neg c23] at H
                      have c23b0 : (a0 == 193) = false := beq_eq_false_iff_ne.mpr c23
                      have c23b1 : (a0 != 193) = true := bne_iff_ne.mpr c23
                      by_cases c24 : a0 = 194
                      ·rw [if_pos c24] at H
                       exact absurd H (by simp)
                      ·rw [if_neg c24] at H
                       have c24b0 : (a0 == 194) = false := beq_eq_false_iff_ne.mpr c24
                       have c24b1 : (a0 != 194) = true := bne_iff_ne.mpr c24
                       by_cases c25 : a0 = 195
                       ·rw [if_pos c25] at H
                        exact absurd H (by simp)
                       ·rw [if_neg c25] at H
                        have c25b0 : (a0 == 195) = false := beq_eq_false_iff_ne.mpr c25
                        have c25b1 : (a0 != 195) = true := bne_iff_ne.mpr c25
                        by_cases c26 : a0 = 196
                        ·rw [if_pos c26] at H
                         exact absurd H (by simp)
                        ·rw [if_neg c26] at H
                         have c26b0 : (a0 == 196) = false := beq_eq_false_iff_ne.mpr c26
                         have c26b1 : (a0 != 196) = true := bne_iff_ne.mpr c26
                         simp only [Option.some.injEq, Prod.mk.injEq] at H
                         obtain ⟨rfl, rfl⟩ := H
                         go_enter Tryz.func53, Tryz.ntmps53
                         go_wp2
                         go_ret2
                         exact ⟨er_, bl_⟩
def scalar_work.f (k : Nat) (a0 : Int) (a1 : Int) (a2 : Int) (a3 : Int) : Option (Int × Int) := if a0 = 69 then (none) else (if a0 = 80 then (none) else (if a0 ≤ 79 then (none) else (if a0 ≤ 90 then (none) else (if a0 ≤ 96 then (none) else (if a0 ≤ 102 then (none) else (if a0 ≤ 105 then (none) else (if a0 ≤ 120 then ((ints_Bin.f k a1 (wrap64 ((wrap64 (1 + a0)) - 106)) a2 a3).bind fun bt193 => (some (bt193.1, bt193.2))) else (if a0 ≤ 123 then (none) else (if a0 ≤ 138 then (none) else (if a0 ≤ 145 then (none) else (if a0 ≤ 152 then (none) else (if a0 ≤ 159 then (none) else (if a0 ≤ 166 then (none) else (if a0 ≥ 64512 then ((conv_Trunc.f k (wrap64 (32 + (wrap64 ((Int.tmod (wrap64 (Int.tdiv (wrap64 (a0 - 64512)) 2)) 2) * 32)))) (wrap64 (32 + (wrap64 ((wrap64 (Int.tdiv (wrap64 (a0 - 64512)) 4)) * 32)))) ((Int.tmod (wrap64 (a0 - 64512)) 2) == 0) true a2).bind fun bt195 => (some (bt195.1, bt195.2))) else ((scalar_turned.f a0 a2).bind fun bt197 => (some (bt197.1, bt197.2)))))))))))))))))
theorem scalar_work.mono : ∀ a0 a1 a2 a3 k, LeO (scalar_work.f k a0 a1 a2 a3) (scalar_work.f (k + 1) a0 a1 a2 a3) := by
 intro a0 a1 a2 a3 k
 unfold scalar_work.f
 repeat' first
   | (with_reducible exact conv_Trunc.mono _ _ _ _ _ _)
   | (with_reducible exact ints_Bin.mono _ _ _ _ _)
   | (with_reducible exact LeO.refl _)
   | (with_reducible exact LeO.none _)
   | (with_reducible refine LeO.ite ?_ ?_)
   | (with_reducible refine LeO.bind ?_ (fun _ => ?_))
   | exact conv_Trunc.mono _ _ _ _ _ _
   | exact ints_Bin.mono _ _ _ _ _
   | exact LeO.none _
   | refine LeO.ite ?_ ?_
   | refine LeO.bind ?_ (fun _ => ?_)
set_option maxHeartbeats 8000000 in
set_option maxRecDepth 100000 in
theorem scalar_work.calls (k : Nat) (a0 : Int) (a1 : Int) (a2 : Int) (a3 : Int) (r1 : Int) (r2 : Int) (w : World) (h : scalar_work.f k a0 a1 a2 a3 = some (r1, r2)) (hG : GD w := by first | assumption | exact GD.below (by assumption) (by repeat (first | exact Aside0.out (by assumption) | exact Below.refl _ _ | assumption | apply below_alloc | apply pw_below_drewN | apply below_drew1 | refine below_set ?_ (Aside0.out (by assumption))))) :
  Calls Tryz.prog 31 #[.int .i64 a0, .int .i64 a1, .int .u64 a2, .int .u64 a3] w fun e w' => e = .returned (.tuple #[.int .u64 r1, .int .i64 r2]) ∧ Below w.heap.size w w' := by
 have HB := Aside0.mk (Below.refl w.heap.size w)
 have H : (if a0 = 69 then (none) else (if a0 = 80 then (none) else (if a0 ≤ 79 then (none) else (if a0 ≤ 90 then (none) else (if a0 ≤ 96 then (none) else (if a0 ≤ 102 then (none) else (if a0 ≤ 105 then (none) else (if a0 ≤ 120 then ((ints_Bin.f k a1 (wrap64 ((wrap64 (1 + a0)) - 106)) a2 a3).bind fun bt193 => (some (bt193.1, bt193.2))) else (if a0 ≤ 123 then (none) else (if a0 ≤ 138 then (none) else (if a0 ≤ 145 then (none) else (if a0 ≤ 152 then (none) else (if a0 ≤ 159 then (none) else (if a0 ≤ 166 then (none) else (if a0 ≥ 64512 then ((conv_Trunc.f k (wrap64 (32 + (wrap64 ((Int.tmod (wrap64 (Int.tdiv (wrap64 (a0 - 64512)) 2)) 2) * 32)))) (wrap64 (32 + (wrap64 ((wrap64 (Int.tdiv (wrap64 (a0 - 64512)) 4)) * 32)))) ((Int.tmod (wrap64 (a0 - 64512)) 2) == 0) true a2).bind fun bt195 => (some (bt195.1, bt195.2))) else ((scalar_turned.f a0 a2).bind fun bt197 => (some (bt197.1, bt197.2)))))))))))))))))) = some (r1, r2) := h
 clear h
 by_cases c5 : a0 = 69
 ·rw [if_pos c5] at H
  exact absurd H (by simp)
 ·rw [if_neg c5] at H
  have c5b0 : (a0 == 69) = false := beq_eq_false_iff_ne.mpr c5
  have c5b1 : (a0 != 69) = true := bne_iff_ne.mpr c5
  by_cases c6 : a0 = 80
  ·rw [if_pos c6] at H
   exact absurd H (by simp)
  ·rw [if_neg c6] at H
   have c6b0 : (a0 == 80) = false := beq_eq_false_iff_ne.mpr c6
   have c6b1 : (a0 != 80) = true := bne_iff_ne.mpr c6
   by_cases c7 : a0 ≤ 79
   ·rw [if_pos c7] at H
    exact absurd H (by simp)
   ·rw [if_neg c7] at H
    have c7b0 : decide (a0 ≤ 79) = false := decide_eq_false c7
    clear c7
    by_cases c8 : a0 ≤ 90
    ·rw [if_pos c8] at H
     exact absurd H (by simp)
    ·rw [if_neg c8] at H
     have c8b0 : decide (a0 ≤ 90) = false := decide_eq_false c8
     clear c8
     by_cases c9 : a0 ≤ 96
     ·rw [if_pos c9] at H
      exact absurd H (by simp)
     ·rw [if_neg c9] at H
      have c9b0 : decide (a0 ≤ 96) = false := decide_eq_false c9
      clear c9
      by_cases c10 : a0 ≤ 102
      ·rw [if_pos c10] at H
       exact absurd H (by simp)
      ·rw [if_neg c10] at H
       have c10b0 : decide (a0 ≤ 102) = false := decide_eq_false c10
       clear c10
       by_cases c11 : a0 ≤ 105
       ·rw [if_pos c11] at H
        exact absurd H (by simp)
       ·rw [if_neg c11] at H
        have c11b0 : decide (a0 ≤ 105) = false := decide_eq_false c11
        clear c11
        by_cases c12 : a0 ≤ 120
        ·rw [if_pos c12] at H
         have c12b0 : decide (a0 ≤ 120) = true := decide_eq_true c12
         clear c12
         replace H := Option.bind_eq_some_iff.mp H
         obtain ⟨⟨t193, t194⟩, A130, H⟩ := H
         replace H : (some (t193, t194)) = some (r1, r2) := H
         have A13 := Aside0.mk A130
         clear A130
         simp only [Option.some.injEq, Prod.mk.injEq] at H
         obtain ⟨rfl, rfl⟩ := H
         go_enter Tryz.func31, Tryz.ntmps31
         go_wp2_with (first | ((with_reducible refine gate_callee (f := 49) rfl ?_); refine goesL_ (some 103) rfl rfl Tryz.func49 (by kernel_rfl) rfl #[.int .i64 a1, .int .i64 (wrap64 ((wrap64 (1 + a0)) - 106)), .int .u64 a2, .int .u64 a3] rfl mp_ ?_; (with_reducible refine (ints_Bin.calls k a1 (wrap64 ((wrap64 (1 + a0)) - 106)) a2 a3 t193 t194 _ A13.out).mono ?_); rintro e w' ⟨rfl, ⟨nd, rfl⟩⟩; refine ⟨_, rfl, ?_⟩))
         go_ret2
         exact ⟨er_, bl_⟩
        ·rw [if_neg c12] at H
         have c12b0 : decide (a0 ≤ 120) = false := decide_eq_false c12
         clear c12
         by_cases c14 : a0 ≤ 123
         ·rw [if_pos c14] at H
          exact absurd H (by simp)
         ·rw [if_neg c14] at H
          have c14b0 : decide (a0 ≤ 123) = false := decide_eq_false c14
          clear c14
          by_cases c15 : a0 ≤ 138
          ·rw [if_pos c15] at H
           exact absurd H (by simp)
          ·rw [if_neg c15] at H
           have c15b0 : decide (a0 ≤ 138) = false := decide_eq_false c15
           clear c15
           by_cases c16 : a0 ≤ 145
           ·rw [if_pos c16] at H
            exact absurd H (by simp)
           ·rw [if_neg c16] at H
            have c16b0 : decide (a0 ≤ 145) = false := decide_eq_false c16
            clear c16
            by_cases c17 : a0 ≤ 152
            ·rw [if_pos c17] at H
             exact absurd H (by simp)
            ·rw [if_neg c17] at H
             have c17b0 : decide (a0 ≤ 152) = false := decide_eq_false c17
             clear c17
             by_cases c18 : a0 ≤ 159
             ·rw [if_pos c18] at H
              exact absurd H (by simp)
             ·rw [if_neg c18] at H
              have c18b0 : decide (a0 ≤ 159) = false := decide_eq_false c18
              clear c18
              by_cases c19 : a0 ≤ 166
              ·rw [if_pos c19] at H
               exact absurd H (by simp)
              ·rw [if_neg c19] at H
               have c19b0 : decide (a0 ≤ 166) = false := decide_eq_false c19
               clear c19
               by_cases c20 : a0 ≥ 64512
               ·rw [if_pos c20] at H
                have c20b0 : decide (64512 ≤ a0) = true := decide_eq_true c20
                clear c20
                replace H := Option.bind_eq_some_iff.mp H
                obtain ⟨⟨t195, t196⟩, A210, H⟩ := H
                replace H : (some (t195, t196)) = some (r1, r2) := H
                have A21 := Aside0.mk A210
                clear A210
                simp only [Option.some.injEq, Prod.mk.injEq] at H
                obtain ⟨rfl, rfl⟩ := H
                go_enter Tryz.func31, Tryz.ntmps31
                go_wp2_with (first | ((with_reducible refine gate_callee (f := 52) rfl ?_); refine goesL_ (some 191) rfl rfl Tryz.func52 (by kernel_rfl) rfl #[.int .i64 (wrap64 (32 + (wrap64 ((Int.tmod (wrap64 (Int.tdiv (wrap64 (a0 - 64512)) 2)) 2) * 32)))), .int .i64 (wrap64 (32 + (wrap64 ((wrap64 (Int.tdiv (wrap64 (a0 - 64512)) 4)) * 32)))), .bool ((Int.tmod (wrap64 (a0 - 64512)) 2) == 0), .bool true, .int .u64 a2] rfl mp_ ?_; (with_reducible refine (conv_Trunc.calls k (wrap64 (32 + (wrap64 ((Int.tmod (wrap64 (Int.tdiv (wrap64 (a0 - 64512)) 2)) 2) * 32)))) (wrap64 (32 + (wrap64 ((wrap64 (Int.tdiv (wrap64 (a0 - 64512)) 4)) * 32)))) ((Int.tmod (wrap64 (a0 - 64512)) 2) == 0) true a2 t195 t196 _ A21.out).mono ?_); rintro e w22 ⟨rfl, hb⟩; refine ⟨_, rfl, ?_⟩; have n0_ := Aside0.mk (below_step bl_ hb); clear HB; have HB := n0_; clear n0_; (try clear hb); (try clear hb2); (try clear hk); (try clear hi)))
                go_ret2
                exact ⟨er_, bl_⟩
               ·rw [if_neg c20] at H
                have c20b0 : decide (64512 ≤ a0) = false := decide_eq_false c20
                clear c20
                replace H := Option.bind_eq_some_iff.mp H
                obtain ⟨⟨t197, t198⟩, A230, H⟩ := H
                replace H : (some (t197, t198)) = some (r1, r2) := H
                have A23 := Aside0.mk A230
                clear A230
                simp only [Option.some.injEq, Prod.mk.injEq] at H
                obtain ⟨rfl, rfl⟩ := H
                go_enter Tryz.func31, Tryz.ntmps31
                go_wp2_with (first | ((with_reducible refine gate_callee (f := 53) rfl ?_); refine goesL_ (some 196) rfl rfl Tryz.func53 (by kernel_rfl) rfl #[.int .i64 a0, .int .u64 a2] rfl mp_ ?_; (with_reducible refine (scalar_turned.calls a0 a2 t197 t198 _ A23.out).mono ?_); rintro e w24 ⟨rfl, hb⟩; refine ⟨_, rfl, ?_⟩; have n0_ := Aside0.mk (below_step bl_ hb); clear HB; have HB := n0_; clear n0_; (try clear hb); (try clear hb2); (try clear hk); (try clear hi)))
                go_ret2
                exact ⟨er_, bl_⟩
def scalar_width.f (a0 : Int) : Option (Int) := if a0 = 127 then (some 32) else (if a0 = 125 then (some 32) else (some 64))
set_option maxHeartbeats 8000000 in
set_option maxRecDepth 100000 in
theorem scalar_width.calls (a0 : Int) (r : Int) (w : World) (h : scalar_width.f a0 = some r) (hG : GD w := by first | assumption | exact GD.below (by assumption) (by repeat (first | exact Aside0.out (by assumption) | exact Below.refl _ _ | assumption | apply below_alloc | apply pw_below_drewN | apply below_drew1 | refine below_set ?_ (Aside0.out (by assumption))))) :
  Calls Tryz.prog 32 #[.int .i64 a0] w fun e w' => e = .returned (.int .i64 r) ∧ Drawn0 w w' := by
 have H : (if a0 = 127 then (some 32) else (if a0 = 125 then (some 32) else (some 64))) = some r := h
 clear h
 by_cases c2 : a0 = 127
 ·rw [if_pos c2] at H
  have c2b0 : (a0 == 127) = true := beq_iff_eq.mpr c2
  have c2b1 : (a0 != 127) = false := bne_eq_false_iff_eq.mpr c2
  clear c2
  obtain rfl := Option.some.inj H
  go_enter Tryz.func32, Tryz.ntmps32
  go_wp2
  go_ret
  exact ⟨by first | rfl | (simp; done) | (simp [*]; done), by repeat (first | exact Drawn0.refl _ | apply Drawn0.step)⟩
 ·rw [if_neg c2] at H
  have c2b0 : (a0 == 127) = false := beq_eq_false_iff_ne.mpr c2
  have c2b1 : (a0 != 127) = true := bne_iff_ne.mpr c2
  by_cases c3 : a0 = 125
  ·rw [if_pos c3] at H
   have c3b0 : (a0 == 125) = true := beq_iff_eq.mpr c3
   have c3b1 : (a0 != 125) = false := bne_eq_false_iff_eq.mpr c3
   clear c3
   obtain rfl := Option.some.inj H
   go_enter Tryz.func32, Tryz.ntmps32
   go_wp2
   go_ret
   exact ⟨by first | rfl | (simp; done) | (simp [*]; done), by repeat (first | exact Drawn0.refl _ | apply Drawn0.step)⟩
  ·rw [if_neg c3] at H
   have c3b0 : (a0 == 125) = false := beq_eq_false_iff_ne.mpr c3
   have c3b1 : (a0 != 125) = true := bne_iff_ne.mpr c3
   obtain rfl := Option.some.inj H
   go_enter Tryz.func32, Tryz.ntmps32
   go_wp2
   go_ret
   exact ⟨by first | rfl | (simp; done) | (simp [*]; done), by repeat (first | exact Drawn0.refl _ | apply Drawn0.step)⟩
end Go.Proofs.YtkhhhceeoljheaaGreatDoor.PHel
