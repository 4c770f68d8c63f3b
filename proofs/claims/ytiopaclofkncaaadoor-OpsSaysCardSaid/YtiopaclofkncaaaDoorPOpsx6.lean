-- Printed by a program of this session (pr.py over the print) for the claim. Not trusted: Lean checks it.
import Derived.Test.YtiopaclofkncaaaDoorPOpsx0
import Derived.Test.YtiopaclofkncaaaDoorPOpsx4
import Derived.Test.YtiopaclofkncaaaDoorPOpsx5
namespace Go.Proofs.YtiopaclofkncaaaDoor.POps
open Go.RowKit Go.Proofs.YtiopaclofkncaaaDoorW.PrintWords Go.Proofs.YtiopaclofkncaaaDoorW.PrintLast Go.Proofs.YtiopaclofkncaaaDoorW.PrintMore
attribute [local go_sem] max2_int min2_int max_two min_two max_three min_three max_four min_four   -- for this text's walks alone
set_option linter.unusedVariables false
set_option linter.unusedSimpArgs false

/-! ### bodkinref05_Bytes: function 37 -/
mutual
def bodkinref05_Bytes.j0 : Nat → Bool → Int → ByteArray → Int → ByteArray → ByteArray → Bool → Option (Int)
 | 0, _, _, _, _, _, _, _ => none
 | k + 1, x20, x226000, x226001, x226002, x226003, x226004, x226005 => if x20 = true then (some 0) else ((bodkinref05_has.f k x226001 (⟨#[56, 120, 56]⟩ : ByteArray)).bind fun t226 => (if t226 = true then (bodkinref05_Bytes.j1 k true x226000 x226001 x226002 x226003 x226004 x226005) else ((bodkinref05_has.f k x226001 (⟨#[49, 54, 120, 52]⟩ : ByteArray)).bind fun t227 => (if t227 = true then (bodkinref05_Bytes.j1 k true x226000 x226001 x226002 x226003 x226004 x226005) else ((bodkinref05_has.f k x226001 (⟨#[51, 50, 120, 50]⟩ : ByteArray)).bind fun t228 => (bodkinref05_Bytes.j1 k t228 x226000 x226001 x226002 x226003 x226004 x226005))))))
def bodkinref05_Bytes.j1 : Nat → Bool → Int → ByteArray → Int → ByteArray → ByteArray → Bool → Option (Int)
 | 0, _, _, _, _, _, _, _ => none
 | k + 1, x33, x226000, x226001, x226002, x226003, x226004, x226005 => if x33 = true then (some 8) else (bodkinref05_Bytes.l0 k (([(⟨#[108, 111, 97, 100, 56]⟩ : ByteArray), (⟨#[115, 116, 111, 114, 101, 56]⟩ : ByteArray), (⟨#[108, 111, 97, 100, 49, 54]⟩ : ByteArray), (⟨#[115, 116, 111, 114, 101, 49, 54]⟩ : ByteArray), (⟨#[108, 111, 97, 100, 51, 50]⟩ : ByteArray), (⟨#[115, 116, 111, 114, 101, 51, 50]⟩ : ByteArray), (⟨#[108, 111, 97, 100, 54, 52]⟩ : ByteArray), (⟨#[115, 116, 111, 114, 101, 54, 52]⟩ : ByteArray)] : List ByteArray)) 0 x226000 x226001 x226002 x226003 x226004 x226005)
def bodkinref05_Bytes.l0 : Nat → List ByteArray → Int → Int → ByteArray → Int → ByteArray → ByteArray → Bool → Option (Int)
 | 0, _, _, _, _, _, _, _, _ => none
 | k + 1, x4, x5, x226000, x226001, x226002, x226003, x226004, x226005 => if x5 < (x4.length : Int) then (if 0 ≤ x5 then ((bodkinref05_has.f k x226001 (rdOf ByteArray.empty x4 x5)).bind fun t233 => (if t233 = true then ((some (([1, 1, 2, 2, 4, 4, 8, 8] : List Int) : List Int)).bind fun y234 => (if x5 < (y234.length : Int) then (some (rd y234 x5)) else (none))) else (bodkinref05_Bytes.l0 k x4 (wrap64 (x5 + 1)) x226000 x226001 x226002 x226003 x226004 x226005))) else (none)) else (if 0 ≤ 3 then (if 3 ≤ (x226001.size : Int) then (if (x226001.extract 0 3).toList = ([105, 54, 52] : List UInt8) then (bodkinref05_Bytes.j3 k (x226001.extract 0 3) ((x226001.extract 0 3).toList == ([105, 54, 52] : List UInt8))) else (bodkinref05_Bytes.j3 k (x226001.extract 0 3) ((x226001.extract 0 3).toList == ([102, 54, 52] : List UInt8)))) else (none)) else (none))
def bodkinref05_Bytes.j3 : Nat → ByteArray → Bool → Option (Int)
 | 0, _, _ => none
 | k + 1, x54, x55 => if x55 = true then (some 8) else (if x54.toList = ([118, 49, 50] : List UInt8) then (some 16) else (some 4))
end
def bodkinref05_Bytes.f (k : Nat) (a0 : Int) : Option (Int) := (bodkinref05_Of.f k a0).bind fun bt219 => (if bt219.1 < 0 then (bodkinref05_Bytes.j0 k true bt219.1 bt219.2.1 bt219.2.2.1 bt219.2.2.2.1 bt219.2.2.2.2.1 bt219.2.2.2.2.2) else (if bt219.2.2.1 = 10 then (bodkinref05_Bytes.j0 k false bt219.1 bt219.2.1 bt219.2.2.1 bt219.2.2.2.1 bt219.2.2.2.2.1 bt219.2.2.2.2.2) else (bodkinref05_Bytes.j0 k (bt219.2.2.1 != 26) bt219.1 bt219.2.1 bt219.2.2.1 bt219.2.2.2.1 bt219.2.2.2.2.1 bt219.2.2.2.2.2)))
theorem bodkinref05_Bytes.mono_l : ∀ k, (∀ y0 y1 y2 y3 y4 y5 y6, LeO (bodkinref05_Bytes.j0 k y0 y1 y2 y3 y4 y5 y6) (bodkinref05_Bytes.j0 (k + 1) y0 y1 y2 y3 y4 y5 y6)) ∧ (∀ y0 y1 y2 y3 y4 y5 y6, LeO (bodkinref05_Bytes.j1 k y0 y1 y2 y3 y4 y5 y6) (bodkinref05_Bytes.j1 (k + 1) y0 y1 y2 y3 y4 y5 y6)) ∧ (∀ y0 y1 y2 y3 y4 y5 y6 y7, LeO (bodkinref05_Bytes.l0 k y0 y1 y2 y3 y4 y5 y6 y7) (bodkinref05_Bytes.l0 (k + 1) y0 y1 y2 y3 y4 y5 y6 y7)) ∧ (∀ y0 y1, LeO (bodkinref05_Bytes.j3 k y0 y1) (bodkinref05_Bytes.j3 (k + 1) y0 y1))
 | 0 => ⟨fun _ _ _ _ _ _ _ r h => by simp [bodkinref05_Bytes.j0] at h, fun _ _ _ _ _ _ _ r h => by simp [bodkinref05_Bytes.j1] at h, fun _ _ _ _ _ _ _ _ r h => by simp [bodkinref05_Bytes.l0] at h, fun _ _ r h => by simp [bodkinref05_Bytes.j3] at h⟩
 | k + 1 => by
  obtain ⟨ih0, ih1, ih2, ih3⟩ := bodkinref05_Bytes.mono_l k
  refine ⟨?_, ?_, ?_, ?_⟩
  ·intro y0 y1 y2 y3 y4 y5 y6
   unfold bodkinref05_Bytes.j0
   repeat' first
   | (with_reducible exact ih0 _ _ _ _ _ _ _)
   | (with_reducible exact ih1 _ _ _ _ _ _ _)
   | (with_reducible exact ih2 _ _ _ _ _ _ _ _)
   | (with_reducible exact ih3 _ _)
   | (with_reducible exact bodkinref05_Of.mono _ _)
   | (with_reducible exact bodkinref05_has.mono _ _ _)
   | (with_reducible exact LeO.refl _)
   | (with_reducible exact LeO.none _)
   | (with_reducible refine LeO.ite ?_ ?_)
   | (with_reducible refine LeO.bind ?_ (fun _ => ?_))
   | exact ih0 _ _ _ _ _ _ _
   | exact ih1 _ _ _ _ _ _ _
   | exact ih2 _ _ _ _ _ _ _ _
   | exact ih3 _ _
   | exact bodkinref05_Of.mono _ _
   | exact bodkinref05_has.mono _ _ _
   | exact LeO.none _
   | refine LeO.ite ?_ ?_
   | refine LeO.bind ?_ (fun _ => ?_)
  ·intro y0 y1 y2 y3 y4 y5 y6
   unfold bodkinref05_Bytes.j1
   repeat' first
   | (with_reducible exact ih0 _ _ _ _ _ _ _)
   | (with_reducible exact ih1 _ _ _ _ _ _ _)
   | (with_reducible exact ih2 _ _ _ _ _ _ _ _)
   | (with_reducible exact ih3 _ _)
   | (with_reducible exact bodkinref05_Of.mono _ _)
   | (with_reducible exact bodkinref05_has.mono _ _ _)
   | (with_reducible exact LeO.refl _)
   | (with_reducible exact LeO.none _)
   | (with_reducible refine LeO.ite ?_ ?_)
   | (with_reducible refine LeO.bind ?_ (fun _ => ?_))
   | exact ih0 _ _ _ _ _ _ _
   | exact ih1 _ _ _ _ _ _ _
   | exact ih2 _ _ _ _ _ _ _ _
   | exact ih3 _ _
   | exact bodkinref05_Of.mono _ _
   | exact bodkinref05_has.mono _ _ _
   | exact LeO.none _
   | refine LeO.ite ?_ ?_
   | refine LeO.bind ?_ (fun _ => ?_)
  ·intro y0 y1 y2 y3 y4 y5 y6 y7
   unfold bodkinref05_Bytes.l0
   repeat' first
   | (with_reducible exact ih0 _ _ _ _ _ _ _)
   | (with_reducible exact ih1 _ _ _ _ _ _ _)
   | (with_reducible exact ih2 _ _ _ _ _ _ _ _)
   | (with_reducible exact ih3 _ _)
   | (with_reducible exact bodkinref05_Of.mono _ _)
   | (with_reducible exact bodkinref05_has.mono _ _ _)
   | (with_reducible exact LeO.refl _)
   | (with_reducible exact LeO.none _)
   | (with_reducible refine LeO.ite ?_ ?_)
   | (with_reducible refine LeO.bind ?_ (fun _ => ?_))
   | exact ih0 _ _ _ _ _ _ _
   | exact ih1 _ _ _ _ _ _ _
   | exact ih2 _ _ _ _ _ _ _ _
   | exact ih3 _ _
   | exact bodkinref05_Of.mono _ _
   | exact bodkinref05_has.mono _ _ _
   | exact LeO.none _
   | refine LeO.ite ?_ ?_
   | refine LeO.bind ?_ (fun _ => ?_)
  ·intro y0 y1
   unfold bodkinref05_Bytes.j3
   repeat' first
   | (with_reducible exact ih0 _ _ _ _ _ _ _)
   | (with_reducible exact ih1 _ _ _ _ _ _ _)
   | (with_reducible exact ih2 _ _ _ _ _ _ _ _)
   | (with_reducible exact ih3 _ _)
   | (with_reducible exact bodkinref05_Of.mono _ _)
   | (with_reducible exact bodkinref05_has.mono _ _ _)
   | (with_reducible exact LeO.refl _)
   | (with_reducible exact LeO.none _)
   | (with_reducible refine LeO.ite ?_ ?_)
   | (with_reducible refine LeO.bind ?_ (fun _ => ?_))
   | exact ih0 _ _ _ _ _ _ _
   | exact ih1 _ _ _ _ _ _ _
   | exact ih2 _ _ _ _ _ _ _ _
   | exact ih3 _ _
   | exact bodkinref05_Of.mono _ _
   | exact bodkinref05_has.mono _ _ _
   | exact LeO.none _
   | refine LeO.ite ?_ ?_
   | refine LeO.bind ?_ (fun _ => ?_)
theorem bodkinref05_Bytes.mono : ∀ a0 k, LeO (bodkinref05_Bytes.f k a0) (bodkinref05_Bytes.f (k + 1) a0) := by
 intro a0 k
 obtain ⟨ih0, ih1, ih2, ih3⟩ := bodkinref05_Bytes.mono_l k
 unfold bodkinref05_Bytes.f
 repeat' first
   | (with_reducible exact ih0 _ _ _ _ _ _ _)
   | (with_reducible exact ih1 _ _ _ _ _ _ _)
   | (with_reducible exact ih2 _ _ _ _ _ _ _ _)
   | (with_reducible exact ih3 _ _)
   | (with_reducible exact bodkinref05_Of.mono _ _)
   | (with_reducible exact bodkinref05_has.mono _ _ _)
   | (with_reducible exact LeO.refl _)
   | (with_reducible exact LeO.none _)
   | (with_reducible refine LeO.ite ?_ ?_)
   | (with_reducible refine LeO.bind ?_ (fun _ => ?_))
   | exact ih0 _ _ _ _ _ _ _
   | exact ih1 _ _ _ _ _ _ _
   | exact ih2 _ _ _ _ _ _ _ _
   | exact ih3 _ _
   | exact bodkinref05_Of.mono _ _
   | exact bodkinref05_has.mono _ _ _
   | exact LeO.none _
   | refine LeO.ite ?_ ?_
   | refine LeO.bind ?_ (fun _ => ?_)
set_option maxHeartbeats 8000000 in
set_option maxRecDepth 100000 in
theorem bodkinref05_Bytes.calls (k : Nat) (a0 : Int) (r : Int) (w : World) (h : bodkinref05_Bytes.f k a0 = some r) (hG : GG w) :
  Calls Tryd.prog 37 #[.int .i64 a0] w fun e w' => e = .returned (.int .i64 r) ∧ Below w.heap.size w w' := by
 have hu24 := Tryd.underlying24
 have HB := Aside0.mk (Below.refl w.heap.size w)
 have H : ((bodkinref05_Of.f k a0).bind fun bt219 => (if bt219.1 < 0 then (bodkinref05_Bytes.j0 k true bt219.1 bt219.2.1 bt219.2.2.1 bt219.2.2.2.1 bt219.2.2.2.2.1 bt219.2.2.2.2.2) else (if bt219.2.2.1 = 10 then (bodkinref05_Bytes.j0 k false bt219.1 bt219.2.1 bt219.2.2.1 bt219.2.2.2.1 bt219.2.2.2.2.1 bt219.2.2.2.2.2) else (bodkinref05_Bytes.j0 k (bt219.2.2.1 != 26) bt219.1 bt219.2.1 bt219.2.2.1 bt219.2.2.2.1 bt219.2.2.2.2.1 bt219.2.2.2.2.2)))) = some r := h
 clear h
 replace H := Option.bind_eq_some_iff.mp H
 obtain ⟨⟨t219, t220, t221, t222, t223, t224⟩, A20, H⟩ := H
 replace H : (if t219 < 0 then (bodkinref05_Bytes.j0 k true t219 t220 t221 t222 t223 t224) else (if t221 = 10 then (bodkinref05_Bytes.j0 k false t219 t220 t221 t222 t223 t224) else (bodkinref05_Bytes.j0 k (t221 != 26) t219 t220 t221 t222 t223 t224))) = some r := H
 have A2 := Aside0.mk A20
 clear A20
 have HC3 := Aside0.mk H
 clear H
 go_enter Tryd.func37, Tryd.ntmps37
 go_upto_region 2 with (first | (go_at_call 9; (with_reducible refine (bodkinref05_Of.calls k a0 t219 t220 t221 t222 t223 t224 _ A2.out (by repeat first | exact hG | refine GG.below hG ?_ | exact HB.out | exact Below.refl _ _ | assumption | apply below_alloc | apply pw_below_drewN | apply below_drew1 | refine below_set ?_ (Aside0.out (by assumption)))).mono ?_); rintro e w4 ⟨rfl, hb⟩; have n0_ := Aside0.mk (below_step (by repeat (first | (with_reducible first | exact HB.out | apply below_alloc | apply pw_below_drewN | apply below_drew1) | exact HB.out)) hb); clear HB; have HB := n0_; clear n0_; (try clear hb); (try clear hb2); (try clear hk); (try clear hi)) | ((with_reducible refine gate_dst (N := 3) rfl ?_); refine box_event ?hg (N := 3) ?hd (cs := #[.int .i64 0, .string (⟨#[]⟩ : ByteArray), .int .i64 0, .string (⟨#[]⟩ : ByteArray), .string (⟨#[]⟩ : ByteArray), .bool false]) (t := 24) ?hr ?_; (case hd => rfl); (case hg => rfl); (case hr => first | (go_simp; done) | (go_simp; rfl)); intro gb225 hg w5 hbox hb; have n0_ := Aside0.mk (below_step (by repeat (first | (with_reducible first | exact HB.out | apply below_alloc | apply pw_below_drewN | apply below_drew1) | exact HB.out)) hb); have n1_ := Aside0.mk (hbox); have n2_ := Aside0.mk ((by rw [hg]; exact (below_size (by repeat (first | (with_reducible first | exact HB.out | apply below_alloc | apply pw_below_drewN | apply below_drew1) | exact HB.out))) : w.heap.size ≤ gb225)); have n3_ := Aside0.mk ((by rw [hg]; exact (below_size (by repeat (first | (with_reducible first | exact HB.out | apply below_alloc | apply pw_below_drewN | apply below_drew1) | exact HB.out))) : w.heap.size ≤ gb225)); clear HB; have HB := n0_; have BK225 := n1_; have GW225 := n2_; have GE225 := n3_; clear n0_ n1_ n2_ n3_; clear hb hbox hg; have hcz6_0 : w5.cell? ⟨gb225, 0, none⟩ = some (.int .i64 0) := (blk_cell BK225.out 0).trans rfl; have hcz6_1 : w5.cell? ⟨gb225, 1, none⟩ = some (.string (⟨#[]⟩ : ByteArray)) := (blk_cell BK225.out 1).trans rfl; have hcz6_2 : w5.cell? ⟨gb225, 2, none⟩ = some (.int .i64 0) := (blk_cell BK225.out 2).trans rfl; have hcz6_3 : w5.cell? ⟨gb225, 3, none⟩ = some (.string (⟨#[]⟩ : ByteArray)) := (blk_cell BK225.out 3).trans rfl; have hcz6_4 : w5.cell? ⟨gb225, 4, none⟩ = some (.string (⟨#[]⟩ : ByteArray)) := (blk_cell BK225.out 4).trans rfl; have hcz6_5 : w5.cell? ⟨gb225, 5, none⟩ = some (.bool false) := (blk_cell BK225.out 5).trans rfl; have hfz6_0 := blk_frozen BK225.out 0; have hfz6_1 := blk_frozen BK225.out 1; have hfz6_2 := blk_frozen BK225.out 2; have hfz6_3 := blk_frozen BK225.out 3; have hfz6_4 := blk_frozen BK225.out 4; have hfz6_5 := blk_frozen BK225.out 5))
 repeat (go_quiet (first | (go_at_call 9; (with_reducible refine (bodkinref05_Of.calls k a0 t219 t220 t221 t222 t223 t224 _ A2.out (by repeat first | exact hG | refine GG.below hG ?_ | exact HB.out | exact Below.refl _ _ | assumption | apply below_alloc | apply pw_below_drewN | apply below_drew1 | refine below_set ?_ (Aside0.out (by assumption)))).mono ?_); rintro e w4 ⟨rfl, hb⟩; have n0_ := Aside0.mk (below_step (by repeat (first | (with_reducible first | exact HB.out | apply below_alloc | apply pw_below_drewN | apply below_drew1) | exact HB.out)) hb); clear HB; have HB := n0_; clear n0_; (try clear hb); (try clear hb2); (try clear hk); (try clear hi)) | ((with_reducible refine gate_dst (N := 3) rfl ?_); refine box_event ?hg (N := 3) ?hd (cs := #[.int .i64 0, .string (⟨#[]⟩ : ByteArray), .int .i64 0, .string (⟨#[]⟩ : ByteArray), .string (⟨#[]⟩ : ByteArray), .bool false]) (t := 24) ?hr ?_; (case hd => rfl); (case hg => rfl); (case hr => first | (go_simp; done) | (go_simp; rfl)); intro gb225 hg w5 hbox hb; have n0_ := Aside0.mk (below_step (by repeat (first | (with_reducible first | exact HB.out | apply below_alloc | apply pw_below_drewN | apply below_drew1) | exact HB.out)) hb); have n1_ := Aside0.mk (hbox); have n2_ := Aside0.mk ((by rw [hg]; exact (below_size (by repeat (first | (with_reducible first | exact HB.out | apply below_alloc | apply pw_below_drewN | apply below_drew1) | exact HB.out))) : w.heap.size ≤ gb225)); have n3_ := Aside0.mk ((by rw [hg]; exact (below_size (by repeat (first | (with_reducible first | exact HB.out | apply below_alloc | apply pw_below_drewN | apply below_drew1) | exact HB.out))) : w.heap.size ≤ gb225)); clear HB; have HB := n0_; have BK225 := n1_; have GW225 := n2_; have GE225 := n3_; clear n0_ n1_ n2_ n3_; clear hb hbox hg; have hcz6_0 : w5.cell? ⟨gb225, 0, none⟩ = some (.int .i64 0) := (blk_cell BK225.out 0).trans rfl; have hcz6_1 : w5.cell? ⟨gb225, 1, none⟩ = some (.string (⟨#[]⟩ : ByteArray)) := (blk_cell BK225.out 1).trans rfl; have hcz6_2 : w5.cell? ⟨gb225, 2, none⟩ = some (.int .i64 0) := (blk_cell BK225.out 2).trans rfl; have hcz6_3 : w5.cell? ⟨gb225, 3, none⟩ = some (.string (⟨#[]⟩ : ByteArray)) := (blk_cell BK225.out 3).trans rfl; have hcz6_4 : w5.cell? ⟨gb225, 4, none⟩ = some (.string (⟨#[]⟩ : ByteArray)) := (blk_cell BK225.out 4).trans rfl; have hcz6_5 : w5.cell? ⟨gb225, 5, none⟩ = some (.bool false) := (blk_cell BK225.out 5).trans rfl; have hfz6_0 := blk_frozen BK225.out 0; have hfz6_1 := blk_frozen BK225.out 1; have hfz6_2 := blk_frozen BK225.out 2; have hfz6_3 := blk_frozen BK225.out 3; have hfz6_4 := blk_frozen BK225.out 4; have hfz6_5 := blk_frozen BK225.out 5)); go_upto_region 2 with (first | (go_at_call 9; (with_reducible refine (bodkinref05_Of.calls k a0 t219 t220 t221 t222 t223 t224 _ A2.out (by repeat first | exact hG | refine GG.below hG ?_ | exact HB.out | exact Below.refl _ _ | assumption | apply below_alloc | apply pw_below_drewN | apply below_drew1 | refine below_set ?_ (Aside0.out (by assumption)))).mono ?_); rintro e w4 ⟨rfl, hb⟩; have n0_ := Aside0.mk (below_step (by repeat (first | (with_reducible first | exact HB.out | apply below_alloc | apply pw_below_drewN | apply below_drew1) | exact HB.out)) hb); clear HB; have HB := n0_; clear n0_; (try clear hb); (try clear hb2); (try clear hk); (try clear hi)) | ((with_reducible refine gate_dst (N := 3) rfl ?_); refine box_event ?hg (N := 3) ?hd (cs := #[.int .i64 0, .string (⟨#[]⟩ : ByteArray), .int .i64 0, .string (⟨#[]⟩ : ByteArray), .string (⟨#[]⟩ : ByteArray), .bool false]) (t := 24) ?hr ?_; (case hd => rfl); (case hg => rfl); (case hr => first | (go_simp; done) | (go_simp; rfl)); intro gb225 hg w5 hbox hb; have n0_ := Aside0.mk (below_step (by repeat (first | (with_reducible first | exact HB.out | apply below_alloc | apply pw_below_drewN | apply below_drew1) | exact HB.out)) hb); have n1_ := Aside0.mk (hbox); have n2_ := Aside0.mk ((by rw [hg]; exact (below_size (by repeat (first | (with_reducible first | exact HB.out | apply below_alloc | apply pw_below_drewN | apply below_drew1) | exact HB.out))) : w.heap.size ≤ gb225)); have n3_ := Aside0.mk ((by rw [hg]; exact (below_size (by repeat (first | (with_reducible first | exact HB.out | apply below_alloc | apply pw_below_drewN | apply below_drew1) | exact HB.out))) : w.heap.size ≤ gb225)); clear HB; have HB := n0_; have BK225 := n1_; have GW225 := n2_; have GE225 := n3_; clear n0_ n1_ n2_ n3_; clear hb hbox hg; have hcz6_0 : w5.cell? ⟨gb225, 0, none⟩ = some (.int .i64 0) := (blk_cell BK225.out 0).trans rfl; have hcz6_1 : w5.cell? ⟨gb225, 1, none⟩ = some (.string (⟨#[]⟩ : ByteArray)) := (blk_cell BK225.out 1).trans rfl; have hcz6_2 : w5.cell? ⟨gb225, 2, none⟩ = some (.int .i64 0) := (blk_cell BK225.out 2).trans rfl; have hcz6_3 : w5.cell? ⟨gb225, 3, none⟩ = some (.string (⟨#[]⟩ : ByteArray)) := (blk_cell BK225.out 3).trans rfl; have hcz6_4 : w5.cell? ⟨gb225, 4, none⟩ = some (.string (⟨#[]⟩ : ByteArray)) := (blk_cell BK225.out 4).trans rfl; have hcz6_5 : w5.cell? ⟨gb225, 5, none⟩ = some (.bool false) := (blk_cell BK225.out 5).trans rfl; have hfz6_0 := blk_frozen BK225.out 0; have hfz6_1 := blk_frozen BK225.out 1; have hfz6_2 := blk_frozen BK225.out 2; have hfz6_3 := blk_frozen BK225.out 3; have hfz6_4 := blk_frozen BK225.out 4; have hfz6_5 := blk_frozen BK225.out 5)))
 (try simp only [Act.put, List.setIfInBounds_toArray, List.set_cons_zero, List.set_cons_succ])
 go_cut [20] (fun v20 wc => ∃ (kq : Nat) (x20_2 : Bool), v20 = .bool x20_2 ∧ Aside0 (bodkinref05_Bytes.j0 kq x20_2 t219 t220 t221 t222 t223 t224 = some r) ∧ Aside0 (kq ≤ k) ∧ Aside0 (wc.heap[gb225]? = some (.cells #[.int .i64 t219, .string t220, .int .i64 t221, .string t222, .string t223, .bool t224] 24 (0, 0))) ∧ Aside0 (Below w.heap.size w wc))
 case first =>
  have H := HC3.out
  clear HC3
  by_cases c7 : t219 < 0
  ·rw [if_pos c7] at H
   have c7b0 : decide (t219 < 0) = true := decide_eq_true c7
   clear c7
   (first | rw [c7b0] | (simp only [i64_w, i32_w]; rw [c7b0]) | skip)
   have H' := Aside0.mk H
   clear H
   have hcz8_0 : w5.cell? ⟨gb225, 0, none⟩ = some (.int .i64 0) := (blk_cell BK225.out 0).trans rfl
   have hcz8_1 : w5.cell? ⟨gb225, 1, none⟩ = some (.string (⟨#[]⟩ : ByteArray)) := (blk_cell BK225.out 1).trans rfl
   have hcz8_2 : w5.cell? ⟨gb225, 2, none⟩ = some (.int .i64 0) := (blk_cell BK225.out 2).trans rfl
   have hcz8_3 : w5.cell? ⟨gb225, 3, none⟩ = some (.string (⟨#[]⟩ : ByteArray)) := (blk_cell BK225.out 3).trans rfl
   have hcz8_4 : w5.cell? ⟨gb225, 4, none⟩ = some (.string (⟨#[]⟩ : ByteArray)) := (blk_cell BK225.out 4).trans rfl
   have hcz8_5 : w5.cell? ⟨gb225, 5, none⟩ = some (.bool false) := (blk_cell BK225.out 5).trans rfl
   have hfz8_0 := blk_frozen BK225.out 0
   have hfz8_1 := blk_frozen BK225.out 1
   have hfz8_2 := blk_frozen BK225.out 2
   have hfz8_3 := blk_frozen BK225.out 3
   have hfz8_4 := blk_frozen BK225.out 4
   have hfz8_5 := blk_frozen BK225.out 5
   go_wp2
   repeat (go_quiet (fail); try go_wp2)
   go_meet
   case rel => exact ⟨_, (true), (by first | rfl | (simp; done) | (simp [*]; done)), H', ⟨by first | omega | exact Nat.le_refl _⟩, ⟨by (with_reducible repeat (first | refine blk_drewN ?_ _ | refine blk_drew ?_ | refine blk_alloc ?_ _)); refine blk_put (cs := #[.int .i64 t219, .string t220, .int .i64 t221, .string t222, .string t223, .bool false]) ?_ 5 _ rfl; (with_reducible repeat (first | refine blk_drewN ?_ _ | refine blk_drew ?_ | refine blk_alloc ?_ _)); refine blk_put (cs := #[.int .i64 t219, .string t220, .int .i64 t221, .string t222, .string (⟨#[]⟩ : ByteArray), .bool false]) ?_ 4 _ rfl; (with_reducible repeat (first | refine blk_drewN ?_ _ | refine blk_drew ?_ | refine blk_alloc ?_ _)); refine blk_put (cs := #[.int .i64 t219, .string t220, .int .i64 t221, .string (⟨#[]⟩ : ByteArray), .string (⟨#[]⟩ : ByteArray), .bool false]) ?_ 3 _ rfl; (with_reducible repeat (first | refine blk_drewN ?_ _ | refine blk_drew ?_ | refine blk_alloc ?_ _)); refine blk_put (cs := #[.int .i64 t219, .string t220, .int .i64 0, .string (⟨#[]⟩ : ByteArray), .string (⟨#[]⟩ : ByteArray), .bool false]) ?_ 2 _ rfl; (with_reducible repeat (first | refine blk_drewN ?_ _ | refine blk_drew ?_ | refine blk_alloc ?_ _)); refine blk_put (cs := #[.int .i64 t219, .string (⟨#[]⟩ : ByteArray), .int .i64 0, .string (⟨#[]⟩ : ByteArray), .string (⟨#[]⟩ : ByteArray), .bool false]) ?_ 1 _ rfl; (with_reducible repeat (first | refine blk_drewN ?_ _ | refine blk_drew ?_ | refine blk_alloc ?_ _)); refine blk_put (cs := #[.int .i64 0, .string (⟨#[]⟩ : ByteArray), .int .i64 0, .string (⟨#[]⟩ : ByteArray), .string (⟨#[]⟩ : ByteArray), .bool false]) ?_ 0 _ rfl; (with_reducible repeat (first | refine blk_drewN ?_ _ | refine blk_drew ?_ | refine blk_alloc ?_ _)); exact BK225.out⟩, ⟨by repeat (first | (with_reducible first | exact HB.out | apply below_alloc | apply pw_below_drewN | apply below_drew1 | refine below_set ?_ GE225.out) | exact HB.out)⟩⟩
  ·rw [if_neg c7] at H
   have c7b0 : decide (t219 < 0) = false := decide_eq_false c7
   clear c7
   (first | rw [c7b0] | (simp only [i64_w, i32_w]; rw [c7b0]) | skip)
   by_cases c9 : t221 = 10
   ·rw [if_pos c9] at H
    have c9b0 : (t221 == 10) = true := beq_iff_eq.mpr c9
    have c9b1 : (t221 != 10) = false := bne_eq_false_iff_eq.mpr c9
    clear c9
    have H' := Aside0.mk H
    clear H
    have hcz10_0 : w5.cell? ⟨gb225, 0, none⟩ = some (.int .i64 0) := (blk_cell BK225.out 0).trans rfl
    have hcz10_1 : w5.cell? ⟨gb225, 1, none⟩ = some (.string (⟨#[]⟩ : ByteArray)) := (blk_cell BK225.out 1).trans rfl
    have hcz10_2 : w5.cell? ⟨gb225, 2, none⟩ = some (.int .i64 0) := (blk_cell BK225.out 2).trans rfl
    have hcz10_3 : w5.cell? ⟨gb225, 3, none⟩ = some (.string (⟨#[]⟩ : ByteArray)) := (blk_cell BK225.out 3).trans rfl
    have hcz10_4 : w5.cell? ⟨gb225, 4, none⟩ = some (.string (⟨#[]⟩ : ByteArray)) := (blk_cell BK225.out 4).trans rfl
    have hcz10_5 : w5.cell? ⟨gb225, 5, none⟩ = some (.bool false) := (blk_cell BK225.out 5).trans rfl
    have hfz10_0 := blk_frozen BK225.out 0
    have hfz10_1 := blk_frozen BK225.out 1
    have hfz10_2 := blk_frozen BK225.out 2
    have hfz10_3 := blk_frozen BK225.out 3
    have hfz10_4 := blk_frozen BK225.out 4
    have hfz10_5 := blk_frozen BK225.out 5
    go_wp2
    repeat (go_quiet (fail); try go_wp2)
    go_meet
    case rel => exact ⟨_, (false), (by first | rfl | (simp; done) | (simp [*]; done)), H', ⟨by first | omega | exact Nat.le_refl _⟩, ⟨by (with_reducible repeat (first | refine blk_drewN ?_ _ | refine blk_drew ?_ | refine blk_alloc ?_ _)); refine blk_put (cs := #[.int .i64 t219, .string t220, .int .i64 t221, .string t222, .string t223, .bool false]) ?_ 5 _ rfl; (with_reducible repeat (first | refine blk_drewN ?_ _ | refine blk_drew ?_ | refine blk_alloc ?_ _)); refine blk_put (cs := #[.int .i64 t219, .string t220, .int .i64 t221, .string t222, .string (⟨#[]⟩ : ByteArray), .bool false]) ?_ 4 _ rfl; (with_reducible repeat (first | refine blk_drewN ?_ _ | refine blk_drew ?_ | refine blk_alloc ?_ _)); refine blk_put (cs := #[.int .i64 t219, .string t220, .int .i64 t221, .string (⟨#[]⟩ : ByteArray), .string (⟨#[]⟩ : ByteArray), .bool false]) ?_ 3 _ rfl; (with_reducible repeat (first | refine blk_drewN ?_ _ | refine blk_drew ?_ | refine blk_alloc ?_ _)); refine blk_put (cs := #[.int .i64 t219, .string t220, .int .i64 0, .string (⟨#[]⟩ : ByteArray), .string (⟨#[]⟩ : ByteArray), .bool false]) ?_ 2 _ rfl; (with_reducible repeat (first | refine blk_drewN ?_ _ | refine blk_drew ?_ | refine blk_alloc ?_ _)); refine blk_put (cs := #[.int .i64 t219, .string (⟨#[]⟩ : ByteArray), .int .i64 0, .string (⟨#[]⟩ : ByteArray), .string (⟨#[]⟩ : ByteArray), .bool false]) ?_ 1 _ rfl; (with_reducible repeat (first | refine blk_drewN ?_ _ | refine blk_drew ?_ | refine blk_alloc ?_ _)); refine blk_put (cs := #[.int .i64 0, .string (⟨#[]⟩ : ByteArray), .int .i64 0, .string (⟨#[]⟩ : ByteArray), .string (⟨#[]⟩ : ByteArray), .bool false]) ?_ 0 _ rfl; (with_reducible repeat (first | refine blk_drewN ?_ _ | refine blk_drew ?_ | refine blk_alloc ?_ _)); exact BK225.out⟩, ⟨by repeat (first | (with_reducible first | exact HB.out | apply below_alloc | apply pw_below_drewN | apply below_drew1 | refine below_set ?_ GE225.out) | exact HB.out)⟩⟩
   ·rw [if_neg c9] at H
    have c9b0 : (t221 == 10) = false := beq_eq_false_iff_ne.mpr c9
    have c9b1 : (t221 != 10) = true := bne_iff_ne.mpr c9
    have H' := Aside0.mk H
    clear H
    have hcz11_0 : w5.cell? ⟨gb225, 0, none⟩ = some (.int .i64 0) := (blk_cell BK225.out 0).trans rfl
    have hcz11_1 : w5.cell? ⟨gb225, 1, none⟩ = some (.string (⟨#[]⟩ : ByteArray)) := (blk_cell BK225.out 1).trans rfl
    have hcz11_2 : w5.cell? ⟨gb225, 2, none⟩ = some (.int .i64 0) := (blk_cell BK225.out 2).trans rfl
    have hcz11_3 : w5.cell? ⟨gb225, 3, none⟩ = some (.string (⟨#[]⟩ : ByteArray)) := (blk_cell BK225.out 3).trans rfl
    have hcz11_4 : w5.cell? ⟨gb225, 4, none⟩ = some (.string (⟨#[]⟩ : ByteArray)) := (blk_cell BK225.out 4).trans rfl
    have hcz11_5 : w5.cell? ⟨gb225, 5, none⟩ = some (.bool false) := (blk_cell BK225.out 5).trans rfl
    have hfz11_0 := blk_frozen BK225.out 0
    have hfz11_1 := blk_frozen BK225.out 1
    have hfz11_2 := blk_frozen BK225.out 2
    have hfz11_3 := blk_frozen BK225.out 3
    have hfz11_4 := blk_frozen BK225.out 4
    have hfz11_5 := blk_frozen BK225.out 5
    go_wp2
    repeat (go_quiet (fail); try go_wp2)
    go_meet
    case rel => exact ⟨_, ((t221 != 26)), (by first | rfl | (simp; done) | (simp [*]; done)), H', ⟨by first | omega | exact Nat.le_refl _⟩, ⟨by (with_reducible repeat (first | refine blk_drewN ?_ _ | refine blk_drew ?_ | refine blk_alloc ?_ _)); refine blk_put (cs := #[.int .i64 t219, .string t220, .int .i64 t221, .string t222, .string t223, .bool false]) ?_ 5 _ rfl; (with_reducible repeat (first | refine blk_drewN ?_ _ | refine blk_drew ?_ | refine blk_alloc ?_ _)); refine blk_put (cs := #[.int .i64 t219, .string t220, .int .i64 t221, .string t222, .string (⟨#[]⟩ : ByteArray), .bool false]) ?_ 4 _ rfl; (with_reducible repeat (first | refine blk_drewN ?_ _ | refine blk_drew ?_ | refine blk_alloc ?_ _)); refine blk_put (cs := #[.int .i64 t219, .string t220, .int .i64 t221, .string (⟨#[]⟩ : ByteArray), .string (⟨#[]⟩ : ByteArray), .bool false]) ?_ 3 _ rfl; (with_reducible repeat (first | refine blk_drewN ?_ _ | refine blk_drew ?_ | refine blk_alloc ?_ _)); refine blk_put (cs := #[.int .i64 t219, .string t220, .int .i64 0, .string (⟨#[]⟩ : ByteArray), .string (⟨#[]⟩ : ByteArray), .bool false]) ?_ 2 _ rfl; (with_reducible repeat (first | refine blk_drewN ?_ _ | refine blk_drew ?_ | refine blk_alloc ?_ _)); refine blk_put (cs := #[.int .i64 t219, .string (⟨#[]⟩ : ByteArray), .int .i64 0, .string (⟨#[]⟩ : ByteArray), .string (⟨#[]⟩ : ByteArray), .bool false]) ?_ 1 _ rfl; (with_reducible repeat (first | refine blk_drewN ?_ _ | refine blk_drew ?_ | refine blk_alloc ?_ _)); refine blk_put (cs := #[.int .i64 0, .string (⟨#[]⟩ : ByteArray), .int .i64 0, .string (⟨#[]⟩ : ByteArray), .string (⟨#[]⟩ : ByteArray), .bool false]) ?_ 0 _ rfl; (with_reducible repeat (first | refine blk_drewN ?_ _ | refine blk_drew ?_ | refine blk_alloc ?_ _)); exact BK225.out⟩, ⟨by repeat (first | (with_reducible first | exact HB.out | apply below_alloc | apply pw_below_drewN | apply below_drew1 | refine below_set ?_ GE225.out) | exact HB.out)⟩⟩
 case rest =>
  clear HC3
  try clear p2
  try clear c3
  try clear c7
  try clear c7b0
  try clear c9
  try clear c9b0
  try clear c9b1
  try clear hcz10_0
  try clear hcz10_1
  try clear hcz10_2
  try clear hcz10_3
  try clear hcz10_4
  try clear hcz10_5
  try clear hcz11_0
  try clear hcz11_1
  try clear hcz11_2
  try clear hcz11_3
  try clear hcz11_4
  try clear hcz11_5
  try clear hcz6_0
  try clear hcz6_1
  try clear hcz6_2
  try clear hcz6_3
  try clear hcz6_4
  try clear hcz6_5
  try clear hcz8_0
  try clear hcz8_1
  try clear hcz8_2
  try clear hcz8_3
  try clear hcz8_4
  try clear hcz8_5
  try clear hfz10_0
  try clear hfz10_1
  try clear hfz10_2
  try clear hfz10_3
  try clear hfz10_4
  try clear hfz10_5
  try clear hfz11_0
  try clear hfz11_1
  try clear hfz11_2
  try clear hfz11_3
  try clear hfz11_4
  try clear hfz11_5
  try clear hfz6_0
  try clear hfz6_1
  try clear hfz6_2
  try clear hfz6_3
  try clear hfz6_4
  try clear hfz6_5
  try clear hfz8_0
  try clear hfz8_1
  try clear hfz8_2
  try clear hfz8_3
  try clear hfz8_4
  try clear hfz8_5
  obtain ⟨kq, x20_2, rfl, HA, HJ2, BK225, HB⟩ := hcut
  cases kq with
  | zero => exact absurd HA.out (by simp [bodkinref05_Bytes.j0])
  | succ kj2 =>
   have H := HA.out
   clear HA
   simp only [bodkinref05_Bytes.j0] at H
   by_cases c12 : x20_2 = true
   ·subst c12
    have H1 : (some 0) = some r := by rw [if_pos rfl] at H; exact H
    clear H
    have H := H1
    clear H1
    obtain rfl := Option.some.inj H
    go_wp2
    repeat (go_quiet (fail); try go_wp2)
    go_ret
    exact ⟨by first | rfl | (simp [errW_none, errW_some] <;> rfl) | (simp [*, errW_none, errW_some] <;> rfl) | (rw [Int.tdiv_eq_ediv_of_nonneg] <;> first | rfl | decide) | (simp [errW_none, errW_some] <;> exact isEmpty_bne _), by repeat (first | (with_reducible first | exact HB.out | apply below_alloc | apply pw_below_drewN | apply below_drew1 | refine below_set ?_ GE225.out) | exact HB.out)⟩
   ·replace c12 := Bool.eq_false_iff.mpr c12
    subst c12
    have H1 : ((bodkinref05_has.f kj2 t220 (⟨#[56, 120, 56]⟩ : ByteArray)).bind fun t226 => (if t226 = true then (bodkinref05_Bytes.j1 kj2 true t219 t220 t221 t222 t223 t224) else ((bodkinref05_has.f kj2 t220 (⟨#[49, 54, 120, 52]⟩ : ByteArray)).bind fun t227 => (if t227 = true then (bodkinref05_Bytes.j1 kj2 true t219 t220 t221 t222 t223 t224) else ((bodkinref05_has.f kj2 t220 (⟨#[51, 50, 120, 50]⟩ : ByteArray)).bind fun t228 => (bodkinref05_Bytes.j1 kj2 t228 t219 t220 t221 t222 t223 t224)))))) = some r := by rw [if_neg (show ¬ (false = true) by decide)] at H; exact H
    clear H
    have H := H1
    clear H1
    have HC13 := Aside0.mk H
    clear H
    go_upto_region 4 with (fail)
    repeat (go_quiet (fail); go_upto_region 4 with (fail))
    go_cut [33] (fun v33 wc => ∃ (kq : Nat) (x33_12 : Bool), v33 = .bool x33_12 ∧ Aside0 (bodkinref05_Bytes.j1 kq x33_12 t219 t220 t221 t222 t223 t224 = some r) ∧ Aside0 (kq ≤ kj2) ∧ Aside0 (wc.heap[gb225]? = some (.cells #[.int .i64 t219, .string t220, .int .i64 t221, .string t222, .string t223, .bool t224] 24 (0, 0))) ∧ Aside0 (Below w.heap.size w wc))
    case first =>
     have H := HC13.out
     clear HC13
     replace H := Option.bind_eq_some_iff.mp H
     obtain ⟨t226, A140, H⟩ := H
     replace H : (if t226 = true then (bodkinref05_Bytes.j1 kj2 true t219 t220 t221 t222 t223 t224) else ((bodkinref05_has.f kj2 t220 (⟨#[49, 54, 120, 52]⟩ : ByteArray)).bind fun t227 => (if t227 = true then (bodkinref05_Bytes.j1 kj2 true t219 t220 t221 t222 t223 t224) else ((bodkinref05_has.f kj2 t220 (⟨#[51, 50, 120, 50]⟩ : ByteArray)).bind fun t228 => (bodkinref05_Bytes.j1 kj2 t228 t219 t220 t221 t222 t223 t224))))) = some r := H
     have A14 := Aside0.mk A140
     clear A140
     by_cases c15 : t226 = true
     ·subst c15
      have H1 : (bodkinref05_Bytes.j1 kj2 true t219 t220 t221 t222 t223 t224) = some r := by rw [if_pos rfl] at H; exact H
      clear H
      have H := H1
      clear H1
      have H' := Aside0.mk H
      clear H
      have hcz16_0 : wc.cell? ⟨gb225, 0, none⟩ = some (.int .i64 t219) := (blk_cell BK225.out 0).trans rfl
      have hcz16_1 : wc.cell? ⟨gb225, 1, none⟩ = some (.string t220) := (blk_cell BK225.out 1).trans rfl
      have hcz16_2 : wc.cell? ⟨gb225, 2, none⟩ = some (.int .i64 t221) := (blk_cell BK225.out 2).trans rfl
      have hcz16_3 : wc.cell? ⟨gb225, 3, none⟩ = some (.string t222) := (blk_cell BK225.out 3).trans rfl
      have hcz16_4 : wc.cell? ⟨gb225, 4, none⟩ = some (.string t223) := (blk_cell BK225.out 4).trans rfl
      have hcz16_5 : wc.cell? ⟨gb225, 5, none⟩ = some (.bool t224) := (blk_cell BK225.out 5).trans rfl
      have hfz16_0 := blk_frozen BK225.out 0
      have hfz16_1 := blk_frozen BK225.out 1
      have hfz16_2 := blk_frozen BK225.out 2
      have hfz16_3 := blk_frozen BK225.out 3
      have hfz16_4 := blk_frozen BK225.out 4
      have hfz16_5 := blk_frozen BK225.out 5
      go_wp2_with (first | (go_at_call 38; (with_reducible refine (bodkinref05_has.calls kj2 t220 (⟨#[56, 120, 56]⟩ : ByteArray) true _ A14.out (by repeat first | exact hG | refine GG.below hG ?_ | exact HB.out | exact Below.refl _ _ | assumption | apply below_alloc | apply pw_below_drewN | apply below_drew1 | refine below_set ?_ (Aside0.out (by assumption)))).mono ?_); rintro e w' ⟨rfl, ⟨nd, rfl⟩⟩; (try first | exact ⟨rfl, _, World.drewN_drewN _ _ _⟩ | exact ⟨rfl, _, Eq.trans (World.drewN_drewN _ _ _) (congrArg (World.drewN _) (Nat.add_assoc _ _ _))⟩)))
      repeat (go_quiet (first | (go_at_call 38; (with_reducible refine (bodkinref05_has.calls kj2 t220 (⟨#[56, 120, 56]⟩ : ByteArray) true _ A14.out (by repeat first | exact hG | refine GG.below hG ?_ | exact HB.out | exact Below.refl _ _ | assumption | apply below_alloc | apply pw_below_drewN | apply below_drew1 | refine below_set ?_ (Aside0.out (by assumption)))).mono ?_); rintro e w' ⟨rfl, ⟨nd, rfl⟩⟩; (try first | exact ⟨rfl, _, World.drewN_drewN _ _ _⟩ | exact ⟨rfl, _, Eq.trans (World.drewN_drewN _ _ _) (congrArg (World.drewN _) (Nat.add_assoc _ _ _))⟩))); try go_wp2_with (first | (go_at_call 38; (with_reducible refine (bodkinref05_has.calls kj2 t220 (⟨#[56, 120, 56]⟩ : ByteArray) true _ A14.out (by repeat first | exact hG | refine GG.below hG ?_ | exact HB.out | exact Below.refl _ _ | assumption | apply below_alloc | apply pw_below_drewN | apply below_drew1 | refine below_set ?_ (Aside0.out (by assumption)))).mono ?_); rintro e w' ⟨rfl, ⟨nd, rfl⟩⟩; (try first | exact ⟨rfl, _, World.drewN_drewN _ _ _⟩ | exact ⟨rfl, _, Eq.trans (World.drewN_drewN _ _ _) (congrArg (World.drewN _) (Nat.add_assoc _ _ _))⟩))))
      go_meet
      case rel => exact ⟨_, (true), (by first | rfl | (simp; done) | (simp [*]; done)), H', ⟨by have := HJ2.out; first | omega | exact Nat.le_refl _⟩, ⟨by (with_reducible repeat (first | refine blk_drewN ?_ _ | refine blk_drew ?_ | refine blk_alloc ?_ _)); exact BK225.out⟩, ⟨by repeat (first | (with_reducible first | exact HB.out | apply below_alloc | apply pw_below_drewN | apply below_drew1 | refine below_set ?_ GE225.out) | exact HB.out)⟩⟩
     ·replace c15 := Bool.eq_false_iff.mpr c15
      subst c15
      have H1 : ((bodkinref05_has.f kj2 t220 (⟨#[49, 54, 120, 52]⟩ : ByteArray)).bind fun t227 => (if t227 = true then (bodkinref05_Bytes.j1 kj2 true t219 t220 t221 t222 t223 t224) else ((bodkinref05_has.f kj2 t220 (⟨#[51, 50, 120, 50]⟩ : ByteArray)).bind fun t228 => (bodkinref05_Bytes.j1 kj2 t228 t219 t220 t221 t222 t223 t224)))) = some r := by rw [if_neg (show ¬ (false = true) by decide)] at H; exact H
      clear H
      have H := H1
      clear H1
      replace H := Option.bind_eq_some_iff.mp H
      obtain ⟨t227, A170, H⟩ := H
      replace H : (if t227 = true then (bodkinref05_Bytes.j1 kj2 true t219 t220 t221 t222 t223 t224) else ((bodkinref05_has.f kj2 t220 (⟨#[51, 50, 120, 50]⟩ : ByteArray)).bind fun t228 => (bodkinref05_Bytes.j1 kj2 t228 t219 t220 t221 t222 t223 t224))) = some r := H
      have A17 := Aside0.mk A170
      clear A170
      by_cases c18 : t227 = true
      ·subst c18
       have H1 : (bodkinref05_Bytes.j1 kj2 true t219 t220 t221 t222 t223 t224) = some r := by rw [if_pos rfl] at H; exact H
       clear H
       have H := H1
       clear H1
       have H' := Aside0.mk H
       clear H
       have hcz19_0 : wc.cell? ⟨gb225, 0, none⟩ = some (.int .i64 t219) := (blk_cell BK225.out 0).trans rfl
       have hcz19_1 : wc.cell? ⟨gb225, 1, none⟩ = some (.string t220) := (blk_cell BK225.out 1).trans rfl
       have hcz19_2 : wc.cell? ⟨gb225, 2, none⟩ = some (.int .i64 t221) := (blk_cell BK225.out 2).trans rfl
       have hcz19_3 : wc.cell? ⟨gb225, 3, none⟩ = some (.string t222) := (blk_cell BK225.out 3).trans rfl
       have hcz19_4 : wc.cell? ⟨gb225, 4, none⟩ = some (.string t223) := (blk_cell BK225.out 4).trans rfl
       have hcz19_5 : wc.cell? ⟨gb225, 5, none⟩ = some (.bool t224) := (blk_cell BK225.out 5).trans rfl
       have hfz19_0 := blk_frozen BK225.out 0
       have hfz19_1 := blk_frozen BK225.out 1
       have hfz19_2 := blk_frozen BK225.out 2
       have hfz19_3 := blk_frozen BK225.out 3
       have hfz19_4 := blk_frozen BK225.out 4
       have hfz19_5 := blk_frozen BK225.out 5
       go_wp2_with (first | (go_at_call 38; (with_reducible refine (bodkinref05_has.calls kj2 t220 (⟨#[56, 120, 56]⟩ : ByteArray) false _ A14.out (by repeat first | exact hG | refine GG.below hG ?_ | exact HB.out | exact Below.refl _ _ | assumption | apply below_alloc | apply pw_below_drewN | apply below_drew1 | refine below_set ?_ (Aside0.out (by assumption)))).mono ?_); rintro e w' ⟨rfl, ⟨nd, rfl⟩⟩; (try first | exact ⟨rfl, _, World.drewN_drewN _ _ _⟩ | exact ⟨rfl, _, Eq.trans (World.drewN_drewN _ _ _) (congrArg (World.drewN _) (Nat.add_assoc _ _ _))⟩)) | (go_at_call 38; (with_reducible refine (bodkinref05_has.calls kj2 t220 (⟨#[49, 54, 120, 52]⟩ : ByteArray) true _ A17.out (by repeat first | exact hG | refine GG.below hG ?_ | exact HB.out | exact Below.refl _ _ | assumption | apply below_alloc | apply pw_below_drewN | apply below_drew1 | refine below_set ?_ (Aside0.out (by assumption)))).mono ?_); rintro e w' ⟨rfl, ⟨nd, rfl⟩⟩; (try first | exact ⟨rfl, _, World.drewN_drewN _ _ _⟩ | exact ⟨rfl, _, Eq.trans (World.drewN_drewN _ _ _) (congrArg (World.drewN _) (Nat.add_assoc _ _ _))⟩)))
       repeat (go_quiet (first | (go_at_call 38; (with_reducible refine (bodkinref05_has.calls kj2 t220 (⟨#[56, 120, 56]⟩ : ByteArray) false _ A14.out (by repeat first | exact hG | refine GG.below hG ?_ | exact HB.out | exact Below.refl _ _ | assumption | apply below_alloc | apply pw_below_drewN | apply below_drew1 | refine below_set ?_ (Aside0.out (by assumption)))).mono ?_); rintro e w' ⟨rfl, ⟨nd, rfl⟩⟩; (try first | exact ⟨rfl, _, World.drewN_drewN _ _ _⟩ | exact ⟨rfl, _, Eq.trans (World.drewN_drewN _ _ _) (congrArg (World.drewN _) (Nat.add_assoc _ _ _))⟩)) | (go_at_call 38; (with_reducible refine (bodkinref05_has.calls kj2 t220 (⟨#[49, 54, 120, 52]⟩ : ByteArray) true _ A17.out (by repeat first | exact hG | refine GG.below hG ?_ | exact HB.out | exact Below.refl _ _ | assumption | apply below_alloc | apply pw_below_drewN | apply below_drew1 | refine below_set ?_ (Aside0.out (by assumption)))).mono ?_); rintro e w' ⟨rfl, ⟨nd, rfl⟩⟩; (try first | exact ⟨rfl, _, World.drewN_drewN _ _ _⟩ | exact ⟨rfl, _, Eq.trans (World.drewN_drewN _ _ _) (congrArg (World.drewN _) (Nat.add_assoc _ _ _))⟩))); try go_wp2_with (first | (go_at_call 38; (with_reducible refine (bodkinref05_has.calls kj2 t220 (⟨#[56, 120, 56]⟩ : ByteArray) false _ A14.out (by repeat first | exact hG | refine GG.below hG ?_ | exact HB.out | exact Below.refl _ _ | assumption | apply below_alloc | apply pw_below_drewN | apply below_drew1 | refine below_set ?_ (Aside0.out (by assumption)))).mono ?_); rintro e w' ⟨rfl, ⟨nd, rfl⟩⟩; (try first | exact ⟨rfl, _, World.drewN_drewN _ _ _⟩ | exact ⟨rfl, _, Eq.trans (World.drewN_drewN _ _ _) (congrArg (World.drewN _) (Nat.add_assoc _ _ _))⟩)) | (go_at_call 38; (with_reducible refine (bodkinref05_has.calls kj2 t220 (⟨#[49, 54, 120, 52]⟩ : ByteArray) true _ A17.out (by repeat first | exact hG | refine GG.below hG ?_ | exact HB.out | exact Below.refl _ _ | assumption | apply below_alloc | apply pw_below_drewN | apply below_drew1 | refine below_set ?_ (Aside0.out (by assumption)))).mono ?_); rintro e w' ⟨rfl, ⟨nd, rfl⟩⟩; (try first | exact ⟨rfl, _, World.drewN_drewN _ _ _⟩ | exact ⟨rfl, _, Eq.trans (World.drewN_drewN _ _ _) (congrArg (World.drewN _) (Nat.add_assoc _ _ _))⟩))))
       go_meet
       case rel => exact ⟨_, (true), (by first | rfl | (simp; done) | (simp [*]; done)), H', ⟨by have := HJ2.out; first | omega | exact Nat.le_refl _⟩, ⟨by (with_reducible repeat (first | refine blk_drewN ?_ _ | refine blk_drew ?_ | refine blk_alloc ?_ _)); exact BK225.out⟩, ⟨by repeat (first | (with_reducible first | exact HB.out | apply below_alloc | apply pw_below_drewN | apply below_drew1 | refine below_set ?_ GE225.out) | exact HB.out)⟩⟩
      ·replace c18 := Bool.eq_false_iff.mpr c18
       subst c18
       have H1 : ((bodkinref05_has.f kj2 t220 (⟨#[51, 50, 120, 50]⟩ : ByteArray)).bind fun t228 => (bodkinref05_Bytes.j1 kj2 t228 t219 t220 t221 t222 t223 t224)) = some r := by rw [if_neg (show ¬ (false = true) by decide)] at H; exact H
       clear H
       have H := H1
       clear H1
       replace H := Option.bind_eq_some_iff.mp H
       obtain ⟨t228, A200, H⟩ := H
       replace H : (bodkinref05_Bytes.j1 kj2 t228 t219 t220 t221 t222 t223 t224) = some r := H
       have A20 := Aside0.mk A200
       clear A200
       have H' := Aside0.mk H
       clear H
       have hcz21_0 : wc.cell? ⟨gb225, 0, none⟩ = some (.int .i64 t219) := (blk_cell BK225.out 0).trans rfl
       have hcz21_1 : wc.cell? ⟨gb225, 1, none⟩ = some (.string t220) := (blk_cell BK225.out 1).trans rfl
       have hcz21_2 : wc.cell? ⟨gb225, 2, none⟩ = some (.int .i64 t221) := (blk_cell BK225.out 2).trans rfl
       have hcz21_3 : wc.cell? ⟨gb225, 3, none⟩ = some (.string t222) := (blk_cell BK225.out 3).trans rfl
       have hcz21_4 : wc.cell? ⟨gb225, 4, none⟩ = some (.string t223) := (blk_cell BK225.out 4).trans rfl
       have hcz21_5 : wc.cell? ⟨gb225, 5, none⟩ = some (.bool t224) := (blk_cell BK225.out 5).trans rfl
       have hfz21_0 := blk_frozen BK225.out 0
       have hfz21_1 := blk_frozen BK225.out 1
       have hfz21_2 := blk_frozen BK225.out 2
       have hfz21_3 := blk_frozen BK225.out 3
       have hfz21_4 := blk_frozen BK225.out 4
       have hfz21_5 := blk_frozen BK225.out 5
       go_wp2_with (first | (go_at_call 38; (with_reducible refine (bodkinref05_has.calls kj2 t220 (⟨#[56, 120, 56]⟩ : ByteArray) false _ A14.out (by repeat first | exact hG | refine GG.below hG ?_ | exact HB.out | exact Below.refl _ _ | assumption | apply below_alloc | apply pw_below_drewN | apply below_drew1 | refine below_set ?_ (Aside0.out (by assumption)))).mono ?_); rintro e w' ⟨rfl, ⟨nd, rfl⟩⟩; (try first | exact ⟨rfl, _, World.drewN_drewN _ _ _⟩ | exact ⟨rfl, _, Eq.trans (World.drewN_drewN _ _ _) (congrArg (World.drewN _) (Nat.add_assoc _ _ _))⟩)) | (go_at_call 38; (with_reducible refine (bodkinref05_has.calls kj2 t220 (⟨#[49, 54, 120, 52]⟩ : ByteArray) false _ A17.out (by repeat first | exact hG | refine GG.below hG ?_ | exact HB.out | exact Below.refl _ _ | assumption | apply below_alloc | apply pw_below_drewN | apply below_drew1 | refine below_set ?_ (Aside0.out (by assumption)))).mono ?_); rintro e w' ⟨rfl, ⟨nd, rfl⟩⟩; (try first | exact ⟨rfl, _, World.drewN_drewN _ _ _⟩ | exact ⟨rfl, _, Eq.trans (World.drewN_drewN _ _ _) (congrArg (World.drewN _) (Nat.add_assoc _ _ _))⟩)) | (go_at_call 38; (with_reducible refine (bodkinref05_has.calls kj2 t220 (⟨#[51, 50, 120, 50]⟩ : ByteArray) t228 _ A20.out (by repeat first | exact hG | refine GG.below hG ?_ | exact HB.out | exact Below.refl _ _ | assumption | apply below_alloc | apply pw_below_drewN | apply below_drew1 | refine below_set ?_ (Aside0.out (by assumption)))).mono ?_); rintro e w' ⟨rfl, ⟨nd, rfl⟩⟩; (try first | exact ⟨rfl, _, World.drewN_drewN _ _ _⟩ | exact ⟨rfl, _, Eq.trans (World.drewN_drewN _ _ _) (congrArg (World.drewN _) (Nat.add_assoc _ _ _))⟩)))
       repeat (go_quiet (first | (go_at_call 38; (with_reducible refine (bodkinref05_has.calls kj2 t220 (⟨#[56, 120, 56]⟩ : ByteArray) false _ A14.out (by repeat first | exact hG | refine GG.below hG ?_ | exact HB.out | exact Below.refl _ _ | assumption | apply below_alloc | apply pw_below_drewN | apply below_drew1 | refine below_set ?_ (Aside0.out (by assumption)))).mono ?_); rintro e w' ⟨rfl, ⟨nd, rfl⟩⟩; (try first | exact ⟨rfl, _, World.drewN_drewN _ _ _⟩ | exact ⟨rfl, _, Eq.trans (World.drewN_drewN _ _ _) (congrArg (World.drewN _) (Nat.add_assoc _ _ _))⟩)) | (go_at_call 38; (with_reducible refine (bodkinref05_has.calls kj2 t220 (⟨#[49, 54, 120, 52]⟩ : ByteArray) false _ A17.out (by repeat first | exact hG | refine GG.below hG ?_ | exact HB.out | exact Below.refl _ _ | assumption | apply below_alloc | apply pw_below_drewN | apply below_drew1 | refine below_set ?_ (Aside0.out (by assumption)))).mono ?_); rintro e w' ⟨rfl, ⟨nd, rfl⟩⟩; (try first | exact ⟨rfl, _, World.drewN_drewN _ _ _⟩ | exact ⟨rfl, _, Eq.trans (World.drewN_drewN _ _ _) (congrArg (World.drewN _) (Nat.add_assoc _ _ _))⟩)) | (go_at_call 38; (with_reducible refine (bodkinref05_has.calls kj2 t220 (⟨#[51, 50, 120, 50]⟩ : ByteArray) t228 _ A20.out (by repeat first | exact hG | refine GG.below hG ?_ | exact HB.out | exact Below.refl _ _ | assumption | apply below_alloc | apply pw_below_drewN | apply below_drew1 | refine below_set ?_ (Aside0.out (by assumption)))).mono ?_); rintro e w' ⟨rfl, ⟨nd, rfl⟩⟩; (try first | exact ⟨rfl, _, World.drewN_drewN _ _ _⟩ | exact ⟨rfl, _, Eq.trans (World.drewN_drewN _ _ _) (congrArg (World.drewN _) (Nat.add_assoc _ _ _))⟩))); try go_wp2_with (first | (go_at_call 38; (with_reducible refine (bodkinref05_has.calls kj2 t220 (⟨#[56, 120, 56]⟩ : ByteArray) false _ A14.out (by repeat first | exact hG | refine GG.below hG ?_ | exact HB.out | exact Below.refl _ _ | assumption | apply below_alloc | apply pw_below_drewN | apply below_drew1 | refine below_set ?_ (Aside0.out (by assumption)))).mono ?_); rintro e w' ⟨rfl, ⟨nd, rfl⟩⟩; (try first | exact ⟨rfl, _, World.drewN_drewN _ _ _⟩ | exact ⟨rfl, _, Eq.trans (World.drewN_drewN _ _ _) (congrArg (World.drewN _) (Nat.add_assoc _ _ _))⟩)) | (go_at_call 38; (with_reducible refine (bodkinref05_has.calls kj2 t220 (⟨#[49, 54, 120, 52]⟩ : ByteArray) false _ A17.out (by repeat first | exact hG | refine GG.below hG ?_ | exact HB.out | exact Below.refl _ _ | assumption | apply below_alloc | apply pw_below_drewN | apply below_drew1 | refine below_set ?_ (Aside0.out (by assumption)))).mono ?_); rintro e w' ⟨rfl, ⟨nd, rfl⟩⟩; (try first | exact ⟨rfl, _, World.drewN_drewN _ _ _⟩ | exact ⟨rfl, _, Eq.trans (World.drewN_drewN _ _ _) (congrArg (World.drewN _) (Nat.add_assoc _ _ _))⟩)) | (go_at_call 38; (with_reducible refine (bodkinref05_has.calls kj2 t220 (⟨#[51, 50, 120, 50]⟩ : ByteArray) t228 _ A20.out (by repeat first | exact hG | refine GG.below hG ?_ | exact HB.out | exact Below.refl _ _ | assumption | apply below_alloc | apply pw_below_drewN | apply below_drew1 | refine below_set ?_ (Aside0.out (by assumption)))).mono ?_); rintro e w' ⟨rfl, ⟨nd, rfl⟩⟩; (try first | exact ⟨rfl, _, World.drewN_drewN _ _ _⟩ | exact ⟨rfl, _, Eq.trans (World.drewN_drewN _ _ _) (congrArg (World.drewN _) (Nat.add_assoc _ _ _))⟩))))
       go_meet
       case rel => exact ⟨_, (t228), (by first | rfl | (simp; done) | (simp [*]; done)), H', ⟨by have := HJ2.out; first | omega | exact Nat.le_refl _⟩, ⟨by (with_reducible repeat (first | refine blk_drewN ?_ _ | refine blk_drew ?_ | refine blk_alloc ?_ _)); exact BK225.out⟩, ⟨by repeat (first | (with_reducible first | exact HB.out | apply below_alloc | apply pw_below_drewN | apply below_drew1 | refine below_set ?_ GE225.out) | exact HB.out)⟩⟩
    case rest =>
     clear HC13
     try clear c1
     try clear p2
     try clear c3
     try clear c7
     try clear c7b0
     try clear c9
     try clear c9b0
     try clear c9b1
     try clear c12
     try clear c15
     try clear c18
     try clear hcz10_0
     try clear hcz10_1
     try clear hcz10_2
     try clear hcz10_3
     try clear hcz10_4
     try clear hcz10_5
     try clear hcz11_0
     try clear hcz11_1
     try clear hcz11_2
     try clear hcz11_3
     try clear hcz11_4
     try clear hcz11_5
     try clear hcz16_0
     try clear hcz16_1
     try clear hcz16_2
     try clear hcz16_3
     try clear hcz16_4
     try clear hcz16_5
     try clear hcz19_0
     try clear hcz19_1
     try clear hcz19_2
     try clear hcz19_3
     try clear hcz19_4
     try clear hcz19_5
     try clear hcz21_0
     try clear hcz21_1
     try clear hcz21_2
     try clear hcz21_3
     try clear hcz21_4
     try clear hcz21_5
     try clear hcz6_0
     try clear hcz6_1
     try clear hcz6_2
     try clear hcz6_3
     try clear hcz6_4
     try clear hcz6_5
     try clear hcz8_0
     try clear hcz8_1
     try clear hcz8_2
     try clear hcz8_3
     try clear hcz8_4
     try clear hcz8_5
     try clear hfz10_0
     try clear hfz10_1
     try clear hfz10_2
     try clear hfz10_3
     try clear hfz10_4
     try clear hfz10_5
     try clear hfz11_0
     try clear hfz11_1
     try clear hfz11_2
     try clear hfz11_3
     try clear hfz11_4
     try clear hfz11_5
     try clear hfz16_0
     try clear hfz16_1
     try clear hfz16_2
     try clear hfz16_3
     try clear hfz16_4
     try clear hfz16_5
     try clear hfz19_0
     try clear hfz19_1
     try clear hfz19_2
     try clear hfz19_3
     try clear hfz19_4
     try clear hfz19_5
     try clear hfz21_0
     try clear hfz21_1
     try clear hfz21_2
     try clear hfz21_3
     try clear hfz21_4
     try clear hfz21_5
     try clear hfz6_0
     try clear hfz6_1
     try clear hfz6_2
     try clear hfz6_3
     try clear hfz6_4
     try clear hfz6_5
     try clear hfz8_0
     try clear hfz8_1
     try clear hfz8_2
     try clear hfz8_3
     try clear hfz8_4
     try clear hfz8_5
     try clear p2
     obtain ⟨kq, x33_12, rfl, HA, HJ12, BK225, HB⟩ := hcut
     cases kq with
     | zero => exact absurd HA.out (by simp [bodkinref05_Bytes.j1])
     | succ kj12 =>
      have H := HA.out
      clear HA
      simp only [bodkinref05_Bytes.j1] at H
      by_cases c22 : x33_12 = true
      ·subst c22
       have H1 : (some 8) = some r := by rw [if_pos rfl] at H; exact H
       clear H
       have H := H1
       clear H1
       obtain rfl := Option.some.inj H
       go_wp2
       repeat (go_quiet (fail); try go_wp2)
       go_ret
       exact ⟨by first | rfl | (simp [errW_none, errW_some] <;> rfl) | (simp [*, errW_none, errW_some] <;> rfl) | (rw [Int.tdiv_eq_ediv_of_nonneg] <;> first | rfl | decide) | (simp [errW_none, errW_some] <;> exact isEmpty_bne _), by repeat (first | (with_reducible first | exact HB.out | apply below_alloc | apply pw_below_drewN | apply below_drew1 | refine below_set ?_ GE225.out) | exact HB.out)⟩
      ·replace c22 := Bool.eq_false_iff.mpr c22
       subst c22
       have H1 : (bodkinref05_Bytes.l0 kj12 (([(⟨#[108, 111, 97, 100, 56]⟩ : ByteArray), (⟨#[115, 116, 111, 114, 101, 56]⟩ : ByteArray), (⟨#[108, 111, 97, 100, 49, 54]⟩ : ByteArray), (⟨#[115, 116, 111, 114, 101, 49, 54]⟩ : ByteArray), (⟨#[108, 111, 97, 100, 51, 50]⟩ : ByteArray), (⟨#[115, 116, 111, 114, 101, 51, 50]⟩ : ByteArray), (⟨#[108, 111, 97, 100, 54, 52]⟩ : ByteArray), (⟨#[115, 116, 111, 114, 101, 54, 52]⟩ : ByteArray)] : List ByteArray)) 0 t219 t220 t221 t222 t223 t224) = some r := by rw [if_neg (show ¬ (false = true) by decide)] at H; exact H
       clear H
       have H := H1
       clear H1
       obtain ⟨y229, hy229⟩ : ∃ y_ : List ByteArray, y_ = (([(⟨#[108, 111, 97, 100, 56]⟩ : ByteArray), (⟨#[115, 116, 111, 114, 101, 56]⟩ : ByteArray), (⟨#[108, 111, 97, 100, 49, 54]⟩ : ByteArray), (⟨#[115, 116, 111, 114, 101, 49, 54]⟩ : ByteArray), (⟨#[108, 111, 97, 100, 51, 50]⟩ : ByteArray), (⟨#[115, 116, 111, 114, 101, 51, 50]⟩ : ByteArray), (⟨#[108, 111, 97, 100, 54, 52]⟩ : ByteArray), (⟨#[115, 116, 111, 114, 101, 54, 52]⟩ : ByteArray)] : List ByteArray)) := ⟨_, rfl⟩
       replace H : (bodkinref05_Bytes.l0 kj12 y229 0 t219 t220 t221 t222 t223 t224) = some r := by first | (rw [hy229]; with_reducible exact H) | (have H2_ := (Option.bind_some _ _).symm.trans H; rw [hy229]; with_reducible exact H2_) | (have H2_ := (Option.bind_some _ _).symm.trans H; with_reducible exact H2_) | with_reducible exact H | (rw [hy229]; exact H) | exact H
       have Ny229 := Aside0.mk hy229
       clear hy229
       have H' := Aside0.mk H
       clear H
       go_wp2_with (first | ((with_reducible refine gate_dst (N := 34) rfl ?_); refine Kd.R_lit Kd.string _ 9 ?hg (N := 34) ?hd (xs := ([(⟨#[108, 111, 97, 100, 56]⟩ : ByteArray), (⟨#[115, 116, 111, 114, 101, 56]⟩ : ByteArray), (⟨#[108, 111, 97, 100, 49, 54]⟩ : ByteArray), (⟨#[115, 116, 111, 114, 101, 49, 54]⟩ : ByteArray), (⟨#[108, 111, 97, 100, 51, 50]⟩ : ByteArray), (⟨#[115, 116, 111, 114, 101, 51, 50]⟩ : ByteArray), (⟨#[108, 111, 97, 100, 54, 52]⟩ : ByteArray), (⟨#[115, 116, 111, 114, 101, 54, 52]⟩ : ByteArray)] : List ByteArray)) (inner := [.string (⟨#[108, 111, 97, 100, 56]⟩ : ByteArray), .string (⟨#[115, 116, 111, 114, 101, 56]⟩ : ByteArray), .string (⟨#[108, 111, 97, 100, 49, 54]⟩ : ByteArray), .string (⟨#[115, 116, 111, 114, 101, 49, 54]⟩ : ByteArray), .string (⟨#[108, 111, 97, 100, 51, 50]⟩ : ByteArray), .string (⟨#[115, 116, 111, 114, 101, 51, 50]⟩ : ByteArray), .string (⟨#[108, 111, 97, 100, 54, 52]⟩ : ByteArray), .string (⟨#[115, 116, 111, 114, 101, 54, 52]⟩ : ByteArray)]) (ok := fun _ => True) (okp := fun _ => True) ?hr ?hp (fun _ hk => hk) trivial (Below.refl _ _) (Nat.le_refl _) (by simp) ?_; (case hd => rfl); (case hg => rfl); (case hr => first | (go_simp; done) | (go_simp; rfl)); (case hp => exact (Reps.one (show Kd.M Kd.string _ _ _ (⟨#[108, 111, 97, 100, 56]⟩ : ByteArray) [.string (⟨#[108, 111, 97, 100, 56]⟩ : ByteArray)] from rfl) (Reps.one (show Kd.M Kd.string _ _ _ (⟨#[115, 116, 111, 114, 101, 56]⟩ : ByteArray) [.string (⟨#[115, 116, 111, 114, 101, 56]⟩ : ByteArray)] from rfl) (Reps.one (show Kd.M Kd.string _ _ _ (⟨#[108, 111, 97, 100, 49, 54]⟩ : ByteArray) [.string (⟨#[108, 111, 97, 100, 49, 54]⟩ : ByteArray)] from rfl) (Reps.one (show Kd.M Kd.string _ _ _ (⟨#[115, 116, 111, 114, 101, 49, 54]⟩ : ByteArray) [.string (⟨#[115, 116, 111, 114, 101, 49, 54]⟩ : ByteArray)] from rfl) (Reps.one (show Kd.M Kd.string _ _ _ (⟨#[108, 111, 97, 100, 51, 50]⟩ : ByteArray) [.string (⟨#[108, 111, 97, 100, 51, 50]⟩ : ByteArray)] from rfl) (Reps.one (show Kd.M Kd.string _ _ _ (⟨#[115, 116, 111, 114, 101, 51, 50]⟩ : ByteArray) [.string (⟨#[115, 116, 111, 114, 101, 51, 50]⟩ : ByteArray)] from rfl) (Reps.one (show Kd.M Kd.string _ _ _ (⟨#[108, 111, 97, 100, 54, 52]⟩ : ByteArray) [.string (⟨#[108, 111, 97, 100, 54, 52]⟩ : ByteArray)] from rfl) (Reps.one (show Kd.M Kd.string _ _ _ (⟨#[115, 116, 111, 114, 101, 54, 52]⟩ : ByteArray) [.string (⟨#[115, 116, 111, 114, 101, 54, 52]⟩ : ByteArray)] from rfl) (Reps.none _ _)))))))))); intro v230 w23 ho24 hb hg_ hnew_; clear hg_ hnew_; (first | rw [← Ny229.out] at ho24 | (simp only [Int.reduceToNat] at ho24; rw [← Ny229.out] at ho24)); have n0_ := Aside0.mk (Kd.R_lower ho24 (below_size (by repeat (first | (with_reducible first | exact HB.out | apply below_alloc | apply pw_below_drewN | apply below_drew1 | refine below_set ?_ GE225.out) | exact HB.out)))); have n1_ := Aside0.mk (blk_below (g := gb225) (o := .cells #[.int .i64 t219, .string t220, .int .i64 t221, .string t222, .string t223, .bool t224] 24 (0, 0)) (by (with_reducible repeat (first | refine blk_drewN ?_ _ | refine blk_drew ?_ | refine blk_alloc ?_ _)); exact BK225.out) hb); have n2_ := Aside0.mk (below_step (by repeat (first | (with_reducible first | exact HB.out | apply below_alloc | apply pw_below_drewN | apply below_drew1 | refine below_set ?_ GE225.out) | exact HB.out)) hb); clear BK225; clear HB; have HO231 := n0_; have BK225 := n1_; have HB := n2_; clear n0_ n1_ n2_; clear hb ho24))
       repeat (go_quiet (first | ((with_reducible refine gate_dst (N := 34) rfl ?_); refine Kd.R_lit Kd.string _ 9 ?hg (N := 34) ?hd (xs := ([(⟨#[108, 111, 97, 100, 56]⟩ : ByteArray), (⟨#[115, 116, 111, 114, 101, 56]⟩ : ByteArray), (⟨#[108, 111, 97, 100, 49, 54]⟩ : ByteArray), (⟨#[115, 116, 111, 114, 101, 49, 54]⟩ : ByteArray), (⟨#[108, 111, 97, 100, 51, 50]⟩ : ByteArray), (⟨#[115, 116, 111, 114, 101, 51, 50]⟩ : ByteArray), (⟨#[108, 111, 97, 100, 54, 52]⟩ : ByteArray), (⟨#[115, 116, 111, 114, 101, 54, 52]⟩ : ByteArray)] : List ByteArray)) (inner := [.string (⟨#[108, 111, 97, 100, 56]⟩ : ByteArray), .string (⟨#[115, 116, 111, 114, 101, 56]⟩ : ByteArray), .string (⟨#[108, 111, 97, 100, 49, 54]⟩ : ByteArray), .string (⟨#[115, 116, 111, 114, 101, 49, 54]⟩ : ByteArray), .string (⟨#[108, 111, 97, 100, 51, 50]⟩ : ByteArray), .string (⟨#[115, 116, 111, 114, 101, 51, 50]⟩ : ByteArray), .string (⟨#[108, 111, 97, 100, 54, 52]⟩ : ByteArray), .string (⟨#[115, 116, 111, 114, 101, 54, 52]⟩ : ByteArray)]) (ok := fun _ => True) (okp := fun _ => True) ?hr ?hp (fun _ hk => hk) trivial (Below.refl _ _) (Nat.le_refl _) (by simp) ?_; (case hd => rfl); (case hg => rfl); (case hr => first | (go_simp; done) | (go_simp; rfl)); (case hp => exact (Reps.one (show Kd.M Kd.string _ _ _ (⟨#[108, 111, 97, 100, 56]⟩ : ByteArray) [.string (⟨#[108, 111, 97, 100, 56]⟩ : ByteArray)] from rfl) (Reps.one (show Kd.M Kd.string _ _ _ (⟨#[115, 116, 111, 114, 101, 56]⟩ : ByteArray) [.string (⟨#[115, 116, 111, 114, 101, 56]⟩ : ByteArray)] from rfl) (Reps.one (show Kd.M Kd.string _ _ _ (⟨#[108, 111, 97, 100, 49, 54]⟩ : ByteArray) [.string (⟨#[108, 111, 97, 100, 49, 54]⟩ : ByteArray)] from rfl) (Reps.one (show Kd.M Kd.string _ _ _ (⟨#[115, 116, 111, 114, 101, 49, 54]⟩ : ByteArray) [.string (⟨#[115, 116, 111, 114, 101, 49, 54]⟩ : ByteArray)] from rfl) (Reps.one (show Kd.M Kd.string _ _ _ (⟨#[108, 111, 97, 100, 51, 50]⟩ : ByteArray) [.string (⟨#[108, 111, 97, 100, 51, 50]⟩ : ByteArray)] from rfl) (Reps.one (show Kd.M Kd.string _ _ _ (⟨#[115, 116, 111, 114, 101, 51, 50]⟩ : ByteArray) [.string (⟨#[115, 116, 111, 114, 101, 51, 50]⟩ : ByteArray)] from rfl) (Reps.one (show Kd.M Kd.string _ _ _ (⟨#[108, 111, 97, 100, 54, 52]⟩ : ByteArray) [.string (⟨#[108, 111, 97, 100, 54, 52]⟩ : ByteArray)] from rfl) (Reps.one (show Kd.M Kd.string _ _ _ (⟨#[115, 116, 111, 114, 101, 54, 52]⟩ : ByteArray) [.string (⟨#[115, 116, 111, 114, 101, 54, 52]⟩ : ByteArray)] from rfl) (Reps.none _ _)))))))))); intro v230 w23 ho24 hb hg_ hnew_; clear hg_ hnew_; (first | rw [← Ny229.out] at ho24 | (simp only [Int.reduceToNat] at ho24; rw [← Ny229.out] at ho24)); have n0_ := Aside0.mk (Kd.R_lower ho24 (below_size (by repeat (first | (with_reducible first | exact HB.out | apply below_alloc | apply pw_below_drewN | apply below_drew1 | refine below_set ?_ GE225.out) | exact HB.out)))); have n1_ := Aside0.mk (blk_below (g := gb225) (o := .cells #[.int .i64 t219, .string t220, .int .i64 t221, .string t222, .string t223, .bool t224] 24 (0, 0)) (by (with_reducible repeat (first | refine blk_drewN ?_ _ | refine blk_drew ?_ | refine blk_alloc ?_ _)); exact BK225.out) hb); have n2_ := Aside0.mk (below_step (by repeat (first | (with_reducible first | exact HB.out | apply below_alloc | apply pw_below_drewN | apply below_drew1 | refine below_set ?_ GE225.out) | exact HB.out)) hb); clear BK225; clear HB; have HO231 := n0_; have BK225 := n1_; have HB := n2_; clear n0_ n1_ n2_; clear hb ho24)); try go_wp2_with (first | ((with_reducible refine gate_dst (N := 34) rfl ?_); refine Kd.R_lit Kd.string _ 9 ?hg (N := 34) ?hd (xs := ([(⟨#[108, 111, 97, 100, 56]⟩ : ByteArray), (⟨#[115, 116, 111, 114, 101, 56]⟩ : ByteArray), (⟨#[108, 111, 97, 100, 49, 54]⟩ : ByteArray), (⟨#[115, 116, 111, 114, 101, 49, 54]⟩ : ByteArray), (⟨#[108, 111, 97, 100, 51, 50]⟩ : ByteArray), (⟨#[115, 116, 111, 114, 101, 51, 50]⟩ : ByteArray), (⟨#[108, 111, 97, 100, 54, 52]⟩ : ByteArray), (⟨#[115, 116, 111, 114, 101, 54, 52]⟩ : ByteArray)] : List ByteArray)) (inner := [.string (⟨#[108, 111, 97, 100, 56]⟩ : ByteArray), .string (⟨#[115, 116, 111, 114, 101, 56]⟩ : ByteArray), .string (⟨#[108, 111, 97, 100, 49, 54]⟩ : ByteArray), .string (⟨#[115, 116, 111, 114, 101, 49, 54]⟩ : ByteArray), .string (⟨#[108, 111, 97, 100, 51, 50]⟩ : ByteArray), .string (⟨#[115, 116, 111, 114, 101, 51, 50]⟩ : ByteArray), .string (⟨#[108, 111, 97, 100, 54, 52]⟩ : ByteArray), .string (⟨#[115, 116, 111, 114, 101, 54, 52]⟩ : ByteArray)]) (ok := fun _ => True) (okp := fun _ => True) ?hr ?hp (fun _ hk => hk) trivial (Below.refl _ _) (Nat.le_refl _) (by simp) ?_; (case hd => rfl); (case hg => rfl); (case hr => first | (go_simp; done) | (go_simp; rfl)); (case hp => exact (Reps.one (show Kd.M Kd.string _ _ _ (⟨#[108, 111, 97, 100, 56]⟩ : ByteArray) [.string (⟨#[108, 111, 97, 100, 56]⟩ : ByteArray)] from rfl) (Reps.one (show Kd.M Kd.string _ _ _ (⟨#[115, 116, 111, 114, 101, 56]⟩ : ByteArray) [.string (⟨#[115, 116, 111, 114, 101, 56]⟩ : ByteArray)] from rfl) (Reps.one (show Kd.M Kd.string _ _ _ (⟨#[108, 111, 97, 100, 49, 54]⟩ : ByteArray) [.string (⟨#[108, 111, 97, 100, 49, 54]⟩ : ByteArray)] from rfl) (Reps.one (show Kd.M Kd.string _ _ _ (⟨#[115, 116, 111, 114, 101, 49, 54]⟩ : ByteArray) [.string (⟨#[115, 116, 111, 114, 101, 49, 54]⟩ : ByteArray)] from rfl) (Reps.one (show Kd.M Kd.string _ _ _ (⟨#[108, 111, 97, 100, 51, 50]⟩ : ByteArray) [.string (⟨#[108, 111, 97, 100, 51, 50]⟩ : ByteArray)] from rfl) (Reps.one (show Kd.M Kd.string _ _ _ (⟨#[115, 116, 111, 114, 101, 51, 50]⟩ : ByteArray) [.string (⟨#[115, 116, 111, 114, 101, 51, 50]⟩ : ByteArray)] from rfl) (Reps.one (show Kd.M Kd.string _ _ _ (⟨#[108, 111, 97, 100, 54, 52]⟩ : ByteArray) [.string (⟨#[108, 111, 97, 100, 54, 52]⟩ : ByteArray)] from rfl) (Reps.one (show Kd.M Kd.string _ _ _ (⟨#[115, 116, 111, 114, 101, 54, 52]⟩ : ByteArray) [.string (⟨#[115, 116, 111, 114, 101, 54, 52]⟩ : ByteArray)] from rfl) (Reps.none _ _)))))))))); intro v230 w23 ho24 hb hg_ hnew_; clear hg_ hnew_; (first | rw [← Ny229.out] at ho24 | (simp only [Int.reduceToNat] at ho24; rw [← Ny229.out] at ho24)); have n0_ := Aside0.mk (Kd.R_lower ho24 (below_size (by repeat (first | (with_reducible first | exact HB.out | apply below_alloc | apply pw_below_drewN | apply below_drew1 | refine below_set ?_ GE225.out) | exact HB.out)))); have n1_ := Aside0.mk (blk_below (g := gb225) (o := .cells #[.int .i64 t219, .string t220, .int .i64 t221, .string t222, .string t223, .bool t224] 24 (0, 0)) (by (with_reducible repeat (first | refine blk_drewN ?_ _ | refine blk_drew ?_ | refine blk_alloc ?_ _)); exact BK225.out) hb); have n2_ := Aside0.mk (below_step (by repeat (first | (with_reducible first | exact HB.out | apply below_alloc | apply pw_below_drewN | apply below_drew1 | refine below_set ?_ GE225.out) | exact HB.out)) hb); clear BK225; clear HB; have HO231 := n0_; have BK225 := n1_; have HB := n2_; clear n0_ n1_ n2_; clear hb ho24)))
       go_loopg [5] kj12 (fun kq v5 w' => ∃ (x5_3 : Int), v5 = .int .i64 x5_3 ∧ Aside0 (bodkinref05_Bytes.l0 kq y229 x5_3 t219 t220 t221 t222 t223 t224 = some r) ∧ Aside0 (kq ≤ kj12) ∧ Aside0 (Kd.R Kd.string 9 w' w.heap.size (fun _ => True) v230 y229) ∧ Aside0 (w'.heap[gb225]? = some (.cells #[.int .i64 t219, .string t220, .int .i64 t221, .string t222, .string t223, .bool t224] 24 (0, 0))) ∧ Aside0 (Below w.heap.size w w'))
       case atStart => exact ⟨(0), (by first | rfl | (simp; done) | (simp [*]; done)), H', ⟨Nat.le_refl _⟩, ⟨by (with_reducible repeat (first | apply Kd.R_alloc | apply Kd.R_drewN | apply Kd.R_drew)); exact HO231.out⟩, ⟨by (with_reducible repeat (first | refine blk_drewN ?_ _ | refine blk_drew ?_ | refine blk_alloc ?_ _)); exact BK225.out⟩, ⟨by repeat (first | (with_reducible first | exact HB.out | apply below_alloc | apply pw_below_drewN | apply below_drew1 | refine below_set ?_ GE225.out) | exact HB.out)⟩⟩
       case round =>
        clear H'
        try clear c1
        try clear c2
        try clear p2
        try clear c3
        try clear c7
        try clear c7b0
        try clear c9
        try clear c9b0
        try clear c9b1
        try clear c12
        try clear c15
        try clear c18
        try clear c22
        try clear hcz10_0
        try clear hcz10_1
        try clear hcz10_2
        try clear hcz10_3
        try clear hcz10_4
        try clear hcz10_5
        try clear hcz11_0
        try clear hcz11_1
        try clear hcz11_2
        try clear hcz11_3
        try clear hcz11_4
        try clear hcz11_5
        try clear hcz16_0
        try clear hcz16_1
        try clear hcz16_2
        try clear hcz16_3
        try clear hcz16_4
        try clear hcz16_5
        try clear hcz19_0
        try clear hcz19_1
        try clear hcz19_2
        try clear hcz19_3
        try clear hcz19_4
        try clear hcz19_5
        try clear hcz21_0
        try clear hcz21_1
        try clear hcz21_2
        try clear hcz21_3
        try clear hcz21_4
        try clear hcz21_5
        try clear hcz6_0
        try clear hcz6_1
        try clear hcz6_2
        try clear hcz6_3
        try clear hcz6_4
        try clear hcz6_5
        try clear hcz8_0
        try clear hcz8_1
        try clear hcz8_2
        try clear hcz8_3
        try clear hcz8_4
        try clear hcz8_5
        try clear hfz10_0
        try clear hfz10_1
        try clear hfz10_2
        try clear hfz10_3
        try clear hfz10_4
        try clear hfz10_5
        try clear hfz11_0
        try clear hfz11_1
        try clear hfz11_2
        try clear hfz11_3
        try clear hfz11_4
        try clear hfz11_5
        try clear hfz16_0
        try clear hfz16_1
        try clear hfz16_2
        try clear hfz16_3
        try clear hfz16_4
        try clear hfz16_5
        try clear hfz19_0
        try clear hfz19_1
        try clear hfz19_2
        try clear hfz19_3
        try clear hfz19_4
        try clear hfz19_5
        try clear hfz21_0
        try clear hfz21_1
        try clear hfz21_2
        try clear hfz21_3
        try clear hfz21_4
        try clear hfz21_5
        try clear hfz6_0
        try clear hfz6_1
        try clear hfz6_2
        try clear hfz6_3
        try clear hfz6_4
        try clear hfz6_5
        try clear hfz8_0
        try clear hfz8_1
        try clear hfz8_2
        try clear hfz8_3
        try clear hfz8_4
        try clear hfz8_5
        try clear p2
        obtain ⟨x5_3, rfl, HA, HK3, HO_4, BK225, HB⟩ := hrel
        cases gk with
        | zero => exact absurd HA.out (by simp [bodkinref05_Bytes.l0])
        | succ k3 =>
         have H := HA.out
         clear HA
         simp only [bodkinref05_Bytes.l0] at H
         by_cases c25 : x5_3 < (y229.length : Int)
         ·rw [if_pos c25] at H
          have c25b0 : decide (x5_3 < (y229.length : Int)) = true := decide_eq_true c25
          clear c25
          by_cases c26 : 0 ≤ x5_3
          ·rw [if_pos c26] at H
           have c26b0 : decide (0 ≤ x5_3) = true := decide_eq_true c26
           clear c26
           replace H := Option.bind_eq_some_iff.mp H
           obtain ⟨t233, A270, H⟩ := H
           replace H : (if t233 = true then ((some (([1, 1, 2, 2, 4, 4, 8, 8] : List Int) : List Int)).bind fun y234 => (if x5_3 < (y234.length : Int) then (some (rd y234 x5_3)) else (none))) else (bodkinref05_Bytes.l0 k3 y229 (wrap64 (x5_3 + 1)) t219 t220 t221 t222 t223 t224)) = some r := H
           have A27 := Aside0.mk A270
           clear A270
           by_cases c28 : t233 = true
           ·subst c28
            have H1 : ((some (([1, 1, 2, 2, 4, 4, 8, 8] : List Int) : List Int)).bind fun y234 => (if x5_3 < (y234.length : Int) then (some (rd y234 x5_3)) else (none))) = some r := by rw [if_pos rfl] at H; exact H
            clear H
            have H := H1
            clear H1
            obtain ⟨y234, hy234⟩ : ∃ y_ : List Int, y_ = (([1, 1, 2, 2, 4, 4, 8, 8] : List Int)) := ⟨_, rfl⟩
            replace H : (if x5_3 < (y234.length : Int) then (some (rd y234 x5_3)) else (none)) = some r := by first | (rw [hy234]; with_reducible exact H) | (have H2_ := (Option.bind_some _ _).symm.trans H; rw [hy234]; with_reducible exact H2_) | (have H2_ := (Option.bind_some _ _).symm.trans H; with_reducible exact H2_) | with_reducible exact H | (rw [hy234]; exact H) | exact H
            have Ny234 := Aside0.mk hy234
            clear hy234
            by_cases c29 : x5_3 < (y234.length : Int)
            ·rw [if_pos c29] at H
             have c29b0 : decide (x5_3 < (y234.length : Int)) = true := decide_eq_true c29
             clear c29
             obtain rfl := Option.some.inj H
             obtain ⟨Ao30, co30, eo30⟩ := Kd.R_slice HO_4.out
             subst eo30
             have hcz31_0 : wr.cell? ⟨gb225, 0, none⟩ = some (.int .i64 t219) := (blk_cell BK225.out 0).trans rfl
             have hcz31_1 : wr.cell? ⟨gb225, 1, none⟩ = some (.string t220) := (blk_cell BK225.out 1).trans rfl
             have hcz31_2 : wr.cell? ⟨gb225, 2, none⟩ = some (.int .i64 t221) := (blk_cell BK225.out 2).trans rfl
             have hcz31_3 : wr.cell? ⟨gb225, 3, none⟩ = some (.string t222) := (blk_cell BK225.out 3).trans rfl
             have hcz31_4 : wr.cell? ⟨gb225, 4, none⟩ = some (.string t223) := (blk_cell BK225.out 4).trans rfl
             have hcz31_5 : wr.cell? ⟨gb225, 5, none⟩ = some (.bool t224) := (blk_cell BK225.out 5).trans rfl
             have hfz31_0 := blk_frozen BK225.out 0
             have hfz31_1 := blk_frozen BK225.out 1
             have hfz31_2 := blk_frozen BK225.out 2
             have hfz31_3 := blk_frozen BK225.out 3
             have hfz31_4 := blk_frozen BK225.out 4
             have hfz31_5 := blk_frozen BK225.out 5
             have p232 : 0 ≤ (x5_3 : Int) := of_decide_eq_true (by first | (with_reducible assumption) | assumption)
             have q232 : x5_3 < (y229.length : Int) := of_decide_eq_true (by first | (with_reducible assumption) | assumption)
             obtain ⟨ad232, e232, hx232_0⟩ := Kd.at_string (Kd.R_reads' HO_4.out).2.2 x5_3 p232 q232
             cases e232
             replace p232 := eq_true p232
             replace q232 := eq_true q232
             go_wp2_with (first | (go_at_call 38; (with_reducible refine (bodkinref05_has.calls k3 t220 (rdOf ByteArray.empty y229 x5_3) true _ A27.out (by repeat first | exact hG | refine GG.below hG ?_ | exact HB.out | exact Below.refl _ _ | assumption | apply below_alloc | apply pw_below_drewN | apply below_drew1 | refine below_set ?_ (Aside0.out (by assumption)))).mono ?_); rintro e w' ⟨rfl, ⟨nd, rfl⟩⟩; (try first | exact ⟨rfl, _, World.drewN_drewN _ _ _⟩ | exact ⟨rfl, _, Eq.trans (World.drewN_drewN _ _ _) (congrArg (World.drewN _) (Nat.add_assoc _ _ _))⟩)) | ((with_reducible refine gate_dst (N := 48) rfl ?_); refine Kd.R_lit (Kd.int .i64) _ 3 ?hg (N := 48) ?hd (xs := ([1, 1, 2, 2, 4, 4, 8, 8] : List Int)) (inner := [.int .i64 1, .int .i64 1, .int .i64 2, .int .i64 2, .int .i64 4, .int .i64 4, .int .i64 8, .int .i64 8]) (ok := fun _ => True) (okp := fun _ => True) ?hr ?hp (fun _ hk => hk) trivial (Below.refl _ _) (Nat.le_refl _) (by simp) ?_; (case hd => rfl); (case hg => rfl); (case hr => first | (go_simp; done) | (go_simp; rfl)); (case hp => exact (Reps.one (show Kd.M (Kd.int .i64) _ _ _ 1 [.int .i64 1] from rfl) (Reps.one (show Kd.M (Kd.int .i64) _ _ _ 1 [.int .i64 1] from rfl) (Reps.one (show Kd.M (Kd.int .i64) _ _ _ 2 [.int .i64 2] from rfl) (Reps.one (show Kd.M (Kd.int .i64) _ _ _ 2 [.int .i64 2] from rfl) (Reps.one (show Kd.M (Kd.int .i64) _ _ _ 4 [.int .i64 4] from rfl) (Reps.one (show Kd.M (Kd.int .i64) _ _ _ 4 [.int .i64 4] from rfl) (Reps.one (show Kd.M (Kd.int .i64) _ _ _ 8 [.int .i64 8] from rfl) (Reps.one (show Kd.M (Kd.int .i64) _ _ _ 8 [.int .i64 8] from rfl) (Reps.none _ _)))))))))); intro v235 w32 ho33 hb hg_ hnew_; clear hg_ hnew_; (first | rw [← Ny234.out] at ho33 | (simp only [Int.reduceToNat] at ho33; rw [← Ny234.out] at ho33)); have n0_ := Aside0.mk (Kd.R_below (by (with_reducible repeat (first | apply Kd.R_alloc | apply Kd.R_drewN | apply Kd.R_drew)); exact HO_4.out) hb); have n1_ := Aside0.mk (Kd.R_lower ho33 (below_size (by repeat (first | (with_reducible first | exact HB.out | apply below_alloc | apply pw_below_drewN | apply below_drew1 | refine below_set ?_ GE225.out) | exact HB.out)))); have n2_ := Aside0.mk (blk_below (g := gb225) (o := .cells #[.int .i64 t219, .string t220, .int .i64 t221, .string t222, .string t223, .bool t224] 24 (0, 0)) (by (with_reducible repeat (first | refine blk_drewN ?_ _ | refine blk_drew ?_ | refine blk_alloc ?_ _)); exact BK225.out) hb); have n3_ := Aside0.mk (below_step (by repeat (first | (with_reducible first | exact HB.out | apply below_alloc | apply pw_below_drewN | apply below_drew1 | refine below_set ?_ GE225.out) | exact HB.out)) hb); clear HO_4; clear BK225; clear HB; have HO_4 := n0_; have HO236 := n1_; have BK225 := n2_; have HB := n3_; clear n0_ n1_ n2_ n3_; clear hb ho33; obtain ⟨Ao34, co34, eo34⟩ := Kd.R_slice HO236.out; subst eo34; have p237 : 0 ≤ (x5_3 : Int) := of_decide_eq_true (by first | (with_reducible assumption) | assumption); have q237 : x5_3 < (y234.length : Int) := of_decide_eq_true (by first | (with_reducible assumption) | assumption); obtain ⟨ad237, e237, hx237_0⟩ := Kd.at_int (Kd.R_reads' HO236.out).2.2 x5_3 p237 q237; cases e237; replace p237 := eq_true p237; replace q237 := eq_true q237))
             repeat (go_quiet (first | (go_at_call 38; (with_reducible refine (bodkinref05_has.calls k3 t220 (rdOf ByteArray.empty y229 x5_3) true _ A27.out (by repeat first | exact hG | refine GG.below hG ?_ | exact HB.out | exact Below.refl _ _ | assumption | apply below_alloc | apply pw_below_drewN | apply below_drew1 | refine below_set ?_ (Aside0.out (by assumption)))).mono ?_); rintro e w' ⟨rfl, ⟨nd, rfl⟩⟩; (try first | exact ⟨rfl, _, World.drewN_drewN _ _ _⟩ | exact ⟨rfl, _, Eq.trans (World.drewN_drewN _ _ _) (congrArg (World.drewN _) (Nat.add_assoc _ _ _))⟩)) | ((with_reducible refine gate_dst (N := 48) rfl ?_); refine Kd.R_lit (Kd.int .i64) _ 3 ?hg (N := 48) ?hd (xs := ([1, 1, 2, 2, 4, 4, 8, 8] : List Int)) (inner := [.int .i64 1, .int .i64 1, .int .i64 2, .int .i64 2, .int .i64 4, .int .i64 4, .int .i64 8, .int .i64 8]) (ok := fun _ => True) (okp := fun _ => True) ?hr ?hp (fun _ hk => hk) trivial (Below.refl _ _) (Nat.le_refl _) (by simp) ?_; (case hd => rfl); (case hg => rfl); (case hr => first | (go_simp; done) | (go_simp; rfl)); (case hp => exact (Reps.one (show Kd.M (Kd.int .i64) _ _ _ 1 [.int .i64 1] from rfl) (Reps.one (show Kd.M (Kd.int .i64) _ _ _ 1 [.int .i64 1] from rfl) (Reps.one (show Kd.M (Kd.int .i64) _ _ _ 2 [.int .i64 2] from rfl) (Reps.one (show Kd.M (Kd.int .i64) _ _ _ 2 [.int .i64 2] from rfl) (Reps.one (show Kd.M (Kd.int .i64) _ _ _ 4 [.int .i64 4] from rfl) (Reps.one (show Kd.M (Kd.int .i64) _ _ _ 4 [.int .i64 4] from rfl) (Reps.one (show Kd.M (Kd.int .i64) _ _ _ 8 [.int .i64 8] from rfl) (Reps.one (show Kd.M (Kd.int .i64) _ _ _ 8 [.int .i64 8] from rfl) (Reps.none _ _)))))))))); intro v235 w32 ho33 hb hg_ hnew_; clear hg_ hnew_; (first | rw [← Ny234.out] at ho33 | (simp only [Int.reduceToNat] at ho33; rw [← Ny234.out] at ho33)); have n0_ := Aside0.mk (Kd.R_below (by (with_reducible repeat (first | apply Kd.R_alloc | apply Kd.R_drewN | apply Kd.R_drew)); exact HO_4.out) hb); have n1_ := Aside0.mk (Kd.R_lower ho33 (below_size (by repeat (first | (with_reducible first | exact HB.out | apply below_alloc | apply pw_below_drewN | apply below_drew1 | refine below_set ?_ GE225.out) | exact HB.out)))); have n2_ := Aside0.mk (blk_below (g := gb225) (o := .cells #[.int .i64 t219, .string t220, .int .i64 t221, .string t222, .string t223, .bool t224] 24 (0, 0)) (by (with_reducible repeat (first | refine blk_drewN ?_ _ | refine blk_drew ?_ | refine blk_alloc ?_ _)); exact BK225.out) hb); have n3_ := Aside0.mk (below_step (by repeat (first | (with_reducible first | exact HB.out | apply below_alloc | apply pw_below_drewN | apply below_drew1 | refine below_set ?_ GE225.out) | exact HB.out)) hb); clear HO_4; clear BK225; clear HB; have HO_4 := n0_; have HO236 := n1_; have BK225 := n2_; have HB := n3_; clear n0_ n1_ n2_ n3_; clear hb ho33; obtain ⟨Ao34, co34, eo34⟩ := Kd.R_slice HO236.out; subst eo34; have p237 : 0 ≤ (x5_3 : Int) := of_decide_eq_true (by first | (with_reducible assumption) | assumption); have q237 : x5_3 < (y234.length : Int) := of_decide_eq_true (by first | (with_reducible assumption) | assumption); obtain ⟨ad237, e237, hx237_0⟩ := Kd.at_int (Kd.R_reads' HO236.out).2.2 x5_3 p237 q237; cases e237; replace p237 := eq_true p237; replace q237 := eq_true q237)); try go_wp2_with (first | (go_at_call 38; (with_reducible refine (bodkinref05_has.calls k3 t220 (rdOf ByteArray.empty y229 x5_3) true _ A27.out (by repeat first | exact hG | refine GG.below hG ?_ | exact HB.out | exact Below.refl _ _ | assumption | apply below_alloc | apply pw_below_drewN | apply below_drew1 | refine below_set ?_ (Aside0.out (by assumption)))).mono ?_); rintro e w' ⟨rfl, ⟨nd, rfl⟩⟩; (try first | exact ⟨rfl, _, World.drewN_drewN _ _ _⟩ | exact ⟨rfl, _, Eq.trans (World.drewN_drewN _ _ _) (congrArg (World.drewN _) (Nat.add_assoc _ _ _))⟩)) | ((with_reducible refine gate_dst (N := 48) rfl ?_); refine Kd.R_lit (Kd.int .i64) _ 3 ?hg (N := 48) ?hd (xs := ([1, 1, 2, 2, 4, 4, 8, 8] : List Int)) (inner := [.int .i64 1, .int .i64 1, .int .i64 2, .int .i64 2, .int .i64 4, .int .i64 4, .int .i64 8, .int .i64 8]) (ok := fun _ => True) (okp := fun _ => True) ?hr ?hp (fun _ hk => hk) trivial (Below.refl _ _) (Nat.le_refl _) (by simp) ?_; (case hd => rfl); (case hg => rfl); (case hr => first | (go_simp; done) | (go_simp; rfl)); (case hp => exact (Reps.one (show Kd.M (Kd.int .i64) _ _ _ 1 [.int .i64 1] from rfl) (Reps.one (show Kd.M (Kd.int .i64) _ _ _ 1 [.int .i64 1] from rfl) (Reps.one (show Kd.M (Kd.int .i64) _ _ _ 2 [.int .i64 2] from rfl) (Reps.one (show Kd.M (Kd.int .i64) _ _ _ 2 [.int .i64 2] from rfl) (Reps.one (show Kd.M (Kd.int .i64) _ _ _ 4 [.int .i64 4] from rfl) (Reps.one (show Kd.M (Kd.int .i64) _ _ _ 4 [.int .i64 4] from rfl) (Reps.one (show Kd.M (Kd.int .i64) _ _ _ 8 [.int .i64 8] from rfl) (Reps.one (show Kd.M (Kd.int .i64) _ _ _ 8 [.int .i64 8] from rfl) (Reps.none _ _)))))))))); intro v235 w32 ho33 hb hg_ hnew_; clear hg_ hnew_; (first | rw [← Ny234.out] at ho33 | (simp only [Int.reduceToNat] at ho33; rw [← Ny234.out] at ho33)); have n0_ := Aside0.mk (Kd.R_below (by (with_reducible repeat (first | apply Kd.R_alloc | apply Kd.R_drewN | apply Kd.R_drew)); exact HO_4.out) hb); have n1_ := Aside0.mk (Kd.R_lower ho33 (below_size (by repeat (first | (with_reducible first | exact HB.out | apply below_alloc | apply pw_below_drewN | apply below_drew1 | refine below_set ?_ GE225.out) | exact HB.out)))); have n2_ := Aside0.mk (blk_below (g := gb225) (o := .cells #[.int .i64 t219, .string t220, .int .i64 t221, .string t222, .string t223, .bool t224] 24 (0, 0)) (by (with_reducible repeat (first | refine blk_drewN ?_ _ | refine blk_drew ?_ | refine blk_alloc ?_ _)); exact BK225.out) hb); have n3_ := Aside0.mk (below_step (by repeat (first | (with_reducible first | exact HB.out | apply below_alloc | apply pw_below_drewN | apply below_drew1 | refine below_set ?_ GE225.out) | exact HB.out)) hb); clear HO_4; clear BK225; clear HB; have HO_4 := n0_; have HO236 := n1_; have BK225 := n2_; have HB := n3_; clear n0_ n1_ n2_ n3_; clear hb ho33; obtain ⟨Ao34, co34, eo34⟩ := Kd.R_slice HO236.out; subst eo34; have p237 : 0 ≤ (x5_3 : Int) := of_decide_eq_true (by first | (with_reducible assumption) | assumption); have q237 : x5_3 < (y234.length : Int) := of_decide_eq_true (by first | (with_reducible assumption) | assumption); obtain ⟨ad237, e237, hx237_0⟩ := Kd.at_int (Kd.R_reads' HO236.out).2.2 x5_3 p237 q237; cases e237; replace p237 := eq_true p237; replace q237 := eq_true q237)))
             go_ret
             exact ⟨by first | rfl | (simp [errW_none, errW_some] <;> rfl) | (simp [*, errW_none, errW_some] <;> rfl) | (rw [Int.tdiv_eq_ediv_of_nonneg] <;> first | rfl | decide) | (simp [errW_none, errW_some] <;> exact isEmpty_bne _), by repeat (first | (with_reducible first | exact HB.out | apply below_alloc | apply pw_below_drewN | apply below_drew1 | refine below_set ?_ GE225.out) | exact HB.out)⟩
            ·rw [if_neg c29] at H
             exact absurd H (by simp)
           ·replace c28 := Bool.eq_false_iff.mpr c28
            subst c28
            have H1 : (bodkinref05_Bytes.l0 k3 y229 (wrap64 (x5_3 + 1)) t219 t220 t221 t222 t223 t224) = some r := by rw [if_neg (show ¬ (false = true) by decide)] at H; exact H
            clear H
            have H := H1
            clear H1
            have H' := Aside0.mk H
            clear H
            obtain ⟨Ao35, co35, eo35⟩ := Kd.R_slice HO_4.out
            subst eo35
            have hcz36_0 : wr.cell? ⟨gb225, 0, none⟩ = some (.int .i64 t219) := (blk_cell BK225.out 0).trans rfl
            have hcz36_1 : wr.cell? ⟨gb225, 1, none⟩ = some (.string t220) := (blk_cell BK225.out 1).trans rfl
            have hcz36_2 : wr.cell? ⟨gb225, 2, none⟩ = some (.int .i64 t221) := (blk_cell BK225.out 2).trans rfl
            have hcz36_3 : wr.cell? ⟨gb225, 3, none⟩ = some (.string t222) := (blk_cell BK225.out 3).trans rfl
            have hcz36_4 : wr.cell? ⟨gb225, 4, none⟩ = some (.string t223) := (blk_cell BK225.out 4).trans rfl
            have hcz36_5 : wr.cell? ⟨gb225, 5, none⟩ = some (.bool t224) := (blk_cell BK225.out 5).trans rfl
            have hfz36_0 := blk_frozen BK225.out 0
            have hfz36_1 := blk_frozen BK225.out 1
            have hfz36_2 := blk_frozen BK225.out 2
            have hfz36_3 := blk_frozen BK225.out 3
            have hfz36_4 := blk_frozen BK225.out 4
            have hfz36_5 := blk_frozen BK225.out 5
            have p232 : 0 ≤ (x5_3 : Int) := of_decide_eq_true (by first | (with_reducible assumption) | assumption)
            have q232 : x5_3 < (y229.length : Int) := of_decide_eq_true (by first | (with_reducible assumption) | assumption)
            obtain ⟨ad232, e232, hx232_0⟩ := Kd.at_string (Kd.R_reads' HO_4.out).2.2 x5_3 p232 q232
            cases e232
            replace p232 := eq_true p232
            replace q232 := eq_true q232
            go_wp2_with (first | (go_at_call 38; (with_reducible refine (bodkinref05_has.calls k3 t220 (rdOf ByteArray.empty y229 x5_3) false _ A27.out (by repeat first | exact hG | refine GG.below hG ?_ | exact HB.out | exact Below.refl _ _ | assumption | apply below_alloc | apply pw_below_drewN | apply below_drew1 | refine below_set ?_ (Aside0.out (by assumption)))).mono ?_); rintro e w' ⟨rfl, ⟨nd, rfl⟩⟩; (try first | exact ⟨rfl, _, World.drewN_drewN _ _ _⟩ | exact ⟨rfl, _, Eq.trans (World.drewN_drewN _ _ _) (congrArg (World.drewN _) (Nat.add_assoc _ _ _))⟩)))
            repeat (go_quiet (first | (go_at_call 38; (with_reducible refine (bodkinref05_has.calls k3 t220 (rdOf ByteArray.empty y229 x5_3) false _ A27.out (by repeat first | exact hG | refine GG.below hG ?_ | exact HB.out | exact Below.refl _ _ | assumption | apply below_alloc | apply pw_below_drewN | apply below_drew1 | refine below_set ?_ (Aside0.out (by assumption)))).mono ?_); rintro e w' ⟨rfl, ⟨nd, rfl⟩⟩; (try first | exact ⟨rfl, _, World.drewN_drewN _ _ _⟩ | exact ⟨rfl, _, Eq.trans (World.drewN_drewN _ _ _) (congrArg (World.drewN _) (Nat.add_assoc _ _ _))⟩))); try go_wp2_with (first | (go_at_call 38; (with_reducible refine (bodkinref05_has.calls k3 t220 (rdOf ByteArray.empty y229 x5_3) false _ A27.out (by repeat first | exact hG | refine GG.below hG ?_ | exact HB.out | exact Below.refl _ _ | assumption | apply below_alloc | apply pw_below_drewN | apply below_drew1 | refine below_set ?_ (Aside0.out (by assumption)))).mono ?_); rintro e w' ⟨rfl, ⟨nd, rfl⟩⟩; (try first | exact ⟨rfl, _, World.drewN_drewN _ _ _⟩ | exact ⟨rfl, _, Eq.trans (World.drewN_drewN _ _ _) (congrArg (World.drewN _) (Nat.add_assoc _ _ _))⟩))))
            go_roundg k3
            case measure => have := HJ2.out; have := HJ12.out; have := HK3.out; omega
            case rel => exact ⟨(wrap64 (x5_3 + 1)), (by first | rfl | (simp; done) | (simp [*]; done)), H', ⟨by have := HJ2.out; have := HJ12.out; have := HK3.out; omega⟩, ⟨by (with_reducible repeat (first | apply Kd.R_alloc | apply Kd.R_drewN | apply Kd.R_drew)); exact HO_4.out⟩, ⟨by (with_reducible repeat (first | refine blk_drewN ?_ _ | refine blk_drew ?_ | refine blk_alloc ?_ _)); exact BK225.out⟩, ⟨by repeat (first | (with_reducible first | exact HB.out | apply below_alloc | apply pw_below_drewN | apply below_drew1 | refine below_set ?_ GE225.out) | exact HB.out)⟩⟩
          ·rw [if_neg c26] at H
           exact absurd H (by simp)
         ·rw [if_neg c25] at H
          have c25b0 : decide (x5_3 < (y229.length : Int)) = false := decide_eq_false c25
          clear c25
          by_cases c37 : 0 ≤ 3
          ·rw [if_pos c37] at H
           have c37b0 := eq_true c37
           have c37b1 : decide (0 ≤ 3) = true := decide_eq_true c37
           clear c37
           by_cases c38 : 3 ≤ (t220.size : Int)
           ·rw [if_pos c38] at H
            have c38b0 := eq_true c38
            have c38b1 : decide (3 ≤ (t220.size : Int)) = true := decide_eq_true c38
            clear c38
            have HC39 := Aside0.mk H
            clear H
            obtain ⟨Ao40, co40, eo40⟩ := Kd.R_slice HO_4.out
            subst eo40
            have hcz41_0 : wr.cell? ⟨gb225, 0, none⟩ = some (.int .i64 t219) := (blk_cell BK225.out 0).trans rfl
            have hcz41_1 : wr.cell? ⟨gb225, 1, none⟩ = some (.string t220) := (blk_cell BK225.out 1).trans rfl
            have hcz41_2 : wr.cell? ⟨gb225, 2, none⟩ = some (.int .i64 t221) := (blk_cell BK225.out 2).trans rfl
            have hcz41_3 : wr.cell? ⟨gb225, 3, none⟩ = some (.string t222) := (blk_cell BK225.out 3).trans rfl
            have hcz41_4 : wr.cell? ⟨gb225, 4, none⟩ = some (.string t223) := (blk_cell BK225.out 4).trans rfl
            have hcz41_5 : wr.cell? ⟨gb225, 5, none⟩ = some (.bool t224) := (blk_cell BK225.out 5).trans rfl
            have hfz41_0 := blk_frozen BK225.out 0
            have hfz41_1 := blk_frozen BK225.out 1
            have hfz41_2 := blk_frozen BK225.out 2
            have hfz41_3 := blk_frozen BK225.out 3
            have hfz41_4 := blk_frozen BK225.out 4
            have hfz41_5 := blk_frozen BK225.out 5
            go_upto_if 55 with (fail)
            repeat (go_quiet (fail); go_upto_if 55 with (fail))
            go_cut [55] (fun v55 wc => ∃ (kq : Nat) (x55_38 : Bool), v55 = .bool x55_38 ∧ Aside0 (bodkinref05_Bytes.j3 kq (t220.extract 0 3) x55_38 = some r) ∧ Aside0 (kq ≤ k3) ∧ Aside0 (wc.heap[gb225]? = some (.cells #[.int .i64 t219, .string t220, .int .i64 t221, .string t222, .string t223, .bool t224] 24 (0, 0))) ∧ Aside0 (Below w.heap.size w wc))
            case first =>
             have H := HC39.out
             clear HC39
             by_cases c42 : (t220.extract 0 3).toList = ([105, 54, 52] : List UInt8)
             ·rw [if_pos c42] at H
              have c42b0 : ((t220.extract 0 3).toList == ([105, 54, 52] : List UInt8)) = true := beq_iff_eq.mpr c42
              have c42b1 : ((t220.extract 0 3).toList != ([105, 54, 52] : List UInt8)) = false := bne_eq_false_iff_eq.mpr c42
              clear c42
              (first | rw [c42b0] | (simp only [i64_w, i32_w]; rw [c42b0]) | skip)
              have H' := Aside0.mk H
              clear H
              go_wp2
              repeat (go_quiet (fail); try go_wp2)
              go_meet
              case rel => exact ⟨_, (((t220.extract 0 3).toList == ([105, 54, 52] : List UInt8))), (by first | rfl | (simp; done) | (simp [*]; done)), H', ⟨by have := HJ2.out; have := HJ12.out; have := HK3.out; first | omega | exact Nat.le_refl _⟩, ⟨by (with_reducible repeat (first | refine blk_drewN ?_ _ | refine blk_drew ?_ | refine blk_alloc ?_ _)); exact BK225.out⟩, ⟨by repeat (first | (with_reducible first | exact HB.out | apply below_alloc | apply pw_below_drewN | apply below_drew1 | refine below_set ?_ GE225.out) | exact HB.out)⟩⟩
             ·rw [if_neg c42] at H
              have c42b0 : ((t220.extract 0 3).toList == ([105, 54, 52] : List UInt8)) = false := beq_eq_false_iff_ne.mpr c42
              have c42b1 : ((t220.extract 0 3).toList != ([105, 54, 52] : List UInt8)) = true := bne_iff_ne.mpr c42
              (first | rw [c42b0] | (simp only [i64_w, i32_w]; rw [c42b0]) | skip)
              have H' := Aside0.mk H
              clear H
              go_wp2
              repeat (go_quiet (fail); try go_wp2)
              go_meet
              case rel => exact ⟨_, (((t220.extract 0 3).toList == ([102, 54, 52] : List UInt8))), (by first | rfl | (simp; done) | (simp [*]; done)), H', ⟨by have := HJ2.out; have := HJ12.out; have := HK3.out; first | omega | exact Nat.le_refl _⟩, ⟨by (with_reducible repeat (first | refine blk_drewN ?_ _ | refine blk_drew ?_ | refine blk_alloc ?_ _)); exact BK225.out⟩, ⟨by repeat (first | (with_reducible first | exact HB.out | apply below_alloc | apply pw_below_drewN | apply below_drew1 | refine below_set ?_ GE225.out) | exact HB.out)⟩⟩
            case rest =>
             clear HC39
             try clear c1
             try clear c2
             try clear p2
             try clear q2
             try clear hx2
             try clear c3
             try clear c4
             try clear p6
             try clear c7
             try clear c7b0
             try clear c9
             try clear c9b0
             try clear c9b1
             try clear c12
             try clear c15
             try clear c18
             try clear c22
             try clear p23
             try clear q23
             try clear hx23
             try clear c25
             try clear c25b0
             try clear c26
             try clear c26b0
             try clear c28
             try clear c29
             try clear c29b0
             try clear c37
             try clear c37b0
             try clear c37b1
             try clear c38
             try clear c38b0
             try clear c38b1
             try clear c42
             try clear c42b0
             try clear c42b1
             try clear hcz10_0
             try clear hcz10_1
             try clear hcz10_2
             try clear hcz10_3
             try clear hcz10_4
             try clear hcz10_5
             try clear hcz11_0
             try clear hcz11_1
             try clear hcz11_2
             try clear hcz11_3
             try clear hcz11_4
             try clear hcz11_5
             try clear hcz16_0
             try clear hcz16_1
             try clear hcz16_2
             try clear hcz16_3
             try clear hcz16_4
             try clear hcz16_5
             try clear hcz19_0
             try clear hcz19_1
             try clear hcz19_2
             try clear hcz19_3
             try clear hcz19_4
             try clear hcz19_5
             try clear hcz21_0
             try clear hcz21_1
             try clear hcz21_2
             try clear hcz21_3
             try clear hcz21_4
             try clear hcz21_5
             try clear hcz31_0
             try clear hcz31_1
             try clear hcz31_2
             try clear hcz31_3
             try clear hcz31_4
             try clear hcz31_5
             try clear hcz36_0
             try clear hcz36_1
             try clear hcz36_2
             try clear hcz36_3
             try clear hcz36_4
             try clear hcz36_5
             try clear hcz41_0
             try clear hcz41_1
             try clear hcz41_2
             try clear hcz41_3
             try clear hcz41_4
             try clear hcz41_5
             try clear hcz6_0
             try clear hcz6_1
             try clear hcz6_2
             try clear hcz6_3
             try clear hcz6_4
             try clear hcz6_5
             try clear hcz8_0
             try clear hcz8_1
             try clear hcz8_2
             try clear hcz8_3
             try clear hcz8_4
             try clear hcz8_5
             try clear hfz10_0
             try clear hfz10_1
             try clear hfz10_2
             try clear hfz10_3
             try clear hfz10_4
             try clear hfz10_5
             try clear hfz11_0
             try clear hfz11_1
             try clear hfz11_2
             try clear hfz11_3
             try clear hfz11_4
             try clear hfz11_5
             try clear hfz16_0
             try clear hfz16_1
             try clear hfz16_2
             try clear hfz16_3
             try clear hfz16_4
             try clear hfz16_5
             try clear hfz19_0
             try clear hfz19_1
             try clear hfz19_2
             try clear hfz19_3
             try clear hfz19_4
             try clear hfz19_5
             try clear hfz21_0
             try clear hfz21_1
             try clear hfz21_2
             try clear hfz21_3
             try clear hfz21_4
             try clear hfz21_5
             try clear hfz31_0
             try clear hfz31_1
             try clear hfz31_2
             try clear hfz31_3
             try clear hfz31_4
             try clear hfz31_5
             try clear hfz36_0
             try clear hfz36_1
             try clear hfz36_2
             try clear hfz36_3
             try clear hfz36_4
             try clear hfz36_5
             try clear hfz41_0
             try clear hfz41_1
             try clear hfz41_2
             try clear hfz41_3
             try clear hfz41_4
             try clear hfz41_5
             try clear hfz6_0
             try clear hfz6_1
             try clear hfz6_2
             try clear hfz6_3
             try clear hfz6_4
             try clear hfz6_5
             try clear hfz8_0
             try clear hfz8_1
             try clear hfz8_2
             try clear hfz8_3
             try clear hfz8_4
             try clear hfz8_5
             try clear hx232_0
             try clear hx237_0
             try clear p2
             try clear p232
             try clear p237
             try clear q232
             try clear q237
             obtain ⟨kq, x55_38, rfl, HA, HJ38, BK225, HB⟩ := hcut
             cases kq with
             | zero => exact absurd HA.out (by simp [bodkinref05_Bytes.j3])
             | succ kj38 =>
              have H := HA.out
              clear HA
              simp only [bodkinref05_Bytes.j3] at H
              by_cases c43 : x55_38 = true
              ·subst c43
               have H1 : (some 8) = some r := by rw [if_pos rfl] at H; exact H
               clear H
               have H := H1
               clear H1
               obtain rfl := Option.some.inj H
               go_wp2
               repeat (go_quiet (fail); try go_wp2)
               go_ret
               exact ⟨by first | rfl | (simp [errW_none, errW_some] <;> rfl) | (simp [*, errW_none, errW_some] <;> rfl) | (rw [Int.tdiv_eq_ediv_of_nonneg] <;> first | rfl | decide) | (simp [errW_none, errW_some] <;> exact isEmpty_bne _), by repeat (first | (with_reducible first | exact HB.out | apply below_alloc | apply pw_below_drewN | apply below_drew1 | refine below_set ?_ GE225.out) | exact HB.out)⟩
              ·replace c43 := Bool.eq_false_iff.mpr c43
               subst c43
               have H1 : (if (t220.extract 0 3).toList = ([118, 49, 50] : List UInt8) then (some 16) else (some 4)) = some r := by rw [if_neg (show ¬ (false = true) by decide)] at H; exact H
               clear H
               have H := H1
               clear H1
               by_cases c44 : (t220.extract 0 3).toList = ([118, 49, 50] : List UInt8)
               ·rw [if_pos c44] at H
                have c44b0 : ((t220.extract 0 3).toList == ([118, 49, 50] : List UInt8)) = true := beq_iff_eq.mpr c44
                have c44b1 : ((t220.extract 0 3).toList != ([118, 49, 50] : List UInt8)) = false := bne_eq_false_iff_eq.mpr c44
                clear c44
                obtain rfl := Option.some.inj H
                go_wp2
                repeat (go_quiet (fail); try go_wp2)
                go_ret
                exact ⟨by first | rfl | (simp [errW_none, errW_some] <;> rfl) | (simp [*, errW_none, errW_some] <;> rfl) | (rw [Int.tdiv_eq_ediv_of_nonneg] <;> first | rfl | decide) | (simp [errW_none, errW_some] <;> exact isEmpty_bne _), by repeat (first | (with_reducible first | exact HB.out | apply below_alloc | apply pw_below_drewN | apply below_drew1 | refine below_set ?_ GE225.out) | exact HB.out)⟩
               ·rw [if_neg c44] at H
                have c44b0 : ((t220.extract 0 3).toList == ([118, 49, 50] : List UInt8)) = false := beq_eq_false_iff_ne.mpr c44
                have c44b1 : ((t220.extract 0 3).toList != ([118, 49, 50] : List UInt8)) = true := bne_iff_ne.mpr c44
                obtain rfl := Option.some.inj H
                go_wp2
                repeat (go_quiet (fail); try go_wp2)
                go_ret
                exact ⟨by first | rfl | (simp [errW_none, errW_some] <;> rfl) | (simp [*, errW_none, errW_some] <;> rfl) | (rw [Int.tdiv_eq_ediv_of_nonneg] <;> first | rfl | decide) | (simp [errW_none, errW_some] <;> exact isEmpty_bne _), by repeat (first | (with_reducible first | exact HB.out | apply below_alloc | apply pw_below_drewN | apply below_drew1 | refine below_set ?_ GE225.out) | exact HB.out)⟩
           ·rw [if_neg c38] at H
            exact absurd H (by simp)
          ·rw [if_neg c37] at H
           exact absurd H (by simp)

end Go.Proofs.YtiopaclofkncaaaDoor.POps
