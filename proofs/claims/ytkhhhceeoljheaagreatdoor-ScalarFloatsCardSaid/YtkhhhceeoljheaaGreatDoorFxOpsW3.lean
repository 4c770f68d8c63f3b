import Derived.Test.YtkhhhceeoljheaaGreatDoorFxOpsW2
import Derived.Test.YtkhhhceeoljheaaGreatDoorFxWMore
namespace Go.Proofs.YtkhhhceeoljheaaGreatDoor
open Go.RowKit Go.Great Go.Proofs.YtkhhhceeoljheaaGreatDoorW.PrintWords Go.Proofs.YtkhhhceeoljheaaGreatDoorW.PrintLast Go.Proofs.YtkhhhceeoljheaaGreatDoorW.PrintMore
def letterOf (c : Int) : Int := if c = 105 then 127 else if c = 108 then 126 else if c = 102 then 125 else if c = 100 then 124 else if c = 118 then 123 else 112
def typesTo (s : ByteArray) (k : Nat) : List Int := (List.range k).map fun (j : Nat) => letterOf (bt s (Int.ofNat j))
theorem typesTo_succ (s : ByteArray) (k : Nat) : typesTo s (k + 1) = typesTo s k ++ [letterOf (bt s (k : Int))] := by simp only [typesTo, List.range_succ, List.map_append, List.map_cons, List.map_nil]; rfl
theorem typesTo_length (s : ByteArray) (k : Nat) : (typesTo s k).length = k := by simp [typesTo]
theorem cntF_le : ∀ (l : List UInt8) (ws : Bool), Lib.cntF ws l ≤ l.length
  | [], _ => by simp [Lib.cntF]
  | b :: l, ws => by
    have := cntF_le l (Lib.isSp b); simp only [Lib.cntF, List.length_cons]; split <;> omega
theorem fields_small (l : List UInt8) : (Lib.fields l).length ≤ l.length := by rw [Lib.fields_length]; exact cntF_le l true
theorem info3q : (Tryz.prog.info? 3).map (fun i => (i.zero, i.size, i.bytes)) = some (some (.int .i64 0), 1, 8) := by kernel_rfl
set_option maxRecDepth 100000 in
set_option maxHeartbeats 4000000 in
theorem types_calls (s : ByteArray) (hs : s.size ≤ 1000) (w : World) :
    Calls Tryz.prog 44 #[.string s] w fun e w' => ∃ v0_ : Value, e = .returned v0_ ∧ Kd.R (Kd.int .i64) 3 w' w.heap.size (fun _ => True) v0_ (typesTo s s.size) ∧ Below w.heap.size w w' := by
  have hmk := fun W => print_bytes (P := Tryz.prog) 9 57 5 Tryz.underlying9 Tryz.underlying57 Tryz.underlying5 s W
  have HR := Lib.hid (bytes_reads w 5 s (by omega)); have HB0 := Lib.hid (bytes_below (Below.refl w.heap.size w) (Nat.le_refl _) 5 s); have HS := Lib.hid (Lib.bytesWorld_size w 5 s); go_enter Tryz.func44, Tryz.ntmps44
  go_wp2
  generalize Lib.bytesWorld w 5 s = W1 at *; have H0 : Aside0 (Below W1.heap.size W1 W1) := ⟨Below.refl _ _⟩
  go_loopw [3, 9] (fun v3 v9 w' => ∃ k : Nat, k ≤ s.size ∧ v9 = .int .i64 k ∧ Aside0 (Kd.R (Kd.int .i64) 3 w' W1.heap.size (fun _ => True) v3 (typesTo s k)) ∧ Aside0 (Below W1.heap.size W1 w')) (fun _ v9 _ => s.size - (intOf v9).toNat)
  case atStart => exact ⟨0, Nat.zero_le _, rfl, ⟨Kd.R_nil _ _ _ _ _⟩, H0⟩
  case round =>
    obtain ⟨k, hk, rfl, HO, HB⟩ := hrel; by_cases hlt : k < s.size
    · have HT := Lib.hid (typesTo_succ s k)
      have HL := Lib.hid (typesTo_length s k)
      have hcell : wr.cell? ⟨w.heap.size, k, none⟩ = some (.int .u8 (bt s k)) := by
        have h1 := HR.out.2.2 (by omega); obtain ⟨ad, ea, hc⟩ := h1; obtain rfl := Option.some.inj ea; have h2 := hc k (by have := HR.out.1; omega); rw [add_plain] at h2; have h3 : (bytesOf s).getD k 0 = bt s k := by have := rd_bytesOf s (k : Int); simpa [rd] using this
        rw [h3] at h2; exact (HB.out.cell (World.block_lt_of_cell? W1 _ h2)).trans h2
      have hb255 := bt_range s k; generalize hbt : bt s k = c at *; clear hbt; have hltB : decide ((k : Int) < (s.size : Int)) = true := by simp; omega
      by_cases c0 : c = 105
      · have hl0 : letterOf c = 127 := by simp [letterOf, c0]
        have HLt := Lib.hid hl0; clear hl0; have cb : (c == 105) = true := by simpa using c0
        clear c0; go_wp2_with (first | ((with_reducible refine gate_builtin (b := .append) (xs := #[.tmp 19, .tmp 20]) rfl ?_); at_builtin; refine Kd.R_append (Kd.int .i64) (w0 := W1) W1.heap.size rfl (.tmp 19) (.tmp 20) 28 3 (.int .i64 0) 8 rfl Tryz.underlying28 info3q rfl (by decide) (by omega) _ (typesTo s k) 127 [.int .i64 127] (fun _ => True) (fun _ => False) rfl rfl ?aP (fun _ hk => hk.elim) ?aF ?aO ?aB ?aS ?aL ?_; (case aP => exact rfl); (case aB => exact HB.out); (case aF => exact (fun _ _ => trivial)); (case aO => exact HO.out); (case aS => exact HB.out.size); (case aL => rw [HL.out]; omega); intro v117 w7 ho hb hg hat; have HO2 := Aside0.mk ho; have HB2 := Aside0.mk hb; clear ho hb hg hat))
        go_roundw
        case measure => simp [intOf]; omega
        case rel => exact ⟨k + 1, by omega, by go_num, ⟨by rw [HT.out, HLt.out]; exact HO2.out⟩, HB2⟩
      have n0 : (c == 105) = false := by simpa using c0
      by_cases c1 : c = 108
      · have hl1 : letterOf c = 126 := by simp [letterOf, c1]
        have HLt := Lib.hid hl1; clear hl1; have cb : (c == 108) = true := by simpa using c1
        clear c1; go_wp2_with (first | ((with_reducible refine gate_builtin (b := .append) (xs := #[.tmp 24, .tmp 25]) rfl ?_); at_builtin; refine Kd.R_append (Kd.int .i64) (w0 := W1) W1.heap.size rfl (.tmp 24) (.tmp 25) 28 3 (.int .i64 0) 8 rfl Tryz.underlying28 info3q rfl (by decide) (by omega) _ (typesTo s k) 126 [.int .i64 126] (fun _ => True) (fun _ => False) rfl rfl ?aP (fun _ hk => hk.elim) ?aF ?aO ?aB ?aS ?aL ?_; (case aP => exact rfl); (case aB => exact HB.out); (case aF => exact (fun _ _ => trivial)); (case aO => exact HO.out); (case aS => exact HB.out.size); (case aL => rw [HL.out]; omega); intro v117 w7 ho hb hg hat; have HO2 := Aside0.mk ho; have HB2 := Aside0.mk hb; clear ho hb hg hat))
        go_roundw
        case measure => simp [intOf]; omega
        case rel => exact ⟨k + 1, by omega, by go_num, ⟨by rw [HT.out, HLt.out]; exact HO2.out⟩, HB2⟩
      have n1 : (c == 108) = false := by simpa using c1
      by_cases c2 : c = 102
      · have hl2 : letterOf c = 125 := by simp [letterOf, c2]
        have HLt := Lib.hid hl2; clear hl2; have cb : (c == 102) = true := by simpa using c2
        clear c2; go_wp2_with (first | ((with_reducible refine gate_builtin (b := .append) (xs := #[.tmp 29, .tmp 30]) rfl ?_); at_builtin; refine Kd.R_append (Kd.int .i64) (w0 := W1) W1.heap.size rfl (.tmp 29) (.tmp 30) 28 3 (.int .i64 0) 8 rfl Tryz.underlying28 info3q rfl (by decide) (by omega) _ (typesTo s k) 125 [.int .i64 125] (fun _ => True) (fun _ => False) rfl rfl ?aP (fun _ hk => hk.elim) ?aF ?aO ?aB ?aS ?aL ?_; (case aP => exact rfl); (case aB => exact HB.out); (case aF => exact (fun _ _ => trivial)); (case aO => exact HO.out); (case aS => exact HB.out.size); (case aL => rw [HL.out]; omega); intro v117 w7 ho hb hg hat; have HO2 := Aside0.mk ho; have HB2 := Aside0.mk hb; clear ho hb hg hat))
        go_roundw
        case measure => simp [intOf]; omega
        case rel => exact ⟨k + 1, by omega, by go_num, ⟨by rw [HT.out, HLt.out]; exact HO2.out⟩, HB2⟩
      have n2 : (c == 102) = false := by simpa using c2
      by_cases c3 : c = 100
      · have hl3 : letterOf c = 124 := by simp [letterOf, c3]
        have HLt := Lib.hid hl3; clear hl3; have cb : (c == 100) = true := by simpa using c3
        clear c3; go_wp2_with (first | ((with_reducible refine gate_builtin (b := .append) (xs := #[.tmp 34, .tmp 35]) rfl ?_); at_builtin; refine Kd.R_append (Kd.int .i64) (w0 := W1) W1.heap.size rfl (.tmp 34) (.tmp 35) 28 3 (.int .i64 0) 8 rfl Tryz.underlying28 info3q rfl (by decide) (by omega) _ (typesTo s k) 124 [.int .i64 124] (fun _ => True) (fun _ => False) rfl rfl ?aP (fun _ hk => hk.elim) ?aF ?aO ?aB ?aS ?aL ?_; (case aP => exact rfl); (case aB => exact HB.out); (case aF => exact (fun _ _ => trivial)); (case aO => exact HO.out); (case aS => exact HB.out.size); (case aL => rw [HL.out]; omega); intro v117 w7 ho hb hg hat; have HO2 := Aside0.mk ho; have HB2 := Aside0.mk hb; clear ho hb hg hat))
        go_roundw
        case measure => simp [intOf]; omega
        case rel => exact ⟨k + 1, by omega, by go_num, ⟨by rw [HT.out, HLt.out]; exact HO2.out⟩, HB2⟩
      have n3 : (c == 100) = false := by simpa using c3
      by_cases c4 : c = 118
      · have hl4 : letterOf c = 123 := by simp [letterOf, c4]
        have HLt := Lib.hid hl4; clear hl4; have cb : (c == 118) = true := by simpa using c4
        clear c4; go_wp2_with (first | ((with_reducible refine gate_builtin (b := .append) (xs := #[.tmp 39, .tmp 40]) rfl ?_); at_builtin; refine Kd.R_append (Kd.int .i64) (w0 := W1) W1.heap.size rfl (.tmp 39) (.tmp 40) 28 3 (.int .i64 0) 8 rfl Tryz.underlying28 info3q rfl (by decide) (by omega) _ (typesTo s k) 123 [.int .i64 123] (fun _ => True) (fun _ => False) rfl rfl ?aP (fun _ hk => hk.elim) ?aF ?aO ?aB ?aS ?aL ?_; (case aP => exact rfl); (case aB => exact HB.out); (case aF => exact (fun _ _ => trivial)); (case aO => exact HO.out); (case aS => exact HB.out.size); (case aL => rw [HL.out]; omega); intro v117 w7 ho hb hg hat; have HO2 := Aside0.mk ho; have HB2 := Aside0.mk hb; clear ho hb hg hat))
        go_roundw
        case measure => simp [intOf]; omega
        case rel => exact ⟨k + 1, by omega, by go_num, ⟨by rw [HT.out, HLt.out]; exact HO2.out⟩, HB2⟩
      have n4 : (c == 118) = false := by simpa using c4
      have hl : letterOf c = 112 := by simp [letterOf, c0, c1, c2, c3, c4]
      have HLt := Lib.hid hl; clear hl c0 c1 c2 c3 c4; go_wp2_with (first | ((with_reducible refine gate_builtin (b := .append) (xs := #[.tmp 14, .tmp 15]) rfl ?_); at_builtin; refine Kd.R_append (Kd.int .i64) (w0 := W1) W1.heap.size rfl (.tmp 14) (.tmp 15) 28 3 (.int .i64 0) 8 rfl Tryz.underlying28 info3q rfl (by decide) (by omega) _ (typesTo s k) 112 [.int .i64 112] (fun _ => True) (fun _ => False) rfl rfl ?aP (fun _ hk => hk.elim) ?aF ?aO ?aB ?aS ?aL ?_; (case aP => exact rfl); (case aB => exact HB.out); (case aF => exact (fun _ _ => trivial)); (case aO => exact HO.out); (case aS => exact HB.out.size); (case aL => rw [HL.out]; omega); intro v117 w7 ho hb hg hat; have HO2 := Aside0.mk ho; have HB2 := Aside0.mk hb; clear ho hb hg hat))
      go_roundw
      case measure => simp [intOf]; omega
      case rel => exact ⟨k + 1, by omega, by go_num, ⟨by rw [HT.out, HLt.out]; exact HO2.out⟩, HB2⟩
    · obtain rfl : k = s.size := by omega
      go_wp2
      go_ret; exact ⟨_, rfl, Kd.R_lower HO.out (by rw [HS.out]; omega), HB0.out.trans (HB.out.mono (by rw [HS.out]; omega))⟩
end Go.Proofs.YtkhhhceeoljheaaGreatDoor
