import Derived.Test.YtkhhhceeoljheaaGreatDoorHxPHelx16
import Derived.Laws.Bits64
import Derived.Test.YtkhhhceeoljheaaGreatDoorHxFlI
import Derived.Lib.ItoaNum
set_option linter.unusedVariables false
set_option linter.unusedSimpArgs false
namespace Go.Proofs.YtkhhhceeoljheaaGreatDoor.Pure
open Go.RowKit Go.Proofs.YtkhhhceeoljheaaGreatDoorW.PrintWords Go.Proofs.YtkhhhceeoljheaaGreatDoorW.PrintLast Go.Proofs.YtkhhhceeoljheaaGreatDoorW.PrintMore Go.Proofs.YtkhhhceeoljheaaGreatDoor.PHel
theorem wu (n : Int) : IntKind.u64.wrap n = n % 18446744073709551616 := IntKind.wrap_u64 n
theorem wu_id {n : Int} (h0 : 0 ≤ n) (h1 : n < 18446744073709551616) : IntKind.u64.wrap n = n := by rw [wu]; omega
theorem w64_id {n : Int} (h0 : -9223372036854775808 ≤ n) (h1 : n < 9223372036854775808) : wrap64 n = n := by unfold wrap64; omega
theorem two_pow_le {i n : Nat} (h : i ≤ n) : 2 ^ i ≤ 2 ^ n := Nat.pow_le_pow_right (by omega) h
theorem tmod_nat (a b : Nat) : Int.tmod (a : Int) (b : Int) = ((a % b : Nat) : Int) := by
  rw [Int.tmod_eq_emod_of_nonneg (by omega)]; rfl
theorem cut_l0 (n a : Nat) (hn : n < 64) : ∀ (d k i : Nat), i + d = n → d < k → bodkinref02_Cut.l0 k n a ((2 ^ i : Nat) : Int) i = some ((a % 2 ^ n : Nat) : Int)
  | 0, k, i, h, hk => by
    obtain ⟨k, rfl⟩ : ∃ m, k = m + 1 := ⟨k - 1, by omega⟩
    obtain rfl : i = n := by omega
    have hp : 0 < 2 ^ i := Nat.two_pow_pos i
    simp only [bodkinref02_Cut.l0]
    rw [if_neg (by omega), if_neg (by omega), tmod_nat]
  | d + 1, k, i, h, hk => by
    obtain ⟨k, rfl⟩ : ∃ m, k = m + 1 := ⟨k - 1, by omega⟩
    have hp : 2 ^ (i + 1) ≤ 2 ^ 63 := two_pow_le (by omega)
    have ih := cut_l0 n a hn d k (i + 1) (by omega) (by omega)
    have e1 : IntKind.u64.wrap (((2 ^ i : Nat) : Int) * 2) = ((2 ^ (i + 1) : Nat) : Int) := by
      rw [wu, Nat.pow_succ]
      rw [Nat.pow_succ] at hp
      generalize 2 ^ i = p at *
      omega
    have e2 : wrap64 ((i : Int) + 1) = ((i + 1 : Nat) : Int) := by rw [w64_id (by omega) (by omega)]; rfl
    simp only [bodkinref02_Cut.l0]
    rw [if_pos (by omega), e1, e2]
    exact ih
theorem cut_f (n a k : Nat) (hn : n ≤ 64) (ha : a < 18446744073709551616) (hk : n + 1 < k) : bodkinref02_Cut.f k n a = some ((a % 2 ^ n : Nat) : Int) := by
  unfold bodkinref02_Cut.f
  by_cases c : (n : Int) = 64
  · rw [if_pos c]
    obtain rfl : n = 64 := by omega
    rw [Nat.mod_eq_of_lt (by simpa using ha)]
  · rw [if_neg c]
    exact cut_l0 n a (by omega) n k 0 (by omega) (by omega)
theorem wu64 (n : Int) (h0 : 0 ≤ n) (h1 : n < 2 ^ 64) : IntKind.u64.wrap n = n := wu_id h0 (by omega)
theorem andN (a b : Nat) (ha : a < 18446744073709551616) (hb : b < 18446744073709551616) : Go.bits .and .u64 (a : Int) (b : Int) = ((a &&& b : Nat) : Int) := (bits_nat .u64 64 (by decide) wu64 a b (by omega) (by omega)).1
theorem orN (a b : Nat) (ha : a < 18446744073709551616) (hb : b < 18446744073709551616) : Go.bits .or .u64 (a : Int) (b : Int) = ((a ||| b : Nat) : Int) := (bits_nat .u64 64 (by decide) wu64 a b (by omega) (by omega)).2
def msk (n : Nat) : Int := ((2 ^ n - 1 : Nat) : Int)
theorem andm (n : Nat) (hn : n = 32 ∨ n = 64) (a : Nat) (ha : a < 18446744073709551616) : Go.bits .and .u64 (a : Int) (msk n) = ((a % 2 ^ n : Nat) : Int) := by
  unfold msk
  rw [andN a _ ha (by rcases hn with rfl | rfl <;> decide), Nat.and_two_pow_sub_one_eq_mod]
theorem pow_cast (m : Nat) : (2 : Int) ^ m = ((2 ^ m : Nat) : Int) := by simp
theorem shl_n (a s : Nat) (hs : s ≤ 64) : shl .u64 (a : Int) (s : Int) = IntKind.u64.wrap ((a * 2 ^ s : Nat) : Int) := by
  show IntKind.u64.wrap ((a : Int) * 2 ^ min ((s : Int)).toNat 64) = _
  rw [Int.toNat_natCast, Nat.min_eq_left hs, pow_cast, Int.natCast_mul]
theorem shr_n (k : IntKind) (hk : k.bits = 64) (x : Int) (s : Nat) (hs : s ≤ 64) : shr k x (s : Int) = x / ((2 ^ s : Nat) : Int) := by
  unfold shr
  rw [hk, Int.toNat_natCast, Nat.min_eq_left hs, pow_cast]
end Go.Proofs.YtkhhhceeoljheaaGreatDoor.Pure
set_option linter.unusedVariables false
set_option linter.unusedSimpArgs false
namespace Go.Proofs.YtkhhhceeoljheaaGreatDoor.Pure
open Go.RowKit Go.Proofs.YtkhhhceeoljheaaGreatDoorW.PrintWords Go.Proofs.YtkhhhceeoljheaaGreatDoorW.PrintLast Go.Proofs.YtkhhhceeoljheaaGreatDoorW.PrintMore Go.Proofs.YtkhhhceeoljheaaGreatDoor.PHel
theorem lift {α : Type} (f : Nat → Option α) (hm : ∀ k, LeO (f k) (f (k + 1))) (r : α) (K : Nat) (h : f K = some r) : ∀ k, K ≤ k → f k = some r := by
  intro k hk
  obtain ⟨d, rfl⟩ : ∃ d, k = K + d := ⟨k - K, by omega⟩
  clear hk
  induction d with
  | zero => exact h
  | succ d ih => exact hm _ r ih
def good (t : Int) : Prop := t = 127 ∨ t = 126 ∨ t = 125 ∨ t = 124
def nb (t : Int) : Nat := if t = 127 ∨ t = 125 then 32 else 64
def cl (t : Int) (a : Nat) : Nat := if t = 127 ∨ t = 125 then a % 4294967296 else a
theorem cl_lt (t : Int) (a : Nat) (h : a < 18446744073709551616) : cl t a < 18446744073709551616 := by unfold cl; split <;> omega
theorem w01 : wrap64 (0 + 1) = 1 := w64_id (by decide) (by decide)
theorem w11 : wrap64 (1 + 1) = 2 := w64_id (by decide) (by decide)
theorem and32 (a : Nat) (ha : a < 18446744073709551616) : Go.bits .and .u64 (a : Int) 4294967295 = ((a % 4294967296 : Nat) : Int) := andm 32 (by omega) a ha
theorem clean_v (t : Int) (g : good t) (a : Nat) (h : Int) (nl : Bool) (xs ys : List S33) (k m i : Nat) (ha : a < 18446744073709551616) (hi : i < 100) (hm : i < m) (hx : xs.length < 100) (hlen : ys.length = m) (hy : rd_T33 ys (i : Int) = ⟨t, (a : Int), h, nl⟩) :
    scalar_clean.l0 (k + 2) xs ys (m : Int) (i : Int) = scalar_clean.l0 k (xs ++ [⟨t, (cl t a : Int), 0, false⟩]) ys (m : Int) ((i + 1 : Nat) : Int) := by
  have e2 : wrap64 ((i : Int) + 1) = ((i + 1 : Nat) : Int) := by rw [w64_id (by omega) (by omega)]; rfl
  simp only [scalar_clean.l0]
  rw [if_pos (by omega), if_pos (by omega), if_pos (by omega), hy]
  rcases g with rfl | rfl | rfl | rfl
  · simp only [↓reduceIte, scalar_clean.j1, BEq.rfl]
    rw [if_pos (by omega), and32 a ha, e2]; rfl
  · simp only [↓reduceIte, scalar_clean.j1, Int.reduceEq, Int.reduceBEq, Bool.false_eq_true]
    rw [if_pos (by omega), e2]; rfl
  · simp only [↓reduceIte, scalar_clean.j1, Int.reduceEq, Int.reduceBEq, Bool.false_eq_true]
    rw [if_pos (by omega), and32 a ha, e2]; rfl
  · simp only [↓reduceIte, scalar_clean.j1, Int.reduceEq, Int.reduceBEq, Bool.false_eq_true]
    rw [if_pos (by omega), e2]; rfl
theorem clean_end (xs ys : List S33) (k m : Nat) : scalar_clean.l0 (k + 1) xs ys (m : Int) (m : Int) = some xs := by
  simp only [scalar_clean.l0]
  rw [if_neg (by omega)]
theorem clean1 (t : Int) (g : good t) (a : Nat) (h : Int) (nl : Bool) (k : Nat) (ha : a < 18446744073709551616) : scalar_clean.f (k + 3) [⟨t, (a : Int), h, nl⟩] = some [⟨t, (cl t a : Int), 0, false⟩] := by
  unfold scalar_clean.f
  have h := clean_v t g a h nl [] [⟨t, (a : Int), h, nl⟩] (k + 1) 1 0 ha (by omega) (by omega) (by decide) rfl rfl
  exact h.trans (clean_end _ _ k 1)
theorem width_ty (t : Int) (g : good t) : scalar_width.f t = some (nb t : Int) := by rcases g with rfl | rfl | rfl | rfl <;> rfl
def out (tl : Int) (x : Nat) (e : Int) : Int × Int × Int × Bool × Int := if e = 0 then (tl, (cl tl x : Int), 0, false, 0) else (0, 0, 0, false, e)
theorem do_j1 (t tl : Int) (g : good t) (gl : good tl) (op : Int) (l : List Int) (a b : Int) (x : Nat) (e : Int) (k : Nat) (hx : x < 18446744073709551616) (h : scalar_work.f (k + 3) op (nb t) a b = some ((x : Int), e)) :
    scalar_Do.j1 (k + 4) op (t :: l) [tl] a b = some (out tl x e) := by
  have r0 : rd (t :: l) 0 = t := rfl
  have r1 : rd [tl] 0 = tl := rfl
  simp only [scalar_Do.j1]
  rw [if_pos (by rw [List.length_cons]; omega), r0, width_ty t g, Option.bind_some, h, Option.bind_some]
  dsimp only
  unfold out
  by_cases c : e = 0
  · have hc := clean1 tl gl x 0 false k hx
    rw [if_pos c, if_pos c, if_pos (by show (0 : Int) < 1; decide), r1]
    show ((scalar_clean.f (k + 3) [⟨tl, (x : Int), 0, false⟩]).bind _) = _
    rw [hc, Option.bind_some, if_pos (by show (0 : Int) < 1; decide)]
    rfl
  · rw [if_neg c, if_neg c]
theorem sdo1 (t tl : Int) (g : good t) (gl : good tl) (op : Int) (ok : Bool) (a x : Nat) (ha' : Int) (na' : Bool) (e : Int) (k : Nat) (hk : 2000 < k) (ha : a < 18446744073709551616) (hx : x < 18446744073709551616)
    (hop : op < 64768) (hS : ops_Sign.f op = some ([t], [tl], ok)) (hN : scalar_Numeric.f op = some true) (h : ∀ k, 1000 < k → scalar_work.f k op (nb t) (cl t a : Int) 0 = some ((x : Int), e)) :
    scalar_Do.f k op [] [⟨t, (a : Int), ha', na'⟩] = some (out tl x e) := by
  obtain ⟨k, rfl⟩ : ∃ m, k = m + 9 := ⟨k - 9, by omega⟩
  unfold scalar_Do.f
  rw [if_neg (by omega), hS, Option.bind_some, hN, Option.bind_some, if_pos rfl, if_neg (by decide), if_pos (by show (1 : Int) = 1; rfl)]
  have f0 : (rd_T33 [⟨t, (a : Int), ha', na'⟩] 0).f0 = rd [t] 0 := rfl
  have L : (([⟨t, (a : Int), ha', na'⟩] : List S33).length : Int) = 1 := rfl
  have L2 : (([t] : List Int).length : Int) = 1 := rfl
  have L3 : (([⟨t, (cl t a : Int), 0, false⟩] : List S33).length : Int) = 1 := rfl
  simp only [scalar_Do.l0, L, L2, w01, f0, Int.reduceLT, Int.reduceLE, ↓reduceIte]
  rw [show k + 6 + 1 = (k + 4) + 3 by omega, clean1 t g a ha' na' (k + 4) ha, Option.bind_some]
  simp only [L3, Int.reduceLT, Int.reduceGT, ↓reduceIte]
  exact do_j1 t tl g gl op [] (cl t a : Int) 0 x e (k + 3) hx (h _ (by omega))
theorem bits_ty (t : Int) (g : good t) : bodkinref07_Bits.f t = some (nb t : Int) := by rcases g with rfl | rfl | rfl | rfl <;> rfl
theorem rclean (t : Int) (g : good t) (a k : Nat) (ha : a < 18446744073709551616) (hk : 100 < k) : bodkinref07_Clean.f k t a 0 false = some (t, (cl t a : Int), 0, false) := by
  obtain ⟨k, rfl⟩ : ∃ m, k = m + 1 := ⟨k - 1, by omega⟩
  unfold bodkinref07_Clean.f
  rcases g with rfl | rfl | rfl | rfl
  · simp only [bodkinref07_Clean.j0, ↓reduceIte, BEq.rfl]
    rw [show (32 : Int) = ((32 : Nat) : Int) from rfl, cut_f 32 a k (by omega) ha (by omega)]; rfl
  · simp only [bodkinref07_Clean.j0, Int.reduceEq, Int.reduceBEq, ↓reduceIte, Bool.false_eq_true]; rfl
  · simp only [bodkinref07_Clean.j0, Int.reduceEq, Int.reduceBEq, ↓reduceIte, Bool.false_eq_true]
    rw [show (32 : Int) = ((32 : Nat) : Int) from rfl, cut_f 32 a k (by omega) ha (by omega)]; rfl
  · simp only [bodkinref07_Clean.j0, Int.reduceEq, Int.reduceBEq, ↓reduceIte, Bool.false_eq_true]; rfl
theorem ref_j2 (t tl : Int) (g : good t) (gl : good tl) (l : List Int) (v : S33) (vs : List S33) (a : Nat) (b : Int) (x : Nat) (e : Int) (k : Nat) (hk : 1500 < k) (hx : x < 18446744073709551616) (c0 c2 : Int) (name c3 leaves : ByteArray) (c5 : Bool) (hv : v = ⟨t, (a : Int), 0, false⟩)
    (hsz : 4 ≤ name.size) (hL : ∀ k, 1000 < k → bodkinref05_Types.f k leaves = some [tl])
    (h : ∀ k, 1000 < k → bodkinref07_worked.f (name.extract 0 1) (nb t) tl (name.extract 4 name.size) (a : Int) b = some ((x : Int), e)) :
    bodkinref07_Do.j2 k (t :: l) (v :: vs) b c0 name c2 c3 leaves c5 = some (out tl x e) := by
  obtain ⟨k, rfl⟩ : ∃ m, k = m + 1 := ⟨k - 1, by omega⟩
  subst hv
  have r0 : rd (t :: l) 0 = t := rfl
  have r1 : rd [tl] 0 = tl := rfl
  have r2 : (rd_T33 ((⟨t, (a : Int), 0, false⟩ : S33) :: vs) 0).f1 = (a : Int) := rfl
  have l1 : (0 : Int) < (([tl] : List Int).length : Int) := by show (0 : Int) < 1; decide
  simp only [bodkinref07_Do.j2]
  rw [if_pos (by decide), if_pos (by omega), if_pos (by rw [List.length_cons]; omega), r0, bits_ty t g, Option.bind_some, hL k (by omega), Option.bind_some, if_pos l1, if_pos (by omega), if_pos (by rw [List.length_cons]; omega), r1, r2, h k (by omega), Option.bind_some]
  dsimp only
  unfold out
  by_cases c : e = 0
  · rw [if_pos c, if_pos c, Option.bind_some, if_pos l1, r1, rclean tl gl x k hx (by omega), Option.bind_some]
  · rw [if_neg c, if_neg c]
theorem rdo1 (t tl : Int) (g : good t) (gl : good tl) (op : Int) (a x : Nat) (e : Int) (k : Nat) (hk : 2000 < k) (ha : a < 18446744073709551616) (hx : x < 18446744073709551616) (r : Int × ByteArray × Int × ByteArray × ByteArray × Bool)
    (hop : op < 64768) (hO : ∀ k, 1000 < k → bodkinref05_Of.f k op = some r) (hT : ∀ k, 1000 < k → bodkinref05_Types.f k r.2.2.2.1 = some [t]) (hL : ∀ k, 1000 < k → bodkinref05_Types.f k r.2.2.2.2.1 = some [tl]) (hN : ∀ k, 1000 < k → bodkinref07_Numeric.f k op = some true)
    (hsz : 4 ≤ r.2.1.size) (h : ∀ k, 1000 < k → bodkinref07_worked.f (r.2.1.extract 0 1) (nb t) tl (r.2.1.extract 4 r.2.1.size) (cl t a : Int) 0 = some ((x : Int), e)) :
    bodkinref07_Do.f k op [] [⟨t, (a : Int), 0, false⟩] = some (out tl x e) := by
  obtain ⟨k, rfl⟩ : ∃ m, k = m + 9 := ⟨k - 9, by omega⟩
  unfold bodkinref07_Do.f
  have f0 : (rd_T33 [⟨t, (a : Int), 0, false⟩] 0) = ⟨t, (a : Int), 0, false⟩ := rfl
  have g0 : rd [t] 0 = t := rfl
  have L : (([⟨t, (a : Int), 0, false⟩] : List S33).length : Int) = 1 := rfl
  have L2 : (([t] : List Int).length : Int) = 1 := rfl
  rw [hO _ (by omega), Option.bind_some, hT _ (by omega), Option.bind_some, hN _ (by omega), Option.bind_some, if_pos rfl, if_pos (by rw [L, L2]), if_pos hop]
  simp only [bodkinref07_Do.j0, bodkinref07_Do.l0, L, L2, w01, f0, g0, Int.reduceLT, Int.reduceLE, ↓reduceIte, List.length_nil, Int.reduceGT, Int.natCast_zero, decide_false, Bool.false_eq_true, gt_iff_lt]
  rw [rclean t g a _ ha (by omega), Option.bind_some, if_pos (by decide)]
  dsimp only
  have q : ([] ++ [(⟨t, (cl t a : Int), 0, false⟩ : S33)] : List S33) = [⟨t, (cl t a : Int), 0, false⟩] := rfl
  have L3 : (([⟨t, (cl t a : Int), 0, false⟩] : List S33).length : Int) = 1 := rfl
  rw [q, L3, if_neg (by omega), if_neg (by decide)]
  exact ref_j2 t tl g gl [] _ _ (cl t a) _ x e _ (by omega) hx _ _ _ _ _ _ rfl hsz hL h
def facts (op : Int) (l : List Int) (tl : Int) (p : ByteArray → ByteArray → Bool) : Bool :=
  match bodkinref05_Of.f 900 op with
  | none => false
  | some r =>
    decide (bodkinref05_Types.f 900 r.2.2.2.1 = some l) && (decide (bodkinref05_Types.f 900 r.2.2.2.2.1 = some [tl]) && (decide (bodkinref07_Numeric.f 900 op = some true) && (decide (4 ≤ r.2.1.size) && (p (r.2.1.extract 0 1) (r.2.1.extract 4 r.2.1.size) && (decide (ops_Sign.f op = some (l, [tl], true)) && decide (scalar_Numeric.f op = some true))))))
theorem same_out (x y : Int × Int × Int × Bool × Int) (h : x = y) {α : Type} (p q r : α) : (if (!(x.1 == y.1) || (!(x.2.1 == y.2.1) || (!(x.2.2.1 == y.2.2.1) || (!(x.2.2.2.1 == y.2.2.2.1))))) = true then p else (if x.2.2.2.2 = y.2.2.2.2 then q else r)) = q := by
  subst h
  simp
theorem step1 (t tl : Int) (g : good t) (gl : good tl) (op tt : Int) (a b x : Nat) (e : Int) (k : Nat) (p : ByteArray → ByteArray → Bool) (hop : 0 ≤ op ∧ op < 64768) (ha : a < 18446744073709551616) (hx : x < 18446744073709551616) (hto : op ≤ tt) (hk : 3000 < k) (hf : facts op [t] tl p = true)
    (h : ∀ k, 1000 < k → scalar_work.f k op (nb t) (cl t a : Int) 0 = some ((x : Int), e))
    (h' : ∀ kd w : ByteArray, p kd w = true → ∀ k, 1000 < k → bodkinref07_worked.f kd (nb t) tl w (cl t a : Int) 0 = some ((x : Int), e)) :
    bodkinlaw07_some.l0 (k + 3) tt a b op = bodkinlaw07_some.l0 k tt a b (op + 1) := by
  unfold facts at hf
  generalize hO : bodkinref05_Of.f 900 op = o at hf
  cases o with
  | none => cases hf
  | some r =>
    dsimp only at hf
    simp only [Bool.and_eq_true, decide_eq_true_eq] at hf
    obtain ⟨hT, hL, hN, hz, hp, hS, hM⟩ := hf
    have lO := lift (fun k => bodkinref05_Of.f k op) (fun k => bodkinref05_Of.mono op k) r 900 hO
    have lT := lift (fun k => bodkinref05_Types.f k r.2.2.2.1) (fun k => bodkinref05_Types.mono _ k) _ 900 hT
    have lL := lift (fun k => bodkinref05_Types.f k r.2.2.2.2.1) (fun k => bodkinref05_Types.mono _ k) _ 900 hL
    have lN := lift (fun k => bodkinref07_Numeric.f k op) (fun k => bodkinref07_Numeric.mono _ k) _ 900 hN
    have pa := sdo1 t tl g gl op true a x 0 false e k (by omega) ha hx (by omega) hS hM h
    have pb := rdo1 t tl g gl op a x e k (by omega) ha hx r (by omega) (fun k hk => lO k (by omega)) (fun k hk => lT k (by omega)) (fun k hk => lL k (by omega)) (fun k hk => lN k (by omega)) hz (h' _ _ hp)
    have e1 : wrap64 (op + 1) = op + 1 := w64_id (by omega) (by omega)
    have L : (([t] : List Int).length : Int) = 1 := rfl
    have g0 : rd [t] 0 = t := rfl
    have g1 : rd [(a : Int), (b : Int)] 0 = (a : Int) := rfl
    have L2 : (([(a : Int), (b : Int)] : List Int).length : Int) = 2 := rfl
    have q : ([] ++ [(⟨t, (a : Int), 0, false⟩ : S33)] : List S33) = [⟨t, (a : Int), 0, false⟩] := rfl
    simp only [bodkinlaw07_some.l0]
    rw [if_pos hto, lO _ (by omega), Option.bind_some, lT _ (by omega), Option.bind_some]
    simp only [bodkinlaw07_some.l1, L, L2, g0, g1, w01, q, Int.reduceLT, Int.reduceLE, ↓reduceIte, Option.bind_some]
    rw [if_pos (by decide), pa, Option.bind_some, pb, Option.bind_some, same_out _ _ rfl, e1]
def Q (tt a b op : Int) : Prop := ∃ k, 3000 < k ∧ bodkinlaw07_some.l0 k tt a b op = some true
theorem Q_end (tt a b : Int) : Q tt a b (tt + 1) := ⟨3001, by omega, by simp only [bodkinlaw07_some.l0]; rw [if_neg (by omega)]⟩
theorem u64_nat (a : Int) (h : (Lit.int .u64 a).wf = true) : ∃ n : Nat, a = (n : Int) ∧ n < 18446744073709551616 := by
  have h2 : 0 ≤ a ∧ a < 18446744073709551616 := by
    simp [Lit.wf, IntKind.min, IntKind.max, IntKind.bits, IntKind.signed] at h
    omega
  exact ⟨a.toNat, by omega, by omega⟩
end Go.Proofs.YtkhhhceeoljheaaGreatDoor.Pure
set_option linter.unusedVariables false
set_option linter.unusedSimpArgs false
namespace Go.Proofs.YtkhhhceeoljheaaGreatDoor.Pure
open Go.RowKit Go.Proofs.YtkhhhceeoljheaaGreatDoorW.PrintWords Go.Proofs.YtkhhhceeoljheaaGreatDoorW.PrintLast Go.Proofs.YtkhhhceeoljheaaGreatDoorW.PrintMore Go.Proofs.YtkhhhceeoljheaaGreatDoor.PHel Go.Proofs.YtkhhhceeoljheaaGreatDoor.Fl Ieee
def fm (n : Nat) : Format := if n = 32 then single else double
def fr (n : Nat) : Int := if n = 32 then 23 else 52
def ex (n : Nat) : Int := if n = 32 then 8 else 11
theorem f_sign (n : Nat) (hn : n = 32 ∨ n = 64) : floats_format_sign.f (fr n) (ex n) = some (((2 ^ (n - 1) : Nat) : Int)) := by rcases hn with rfl | rfl <;> decide +kernel
theorem f_inf (n : Nat) (hn : n = 32 ∨ n = 64) : floats_format_infinity.f (fr n) (ex n) = some ((fm n).infRung : Int) := by rcases hn with rfl | rfl <;> decide +kernel
theorem sw_n (n : Nat) (hn : n = 32 ∨ n = 64) : (fm n).signWeight = 2 ^ (n - 1) := by rcases hn with rfl | rfl <;> decide +kernel
theorem f_size (n : Nat) (hn : n = 32 ∨ n = 64) (a : Nat) (ha : a < 18446744073709551616) : floats_format_size.f (fr n) (ex n) (a : Int) = some ((siz (fm n) a : Nat) : Int) := by
  unfold floats_format_size.f
  rw [f_sign n hn, Option.bind_some]
  have h1 : IntKind.u64.wrap (((2 ^ (n - 1) : Nat) : Int) - 1) = ((2 ^ (n - 1) - 1 : Nat) : Int) := by rcases hn with rfl | rfl <;> decide +kernel
  rw [h1, andN a _ ha (by rcases hn with rfl | rfl <;> decide), Nat.and_two_pow_sub_one_eq_mod]
  unfold siz
  rw [sw_n n hn]
theorem and_pow (a i : Nat) : ((a &&& 2 ^ i : Nat) != 0) = (a / 2 ^ i % 2 == 1) := by
  have h : (a &&& 2 ^ i) = if a.testBit i then 2 ^ i else 0 := by
    apply Nat.eq_of_testBit_eq
    intro j
    rw [Nat.testBit_and, Nat.testBit_two_pow]
    by_cases c : i = j
    · subst c
      cases h : a.testBit i <;> simp
    · rw [decide_eq_false c, Bool.and_false]
      split
      · rw [Nat.testBit_two_pow, decide_eq_false c]
      · simp
  rw [h]
  have ht : a.testBit i = (a / 2 ^ i % 2 == 1) := by rw [Nat.testBit_eq_decide_div_mod_eq]; rfl
  rw [← ht]
  have := Nat.two_pow_pos i
  cases a.testBit i <;> simp
theorem f_neg (n : Nat) (hn : n = 32 ∨ n = 64) (a : Nat) (ha : a < 18446744073709551616) : floats_format_neg.f (fr n) (ex n) (a : Int) = some (neg (fm n) a) := by
  unfold floats_format_neg.f
  rw [f_sign n hn, Option.bind_some, andN a _ ha (by rcases hn with rfl | rfl <;> decide)]
  unfold neg
  rw [sw_n n hn, ← and_pow]
  congr 1
  rw [Bool.eq_iff_iff]
  simp
theorem f_least (n : Nat) (hn : n = 32 ∨ n = 64) : floats_format_least.f (fr n) (ex n) = some (fm n).leastPlace := by rcases hn with rfl | rfl <;> decide +kernel
theorem f_of (n : Nat) (hn : n = 32 ∨ n = 64) : floats_of.f n = some (fr n, ex n) := by rcases hn with rfl | rfl <;> rfl
theorem f_none (n : Nat) (hn : n = 32 ∨ n = 64) : floats_format_none.f (fr n) (ex n) = some false := by rcases hn with rfl | rfl <;> rfl
theorem siz_lt (n : Nat) (hn : n = 32 ∨ n = 64) (a : Nat) : siz (fm n) a < 9223372036854775808 := by
  unfold siz
  rw [sw_n n hn]
  have := Nat.mod_lt a (Nat.two_pow_pos (n - 1))
  have h2 : 2 ^ (n - 1) ≤ 9223372036854775808 := by rcases hn with rfl | rfl <;> decide +kernel
  omega
def kd (n : Nat) (a : Nat) : Int := if siz (fm n) a = 0 then 1 else if siz (fm n) a < (fm n).infRung then 2 else if siz (fm n) a = (fm n).infRung then 3 else 4
theorem f_kind (n : Nat) (hn : n = 32 ∨ n = 64) (a : Nat) (ha : a < 18446744073709551616) : floats_Kind.f n a = some (kd n a) := by
  unfold floats_Kind.f
  rw [f_of n hn, Option.bind_some]
  dsimp only
  rw [f_size n hn a ha, Option.bind_some, f_none n hn, Option.bind_some, if_neg (by decide), f_inf n hn, Option.bind_some, Option.bind_some]
  unfold kd
  generalize siz (fm n) a = x
  generalize (fm n).infRung = y
  by_cases c0 : x = 0
  · rw [if_pos (by omega), if_pos c0]
  · rw [if_neg (by omega), if_neg c0]
    by_cases c1 : x < y
    · rw [if_pos (by omega), if_pos c1]
    · rw [if_neg (by omega), if_neg c1]
      by_cases c2 : x = y
      · rw [if_pos (by omega), if_pos c2]
      · rw [if_neg (by omega), if_neg c2]
theorem fr_nat (n : Nat) : fr n = (((fm n).fractionBits : Nat) : Int) := by unfold fr fm; split <;> rfl
theorem frac_le (n : Nat) : (fm n).fractionBits ≤ 52 := by unfold fm; split <;> decide
theorem low_or (x p : Nat) : (x % 2 ^ p) ||| 2 ^ p = 2 ^ p + x % 2 ^ p := by
  have h := Nat.mod_lt x (Nat.two_pow_pos p)
  have e := Nat.two_pow_add_eq_or_of_lt h 1
  rw [Nat.mul_one] at e
  rw [Nat.or_comm, e]
theorem f_parts (n : Nat) (hn : n = 32 ∨ n = 64) (a : Nat) (ha : a < 18446744073709551616) (hf : siz (fm n) a < (fm n).infRung) : ∃ (m : Nat) (e : Int), floats_format_parts.f (fr n) (ex n) a = some ((m : Int), e) ∧
    (fm n).read a = .number (neg (fm n) a) m e ∧ (0 ≤ e → (fm n).binade ≤ m) ∧ e ≤ 2048 := by
  have hx := siz_lt n hn a
  have hP := frac_le n
  have hB : (fm n).binade = 2 ^ (fm n).fractionBits := rfl
  have hBl : (fm n).binade ≤ 4503599627370496 := by unfold fm; split <;> decide
  have hL : (fm n).leastPlace ≤ -149 ∧ -1074 ≤ (fm n).leastPlace := by unfold fm; split <;> decide
  have hI : (fm n).infRung ≤ (fm n).binade * 2047 := by unfold fm; split <;> decide
  have hdm := Nat.div_add_mod (siz (fm n) a) (fm n).binade
  have hml := Nat.mod_lt (siz (fm n) a) (binade_pos (fm n))
  have hs : shr .u64 ((siz (fm n) a : Nat) : Int) (IntKind.u64.wrap (fr n)) = ((siz (fm n) a / (fm n).binade : Nat) : Int) := by
    rw [fr_nat, wu_id (by omega) (by omega), shr_n .u64 rfl _ _ (by omega), ← hB]; rfl
  have hsl : shl .u64 1 (IntKind.u64.wrap (fr n)) = (((fm n).binade : Nat) : Int) := by
    rw [fr_nat, wu_id (by omega) (by omega)]
    have := shl_n 1 (fm n).fractionBits (by omega)
    rw [Nat.one_mul, ← hB, wu_id (by omega) (by omega)] at this
    exact this
  have hq : siz (fm n) a / (fm n).binade < 2048 := by
    rw [Nat.div_lt_iff_lt_mul (binade_pos _)]; omega
  have hq0 : siz (fm n) a / (fm n).binade = 0 ↔ siz (fm n) a < (fm n).binade := by
    rw [Nat.div_eq_zero_iff]; have := binade_pos (fm n); omega
  have han : Go.bits .and .u64 ((siz (fm n) a : Nat) : Int) (IntKind.u64.wrap ((((fm n).binade : Nat) : Int) - 1)) = ((siz (fm n) a % (fm n).binade : Nat) : Int) := by
    have h1 : ((((fm n).binade : Nat) : Int) - 1) = (((fm n).binade - 1 : Nat) : Int) := by have := binade_pos (fm n); omega
    rw [h1, wu_id (by omega) (by omega), andN _ _ (by omega) (by omega), hB, Nat.and_two_pow_sub_one_eq_mod]
  generalize hqe : siz (fm n) a / (fm n).binade = q at *
  unfold floats_format_parts.f
  rw [f_size n hn a ha, Option.bind_some, hs, hsl, han, f_least n hn, if_pos (by rw [fr_nat, wu_id (by omega) (by omega)]; omega), Option.bind_some, Option.bind_some, w64_id (show -9223372036854775808 ≤ (q : Int) by omega) (by omega), read_eq, hqe]
  by_cases c : siz (fm n) a < (fm n).binade
  · rw [if_pos (by rw [hq0.2 c]; rfl), if_pos c]
    exact ⟨_, _, rfl, by rw [Nat.mod_eq_of_lt c], by omega, by omega⟩
  · rw [if_neg (fun h => c (hq0.1 (by omega))), if_neg c, if_pos hf, orN _ _ (by omega) (by omega)]
    have hor : (siz (fm n) a % (fm n).binade) ||| (fm n).binade = (fm n).binade + siz (fm n) a % (fm n).binade := by rw [hB]; exact low_or _ _
    have h1 : q ≠ 0 := fun h => c (hq0.1 h)
    rw [hor, w64_id (show -9223372036854775808 ≤ (fm n).leastPlace + (q : Int) by omega) (by omega), w64_id (by omega) (by omega)]
    refine ⟨_, _, rfl, ?_, by omega, by omega⟩
    congr 1
    omega
theorem p_parts (n : Nat) (hn : n = 32 ∨ n = 64) (a k : Nat) (ha : a < 18446744073709551616) (hf : siz (fm n) a < (fm n).infRung) (hk : 2 < k) : ∃ (m : Nat) (e : Int), floats_Parts.f k n a = some (neg (fm n) a, (m : Int), e, 0) ∧
    (fm n).read a = .number (neg (fm n) a) m e ∧ (0 ≤ e → (fm n).binade ≤ m) ∧ e ≤ 2048 := by
  obtain ⟨m, e, h, hr⟩ := f_parts n hn a ha hf
  obtain ⟨k, rfl⟩ : ∃ j, k = j + 1 := ⟨k - 1, by omega⟩
  refine ⟨m, e, ?_, hr⟩
  unfold floats_Parts.f
  rw [f_kind n hn a ha, Option.bind_some]
  have key : floats_Parts.j0 (k + 1) n a false = some (neg (fm n) a, (m : Int), e, 0) := by
    simp only [floats_Parts.j0]
    rw [if_neg (by decide), f_of n hn, Option.bind_some]
    dsimp only
    rw [h, Option.bind_some, Option.bind_some]
    dsimp only
    rw [f_neg n hn a ha, Option.bind_some]
  unfold kd
  by_cases c0 : siz (fm n) a = 0
  · rw [if_pos c0, if_pos rfl]; exact key
  · rw [if_neg c0, if_pos hf, if_neg (by decide)]; exact key
theorem len_bounds (m : Nat) (h0 : m ≠ 0) (hm : m < 18446744073709551616) : 1 ≤ Lib.bitLen m ∧ 2 ^ (Lib.bitLen m - 1) ≤ m ∧ m < 2 ^ Lib.bitLen m ∧ Lib.bitLen m ≤ 64 := by
  have h := Lib.bitLenAux_bounds 64 m (by omega) h0
  exact ⟨h.1, h.2.1, h.2.2, Lib.bitLenAux_le 64 m 64 (by omega)⟩
theorem f_most (tt : Int) (ht : tt = 32 ∨ tt = 64) (g s : Bool) (k : Nat) (hk : 0 < k) : conv_kind_most.f k tt g s = some ((mostN tt g s : Nat) : Int) := by
  obtain ⟨k, rfl⟩ : ∃ j, k = j + 1 := ⟨k - 1, by omega⟩
  unfold conv_kind_most.f
  simp only [conv_kind_most.j0]
  rcases ht with rfl | rfl <;> cases g <;> cases s <;> decide +kernel
theorem f_cut (tt : Int) (ht : tt = 32 ∨ tt = 64) (g s : Bool) (x : Nat) (hx : x ≤ mostN tt g s) : conv_kind_cut.f tt g s (x : Int) = some ((cutN tt s x : Nat) : Int) := by
  have hm := most_le tt g s
  have hn : IntKind.u64.wrap (-(x : Int)) = (((18446744073709551616 - x) % 18446744073709551616 : Nat) : Int) := by rw [wu]; omega
  have h32 : tt = 32 → x ≤ 4294967296 ∧ (s = false → x ≤ 4294967295) := by
    rintro rfl
    unfold mostN at hx
    cases g <;> cases s <;> simp only [Bool.false_eq_true, ↓reduceIte] at hx <;> constructor <;> (try intro _) <;> omega
  unfold conv_kind_cut.f cutN
  rw [hn]
  rcases ht with rfl | rfl
  · have := h32 rfl
    cases s
    · simp only [Bool.false_eq_true, ↓reduceIte, BEq.rfl]
      rw [and32 x (by omega)]
      congr 2
      have := this.2 rfl
      omega
    · simp only [↓reduceIte, BEq.rfl]
      rw [and32 _ (by omega)]
      congr 2
      omega
  · cases s
    · simp only [Bool.false_eq_true, ↓reduceIte, Int.reduceEq, Int.reduceBEq]
    · simp only [↓reduceIte, Int.reduceEq, Int.reduceBEq, Bool.false_eq_true]
theorem f_over (tt : Int) (ht : tt = 32 ∨ tt = 64) (g s : Bool) (k : Nat) (hk : 0 < k) : conv_kind_over.f k tt g true s = some (((cutN tt s (mostN tt g s) : Nat) : Int), 0) := by
  unfold conv_kind_over.f
  rw [if_pos rfl, f_most tt ht g s k hk, Option.bind_some, f_cut tt ht g s _ (Nat.le_refl _), Option.bind_some]
theorem ans_over (tt : Int) (g s : Bool) (M : Nat) (h : mostN tt g s ≤ M) : ansN tt g s M = cutN tt s (mostN tt g s) := by
  unfold ansN; rw [Nat.min_eq_right h]
theorem f_right (n : Int) (h : n = 32 ∨ n = 64) : conv_right.f n = some true := by rcases h with rfl | rfl <;> rfl
theorem j2_f (tt : Int) (ht : tt = 32 ∨ tt = 64) (g s : Bool) (M k : Nat) (hk : 2 < k) : conv_Trunc.j2 k true s (M : Int) tt g = some (((ansN tt g s M : Nat) : Int), 0) := by
  obtain ⟨k, rfl⟩ : ∃ j, k = j + 1 := ⟨k - 1, by omega⟩
  simp only [conv_Trunc.j2]
  rw [f_most tt ht g s k (by omega), Option.bind_some]
  by_cases c : mostN tt g s < M
  · rw [if_pos (by omega), f_over tt ht g s k (by omega), Option.bind_some, ans_over tt g s M (by omega)]
  · rw [if_neg (by omega), f_cut tt ht g s M (by omega), Option.bind_some]
    unfold ansN; rw [Nat.min_eq_left (by omega)]
theorem sgn_bit (n : Nat) (hn : n = 32 ∨ n = 64) (a : Nat) (ha : a < 18446744073709551616) : (Go.bits .and .u64 (shr .u64 (a : Int) (IntKind.u64.wrap (wrap64 ((n : Int) - 1)))) 1 == 1) = neg (fm n) a := by
  have h : shr .u64 (a : Int) (IntKind.u64.wrap (wrap64 ((n : Int) - 1))) = ((a / 2 ^ (n - 1) : Nat) : Int) := by
    have e : IntKind.u64.wrap (wrap64 ((n : Int) - 1)) = ((n - 1 : Nat) : Int) := by rw [w64_id (by omega) (by omega), wu_id (by omega) (by omega)]; omega
    rw [e, shr_n .u64 rfl _ _ (by omega)]; rfl
  have hl : a / 2 ^ (n - 1) ≤ a := Nat.div_le_self _ _
  rw [h]
  have := andN (a / 2 ^ (n - 1)) 1 (by omega) (by omega)
  rw [show ((1 : Nat) : Int) = 1 from rfl] at this
  rw [this, Nat.and_one_is_mod]
  unfold neg
  rw [sw_n n hn]
  have := Nat.mod_lt (a / 2 ^ (n - 1)) (show 0 < 2 by omega)
  generalize a / 2 ^ (n - 1) % 2 = b at *
  have : b = 0 ∨ b = 1 := by omega
  rcases this with rfl | rfl <;> rfl
theorem mul_lt64 (m L e : Nat) (hm : m < 2 ^ L) (h : L + e ≤ 64) : m * 2 ^ e < 18446744073709551616 := by
  have h1 : m * 2 ^ e < 2 ^ L * 2 ^ e := Nat.mul_lt_mul_of_pos_right hm (Nat.two_pow_pos _)
  rw [← Nat.pow_add] at h1
  have h2 : 2 ^ (L + e) ≤ 2 ^ 64 := two_pow_le h
  omega
theorem le_mul64 (m L e : Nat) (hL : 1 ≤ L) (hm : 2 ^ (L - 1) ≤ m) (h : 64 < L + e) : 18446744073709551616 ≤ m * 2 ^ e := by
  have h1 : 2 ^ (L - 1) * 2 ^ e ≤ m * 2 ^ e := Nat.mul_le_mul_right _ hm
  rw [← Nat.pow_add] at h1
  have h2 : 2 ^ 64 ≤ 2 ^ (L - 1 + e) := two_pow_le (by omega)
  omega
theorem fm_inf (n : Nat) : 18446744073709551615 ≤ V (fm n) (fm n).infRung / un (fm n) := by unfold fm; split; exact inf_s; exact inf_d
theorem pro_trunc (n : Nat) (hn : n = 32 ∨ n = 64) (tt : Int) (ht : tt = 32 ∨ tt = 64) (g : Bool) (a k : Nat) (ha : a < 18446744073709551616) (hk : 20 < k) : conv_Trunc.f k n tt g true a = some (((heldN (fm n) tt g a : Nat) : Int), 0) := by
  obtain ⟨k, rfl⟩ : ∃ j, k = j + 9 := ⟨k - 9, by omega⟩
  unfold conv_Trunc.f
  rw [f_right n (by omega), Option.bind_some, if_pos rfl, f_right tt ht, Option.bind_some]
  simp only [Bool.not_true, conv_Trunc.j0, Bool.false_eq_true, ↓reduceIte]
  rw [f_kind n hn a ha, Option.bind_some]
  unfold heldN
  have hxx : isN (fm n) a = true ↔ (fm n).infRung < siz (fm n) a := by unfold isN; exact decide_eq_true_iff
  by_cases c4 : (fm n).infRung < siz (fm n) a
  · have hk4 : kd n a = 4 := by unfold kd; rw [if_neg (by omega), if_neg (by omega), if_neg (by omega)]
    rw [hk4, if_pos rfl, if_pos (hxx.2 c4)]
    simp only [conv_Trunc.j1, ↓reduceIte]; rfl
  · rw [if_neg (fun h => c4 (hxx.1 h))]
    have hi0 : 0 < (fm n).infRung := by unfold fm; split <;> decide
    by_cases c3 : siz (fm n) a = (fm n).infRung
    · have hk3 : kd n a = 3 := by unfold kd; rw [if_neg (by omega), if_neg (by omega), if_pos c3]
      rw [hk3, if_neg (by decide)]
      simp only [conv_Trunc.j1, Bool.false_eq_true, ↓reduceIte, Int.reduceEq]
      rw [if_pos (by rw [wu]; omega), sgn_bit n hn a ha, f_over tt ht g _ _ (by omega), Option.bind_some, ans_over]
      unfold mg
      rw [c3]
      have := most_le tt g (neg (fm n) a)
      have := fm_inf n
      omega
    · have hf : siz (fm n) a < (fm n).infRung := by omega
      have hk12 : kd n a = 1 ∨ kd n a = 2 := by
        unfold kd
        by_cases c : siz (fm n) a = 0
        · rw [if_pos c]; exact Or.inl rfl
        · rw [if_neg c, if_pos hf]; exact Or.inr rfl
      obtain ⟨m, e, hp, hr, hb, he⟩ := p_parts n hn a (k + 7) ha hf (by omega)
      obtain ⟨m', e', hr', hle, hml, hv⟩ := read_fin (fm n) a hf
      rw [hr] at hr'
      simp only [Datum.number.injEq, true_and] at hr'
      obtain ⟨rfl, rfl⟩ := hr'
      have hL : (fm n).leastPlace ≤ 0 ∧ -1074 ≤ (fm n).leastPlace := by unfold fm; split <;> decide
      have hB : (fm n).binade ≤ 4503599627370496 ∧ 0 < (fm n).binade := by unfold fm; split <;> decide
      have hmg : mg (fm n) a = m * 2 ^ e.toNat / 2 ^ (-e).toNat := by unfold mg; rw [mag_eq (fm n) m e hL.1 hle, hv]
      rw [hmg]
      generalize hs : neg (fm n) a = s at *
      have hgo : (if kd n a = 4 then conv_Trunc.j1 (k + 8) n true (a : Int) (kd n a) true tt g else conv_Trunc.j1 (k + 8) n true (a : Int) (kd n a) false tt g) = conv_Trunc.j1 (k + 8) n true (a : Int) (kd n a) false tt g := if_neg (by omega)
      rw [hgo]
      simp only [conv_Trunc.j1, Bool.false_eq_true, ↓reduceIte]
      rw [if_neg (by omega), if_neg (by omega), hp, Option.bind_some]
      dsimp only
      by_cases c1 : e ≤ -64
      · rw [if_pos c1]
        have h0 : m * 2 ^ e.toNat / 2 ^ (-e).toNat = 0 := by
          rw [show e.toNat = 0 by omega, Nat.pow_zero, Nat.mul_one]
          apply Nat.div_eq_of_lt
          have : 2 ^ 64 ≤ 2 ^ (-e).toNat := two_pow_le (by omega)
          omega
        rw [h0]
        exact j2_f tt ht g s 0 _ (by omega)
      · rw [if_neg c1]
        by_cases c2 : e < 0
        · rw [if_pos c2]
          have e1 : IntKind.u64.wrap (wrap64 (-e)) = (((-e).toNat : Nat) : Int) := by rw [w64_id (by omega) (by omega), wu_id (by omega) (by omega)]; omega
          rw [e1, if_pos (by omega), shr_n .u64 rfl _ _ (by omega)]
          have h0 : m * 2 ^ e.toNat / 2 ^ (-e).toNat = m / 2 ^ (-e).toNat := by rw [show e.toNat = 0 by omega, Nat.pow_zero, Nat.mul_one]
          rw [h0]
          exact j2_f tt ht g s (m / 2 ^ (-e).toNat) _ (by omega)
        · rw [if_neg c2]
          have hmb := hb (by omega)
          obtain ⟨l1, l2, l3, l4⟩ := len_bounds m (by omega) (by omega)
          have h0 : m * 2 ^ e.toNat / 2 ^ (-e).toNat = m * 2 ^ e.toNat := by rw [show (-e).toNat = 0 by omega, Nat.pow_zero, Nat.div_one]
          unfold bits_Len64.f
          rw [if_pos ⟨by omega, by omega⟩, Option.bind_some, Int.toNat_natCast, h0, w64_id (by omega) (by omega)]
          by_cases c5 : ((Lib.bitLen m : Nat) : Int) + e > 64
          · rw [if_pos c5, f_over tt ht g s _ (by omega), Option.bind_some, ans_over]
            have := most_le tt g s
            have := le_mul64 m (Lib.bitLen m) e.toNat l1 l2 (by omega)
            omega
          · rw [if_neg c5]
            have e1 : IntKind.u64.wrap e = ((e.toNat : Nat) : Int) := by rw [wu_id (by omega) (by omega)]; omega
            have := mul_lt64 m (Lib.bitLen m) e.toNat l3 (by omega)
            rw [e1, if_pos (by omega), shl_n _ _ (by omega), wu_id (by omega) (by omega)]
            exact j2_f tt ht g s _ _ (by omega)
theorem held_lt (f : Format) (tt : Int) (g : Bool) (a : Nat) : heldN f tt g a < 18446744073709551616 := by
  unfold heldN
  split
  · omega
  · unfold ansN
    have h := most_le tt g (neg f a)
    have h2 : min (mg f a) (mostN tt g (neg f a)) ≤ 18446744073709551615 := by omega
    generalize min (mg f a) (mostN tt g (neg f a)) = x at *
    unfold cutN
    split
    · split <;> omega
    · omega
def isHeld (op : Int) (n : Nat) (tt : Int) (g : Bool) : Prop :=
  (op = 64512 ∧ n = 32 ∧ tt = 32 ∧ g = true) ∨ (op = 64513 ∧ n = 32 ∧ tt = 32 ∧ g = false) ∨ (op = 64514 ∧ n = 64 ∧ tt = 32 ∧ g = true) ∨ (op = 64515 ∧ n = 64 ∧ tt = 32 ∧ g = false) ∨
  (op = 64516 ∧ n = 32 ∧ tt = 64 ∧ g = true) ∨ (op = 64517 ∧ n = 32 ∧ tt = 64 ∧ g = false) ∨ (op = 64518 ∧ n = 64 ∧ tt = 64 ∧ g = true) ∨ (op = 64519 ∧ n = 64 ∧ tt = 64 ∧ g = false)
theorem hx (op : Int) (n : Nat) (tt : Int) (g : Bool) (h : isHeld op n tt g) : wrap64 (32 + (wrap64 ((Int.tmod (wrap64 (Int.tdiv (wrap64 (op - 64512)) 2)) 2) * 32))) = (n : Int) ∧ wrap64 (32 + (wrap64 ((wrap64 (Int.tdiv (wrap64 (op - 64512)) 4)) * 32))) = tt ∧ ((Int.tmod (wrap64 (op - 64512)) 2) == 0) = g := by
  rcases h with ⟨rfl, rfl, rfl, rfl⟩ | ⟨rfl, rfl, rfl, rfl⟩ | ⟨rfl, rfl, rfl, rfl⟩ | ⟨rfl, rfl, rfl, rfl⟩ | ⟨rfl, rfl, rfl, rfl⟩ | ⟨rfl, rfl, rfl, rfl⟩ | ⟨rfl, rfl, rfl, rfl⟩ | ⟨rfl, rfl, rfl, rfl⟩ <;> decide +kernel
theorem wk_held (n : Nat) (op tt m : Int) (g : Bool) (a k : Nat) (h : isHeld op n tt g) (ha : a < 18446744073709551616) (hk : 100 < k) :
    scalar_work.f k op m (a : Int) 0 = some (((heldN (fm n) tt g a : Nat) : Int), 0) := by
  have hn : n = 32 ∨ n = 64 := by unfold isHeld at h; omega
  have ht : tt = 32 ∨ tt = 64 := by unfold isHeld at h; omega
  have key := pro_trunc n hn tt ht g a k ha (by omega)
  have e : ((conv_Trunc.f k n tt g true (a : Int)).bind fun bt195 => (some (bt195.1, bt195.2))) = some (((heldN (fm n) tt g a : Nat) : Int), 0) := by rw [key, Option.bind_some]
  have h0 : 64512 ≤ op ∧ op ≤ 64519 := by unfold isHeld at h; omega
  unfold scalar_work.f
  rw [if_neg (by omega), if_neg (by omega), if_neg (by omega), if_neg (by omega), if_neg (by omega), if_neg (by omega), if_neg (by omega), if_neg (by omega), if_neg (by omega), if_neg (by omega), if_neg (by omega), if_neg (by omega), if_neg (by omega), if_neg (by omega), if_pos (by omega)]
  obtain ⟨e1, e2, e3⟩ := hx op n tt g h
  rw [e1, e2, e3]
  exact e
def pH (g : Bool) (_ w : ByteArray) : Bool := decide (¬ w.toList = [101, 113, 122]) && (decide (9 ≤ w.size ∧ w.size < 100) && (decide (¬ (w.extract 0 8).toList = [101, 120, 116, 101, 110, 100, 95, 105]) && (decide ((w.extract 0 5).toList = [116, 114, 117, 110, 99]) && (decide ((w.extract 0 4).toList = [116, 114, 117, 110]) && (decide (((w.extract (w.size - 2) w.size).toList == ([95, 115] : List UInt8)) = g) && decide (((w.extract 0 9).toList == ([116, 114, 117, 110, 99, 95, 115, 97, 116] : List UInt8)) = true))))))
theorem rf_held (kd w : ByteArray) (n : Nat) (t : Int) (gt : good t) (g : Bool) (a : Nat) (h : pH g kd w = true) (hn : n = 32 ∨ n = 64) (ha : n = 32 → a < 4294967296) :
    bodkinref07_worked.f kd n t w (a : Int) 0 = some (((heldN (fm n) (nb t) g a : Nat) : Int), 0) := by
  unfold pH at h
  simp only [Bool.and_eq_true, decide_eq_true_eq] at h
  obtain ⟨h1, h2, h3, h4, h5, h6, h7⟩ := h
  have hs : wrap64 ((w.size : Int) - 2) = ((w.size - 2 : Nat) : Int) := by rw [w64_id (by omega) (by omega)]; omega
  have ht : (nb t : Int) = 32 ∨ (nb t : Int) = 64 := by rcases gt with rfl | rfl | rfl | rfl <;> decide
  have hh := held_n n (nb t) hn ht g a
  have e1 : (if n = 32 then a % 4294967296 else a) = a := by
    split
    · rename_i c; exact Nat.mod_eq_of_lt (ha c)
    · rfl
  rw [e1] at hh
  unfold bodkinref07_worked.f
  rw [if_neg h1, if_pos (by omega), if_pos (by decide), if_pos (by omega), if_neg h3, if_pos (by omega), if_pos (by decide), if_pos (by omega), if_pos h4, bits_ty t gt, Option.bind_some]
  unfold bodkinref07_turned.f
  rw [hs, if_pos (by omega), if_pos (by omega), if_pos (by decide), if_pos (by omega), if_pos h5, if_pos (by decide), if_pos (by omega), Int.toNat_natCast, h6, h7]
  unfold bodkinref04_Trunc.f
  rw [if_pos ⟨by omega, ht, rfl, by omega⟩, Int.toNat_natCast, hh]
  rfl
theorem f_h : ([(64512, 125, 127, true), (64513, 125, 127, false), (64514, 124, 127, true), (64515, 124, 127, false), (64516, 125, 126, true), (64517, 125, 126, false), (64518, 124, 126, true), (64519, 124, 126, false)] : List (Int × Int × Int × Bool)).all (fun x => facts x.1 [x.2.1] x.2.2.1 (pH x.2.2.2)) = true := by decide +kernel
theorem g127 : good 127 := Or.inl rfl
theorem g126 : good 126 := Or.inr (Or.inl rfl)
theorem g125 : good 125 := Or.inr (Or.inr (Or.inl rfl))
theorem g124 : good 124 := Or.inr (Or.inr (Or.inr rfl))
theorem Q_held (t tl op tt : Int) (gs : Bool) (a b : Nat) (gt : good t) (gl : good tl) (ht : t = 125 ∨ t = 124) (hf : facts op [t] tl (pH gs) = true) (h : isHeld op (nb t) (nb tl) gs) (ha : a < 18446744073709551616) (hto : op ≤ tt) (q : Q tt a b (op + 1)) : Q tt a b op := by
  obtain ⟨k, hk, e⟩ := q
  have hn : nb t = 32 ∨ nb t = 64 := by rcases ht with rfl | rfl <;> decide
  have h0 : 64512 ≤ op ∧ op ≤ 64519 := by unfold isHeld at h; omega
  have hl : nb t = 32 → cl t a < 4294967296 := by
    intro h32
    rcases ht with rfl | rfl
    · show a % 4294967296 < _; omega
    · exact absurd h32 (by decide)
  refine ⟨k + 3, by omega, ?_⟩
  rw [step1 t tl gt gl op tt a b _ 0 k (pH gs) (by omega) ha (held_lt _ _ _ _) hto hk hf (fun k hk => wk_held (nb t) op (nb tl) (nb t) gs (cl t a) k h (cl_lt _ _ ha) (by omega)) (fun kd w hp k hk => rf_held kd w (nb t) tl gl gs (cl t a) hp hn hl)]
  exact e
theorem held_Q (a b : Nat) (ha : a < 18446744073709551616) : Q 64519 a b 64512 := by
  have f := List.all_eq_true.1 f_h
  refine Q_held 125 127 64512 64519 true a b g125 g127 (by omega) (f (64512, 125, 127, true) (by decide)) (by unfold isHeld nb; simp) ha (by omega) ?_
  refine Q_held 125 127 64513 64519 false a b g125 g127 (by omega) (f (64513, 125, 127, false) (by decide)) (by unfold isHeld nb; simp) ha (by omega) ?_
  refine Q_held 124 127 64514 64519 true a b g124 g127 (by omega) (f (64514, 124, 127, true) (by decide)) (by unfold isHeld nb; simp) ha (by omega) ?_
  refine Q_held 124 127 64515 64519 false a b g124 g127 (by omega) (f (64515, 124, 127, false) (by decide)) (by unfold isHeld nb; simp) ha (by omega) ?_
  refine Q_held 125 126 64516 64519 true a b g125 g126 (by omega) (f (64516, 125, 126, true) (by decide)) (by unfold isHeld nb; simp) ha (by omega) ?_
  refine Q_held 125 126 64517 64519 false a b g125 g126 (by omega) (f (64517, 125, 126, false) (by decide)) (by unfold isHeld nb; simp) ha (by omega) ?_
  refine Q_held 124 126 64518 64519 true a b g124 g126 (by omega) (f (64518, 124, 126, true) (by decide)) (by unfold isHeld nb; simp) ha (by omega) ?_
  refine Q_held 124 126 64519 64519 false a b g124 g126 (by omega) (f (64519, 124, 126, false) (by decide)) (by unfold isHeld nb; simp) ha (by omega) ?_
  exact Q_end 64519 a b
theorem awake_h : bodkinlaw07_awake.f 900 = some true := by decide +kernel
theorem held_pure : bodkinlaw07_ScalarHeld.Pure := by
  intro a0 a1 h0 h1
  obtain ⟨a, rfl, ha⟩ := u64_nat a0 h0
  obtain ⟨b, rfl, hb⟩ := u64_nat a1 h1
  obtain ⟨k, hk, e⟩ := held_Q a b ha
  refine ⟨k, ?_⟩
  have aw := lift (fun k => bodkinlaw07_awake.f k) (fun k => bodkinlaw07_awake.mono k) true 900 awake_h k (by omega)
  unfold bodkinlaw07_ScalarHeld.f bodkinlaw07_some.f
  rw [aw, Option.bind_some, if_pos rfl, e]
  rfl
end Go.Proofs.YtkhhhceeoljheaaGreatDoor.Pure
