import Derived.Test.YtkhhhceeoljheaaGreatDoorFxPFlox12
set_option linter.unusedVariables false
set_option linter.unusedSimpArgs false
namespace Go.Proofs.YtkhhhceeoljheaaGreatDoor.Pure
open Go.RowKit Go.Proofs.YtkhhhceeoljheaaGreatDoorW.PrintWords Go.Proofs.YtkhhhceeoljheaaGreatDoorW.PrintLast Go.Proofs.YtkhhhceeoljheaaGreatDoorW.PrintMore Go.Proofs.YtkhhhceeoljheaaGreatDoor.PFlo
theorem wu (n : Int) : IntKind.u64.wrap n = n % 18446744073709551616 := IntKind.wrap_u64 n
theorem wu_id {n : Int} (h0 : 0 ≤ n) (h1 : n < 18446744073709551616) : IntKind.u64.wrap n = n := by rw [wu]; omega
theorem w64_id {n : Int} (h0 : -9223372036854775808 ≤ n) (h1 : n < 9223372036854775808) : wrap64 n = n := by unfold wrap64; omega
theorem two_pow_le {i n : Nat} (h : i ≤ n) : 2 ^ i ≤ 2 ^ n := Nat.pow_le_pow_right (by omega) h
theorem tmod_nat (a b : Nat) : Int.tmod (a : Int) (b : Int) = ((a % b : Nat) : Int) := by
  rw [Int.tmod_eq_emod_of_nonneg (by omega)]; rfl
theorem cut_l0 (n a : Nat) (hn : n < 64) : ∀ (d k i : Nat), i + d = n → d < k → bodkinref02_Cut.l0 k n a ((2 ^ i : Nat) : Int) i = some ((a % 2 ^ n : Nat) : Int)
  | 0, k, i, h, hk => by
    obtain ⟨k, rfl⟩ : ∃ m, k = m + 1 := ⟨k - 1, by omega⟩
    obtain rfl : i = n := by omega
    have hp : 0 < 2 ^ i := Nat.two_pow_pos i; simp only [bodkinref02_Cut.l0]
    rw [if_neg (by omega), if_neg (by omega), tmod_nat]
  | d + 1, k, i, h, hk => by
    obtain ⟨k, rfl⟩ : ∃ m, k = m + 1 := ⟨k - 1, by omega⟩
    have hp : 2 ^ (i + 1) ≤ 2 ^ 63 := two_pow_le (by omega); have ih := cut_l0 n a hn d k (i + 1) (by omega) (by omega)
    have e1 : IntKind.u64.wrap (((2 ^ i : Nat) : Int) * 2) = ((2 ^ (i + 1) : Nat) : Int) := by
      rw [wu, Nat.pow_succ]; rw [Nat.pow_succ] at hp; generalize 2 ^ i = p at *; omega
    have e2 : wrap64 ((i : Int) + 1) = ((i + 1 : Nat) : Int) := by rw [w64_id (by omega) (by omega)]; rfl
    simp only [bodkinref02_Cut.l0]; rw [if_pos (by omega), e1, e2]; exact ih
theorem cut_f (n a k : Nat) (hn : n ≤ 64) (ha : a < 18446744073709551616) (hk : n + 1 < k) : bodkinref02_Cut.f k n a = some ((a % 2 ^ n : Nat) : Int) := by
  unfold bodkinref02_Cut.f; by_cases c : (n : Int) = 64
  · rw [if_pos c]
    obtain rfl : n = 64 := by omega
    rw [Nat.mod_eq_of_lt (by simpa using ha)]
  · rw [if_neg c]
    exact cut_l0 n a (by omega) n k 0 (by omega) (by omega)
theorem wu64 (n : Int) (h0 : 0 ≤ n) (h1 : n < 2 ^ 64) : IntKind.u64.wrap n = n := wu_id h0 (by omega)
theorem andN (a b : Nat) (ha : a < 18446744073709551616) (hb : b < 18446744073709551616) : Go.bits .and .u64 (a : Int) (b : Int) = ((a &&& b : Nat) : Int) := (bits_nat .u64 64 (by decide) wu64 a b (by omega) (by omega)).1
theorem orN (a b : Nat) (ha : a < 18446744073709551616) (hb : b < 18446744073709551616) : Go.bits .or .u64 (a : Int) (b : Int) = ((a ||| b : Nat) : Int) := (bits_nat .u64 64 (by decide) wu64 a b (by omega) (by omega)).2
def msk (n : Nat) : Int := ((2 ^ n - 1 : Nat) : Int)
theorem andm (n : Nat) (hn : n = 32 ∨ n = 64) (a : Nat) (ha : a < 18446744073709551616) : Go.bits .and .u64 (a : Int) (msk n) = ((a % 2 ^ n : Nat) : Int) := by
  unfold msk; rw [andN a _ ha (by rcases hn with rfl | rfl <;> decide), Nat.and_two_pow_sub_one_eq_mod]
end Go.Proofs.YtkhhhceeoljheaaGreatDoor.Pure
set_option linter.unusedVariables false
set_option linter.unusedSimpArgs false
namespace Go.Proofs.YtkhhhceeoljheaaGreatDoor.Pure
open Go.RowKit Go.Proofs.YtkhhhceeoljheaaGreatDoorW.PrintWords Go.Proofs.YtkhhhceeoljheaaGreatDoorW.PrintLast Go.Proofs.YtkhhhceeoljheaaGreatDoorW.PrintMore Go.Proofs.YtkhhhceeoljheaaGreatDoor.PFlo
theorem lift {α : Type} (f : Nat → Option α) (hm : ∀ k, LeO (f k) (f (k + 1))) (r : α) (K : Nat) (h : f K = some r) : ∀ k, K ≤ k → f k = some r := by
  intro k hk; obtain ⟨d, rfl⟩ : ∃ d, k = K + d := ⟨k - K, by omega⟩
  clear hk
  induction d with
  | zero => exact h
  | succ d ih => exact hm _ r ih
def good (t : Int) : Prop := t = 127 ∨ t = 126 ∨ t = 125 ∨ t = 124
def nb (t : Int) : Nat := if t = 127 ∨ t = 125 then 32 else 64
def cl (t : Int) (a : Nat) : Nat := if t = 127 ∨ t = 125 then a % 4294967296 else a
theorem cl_lt (t : Int) (a : Nat) (h : a < 18446744073709551616) : cl t a < 18446744073709551616 := by unfold cl; split <;> omega
theorem w01 : wrap64 (0 + 1) = 1 := w64_id (by decide) (by decide)
theorem w11 : wrap64 (1 + 1) = 2 := w64_id (by decide) (by decide)
theorem and32 (a : Nat) (ha : a < 18446744073709551616) : Go.bits .and .u64 (a : Int) 4294967295 = ((a % 4294967296 : Nat) : Int) := andm 32 (by omega) a ha
theorem clean_v (t : Int) (g : good t) (a : Nat) (h : Int) (nl : Bool) (xs ys : List S33) (k m i : Nat) (ha : a < 18446744073709551616) (hi : i < 100) (hm : i < m) (hx : xs.length < 100) (hlen : ys.length = m) (hy : rd_T33 ys (i : Int) = ⟨t, (a : Int), h, nl⟩) :
    scalar_clean.l0 (k + 2) xs ys (m : Int) (i : Int) = scalar_clean.l0 k (xs ++ [⟨t, (cl t a : Int), 0, false⟩]) ys (m : Int) ((i + 1 : Nat) : Int) := by
  have e2 : wrap64 ((i : Int) + 1) = ((i + 1 : Nat) : Int) := by rw [w64_id (by omega) (by omega)]; rfl
  simp only [scalar_clean.l0]; rw [if_pos (by omega), if_pos (by omega), if_pos (by omega), hy]; rcases g with rfl | rfl | rfl | rfl
  · simp only [↓reduceIte, scalar_clean.j1, BEq.rfl]
    rw [if_pos (by omega), and32 a ha, e2]; rfl
  · simp only [↓reduceIte, scalar_clean.j1, Int.reduceEq, Int.reduceBEq, Bool.false_eq_true]
    rw [if_pos (by omega), e2]; rfl
  · simp only [↓reduceIte, scalar_clean.j1, Int.reduceEq, Int.reduceBEq, Bool.false_eq_true]
    rw [if_pos (by omega), and32 a ha, e2]; rfl
  · simp only [↓reduceIte, scalar_clean.j1, Int.reduceEq, Int.reduceBEq, Bool.false_eq_true]
    rw [if_pos (by omega), e2]; rfl
theorem clean_end (xs ys : List S33) (k m : Nat) : scalar_clean.l0 (k + 1) xs ys (m : Int) (m : Int) = some xs := by
  simp only [scalar_clean.l0]; rw [if_neg (by omega)]
theorem clean1 (t : Int) (g : good t) (a : Nat) (h : Int) (nl : Bool) (k : Nat) (ha : a < 18446744073709551616) : scalar_clean.f (k + 3) [⟨t, (a : Int), h, nl⟩] = some [⟨t, (cl t a : Int), 0, false⟩] := by
  unfold scalar_clean.f; have h := clean_v t g a h nl [] [⟨t, (a : Int), h, nl⟩] (k + 1) 1 0 ha (by omega) (by omega) (by decide) rfl rfl; exact h.trans (clean_end _ _ k 1)
theorem clean2 (t : Int) (g : good t) (a : Nat) (h : Int) (nl : Bool) (u : Int) (gu : good u) (b : Nat) (hb' : Int) (nb' : Bool) (k : Nat) (ha : a < 18446744073709551616) (hb : b < 18446744073709551616) :
    scalar_clean.f (k + 5) [⟨t, (a : Int), h, nl⟩, ⟨u, (b : Int), hb', nb'⟩] = some [⟨t, (cl t a : Int), 0, false⟩, ⟨u, (cl u b : Int), 0, false⟩] := by
  unfold scalar_clean.f; have h1 := clean_v t g a h nl [] [⟨t, (a : Int), h, nl⟩, ⟨u, (b : Int), hb', nb'⟩] (k + 3) 2 0 ha (by omega) (by omega) (by decide) rfl rfl; have h2 := clean_v u gu b hb' nb' [⟨t, (cl t a : Int), 0, false⟩] [⟨t, (a : Int), h, nl⟩, ⟨u, (b : Int), hb', nb'⟩] (k + 1) 2 1 hb (by omega) (by omega) (by show 1 < 100; omega) rfl rfl; exact h1.trans (h2.trans (clean_end _ _ k 2))
theorem width_ty (t : Int) (g : good t) : scalar_width.f t = some (nb t : Int) := by rcases g with rfl | rfl | rfl | rfl <;> rfl
def out (tl : Int) (x : Nat) (e : Int) : Int × Int × Int × Bool × Int := if e = 0 then (tl, (cl tl x : Int), 0, false, 0) else (0, 0, 0, false, e)
theorem do_j1 (t tl : Int) (g : good t) (gl : good tl) (op : Int) (l : List Int) (a b : Int) (x : Nat) (e : Int) (k : Nat) (hx : x < 18446744073709551616) (h : scalar_work.f (k + 3) op (nb t) a b = some ((x : Int), e)) :
    scalar_Do.j1 (k + 4) op (t :: l) [tl] a b = some (out tl x e) := by
  have r0 : rd (t :: l) 0 = t := rfl; have r1 : rd [tl] 0 = tl := rfl; simp only [scalar_Do.j1]; rw [if_pos (by rw [List.length_cons]; omega), r0, width_ty t g, Option.bind_some, h, Option.bind_some]; dsimp only; unfold out; by_cases c : e = 0
  · have hc := clean1 tl gl x 0 false k hx
    rw [if_pos c, if_pos c, if_pos (by show (0 : Int) < 1; decide), r1]; show ((scalar_clean.f (k + 3) [⟨tl, (x : Int), 0, false⟩]).bind _) = _
    rw [hc, Option.bind_some, if_pos (by show (0 : Int) < 1; decide)]; rfl
  · rw [if_neg c, if_neg c]
theorem sdo2 (t u tl : Int) (g : good t) (gu : good u) (gl : good tl) (op : Int) (ok : Bool) (a b x : Nat) (ha' hb' : Int) (na' nb' : Bool) (e : Int) (k : Nat) (hk : 2000 < k) (ha : a < 18446744073709551616) (hb : b < 18446744073709551616) (hx : x < 18446744073709551616)
    (hop : op < 64768) (hS : ops_Sign.f op = some ([t, u], [tl], ok)) (hN : scalar_Numeric.f op = some true) (h : ∀ k, 1000 < k → scalar_work.f k op (nb t) (cl t a : Int) (cl u b : Int) = some ((x : Int), e)) :
    scalar_Do.f k op [] [⟨t, (a : Int), ha', na'⟩, ⟨u, (b : Int), hb', nb'⟩] = some (out tl x e) := by
  obtain ⟨k, rfl⟩ : ∃ m, k = m + 9 := ⟨k - 9, by omega⟩
  unfold scalar_Do.f; rw [if_neg (by omega), hS, Option.bind_some, hN, Option.bind_some, if_pos rfl, if_neg (by decide), if_pos (by show (2 : Int) = 2; rfl)]; have f0 : (rd_T33 [⟨t, (a : Int), ha', na'⟩, ⟨u, (b : Int), hb', nb'⟩] 0).f0 = rd [t, u] 0 := rfl; have f1 : (rd_T33 [⟨t, (a : Int), ha', na'⟩, ⟨u, (b : Int), hb', nb'⟩] 1).f0 = rd [t, u] 1 := rfl; have L : (([⟨t, (a : Int), ha', na'⟩, ⟨u, (b : Int), hb', nb'⟩] : List S33).length : Int) = 2 := rfl; have L2 : (([t, u] : List Int).length : Int) = 2 := rfl; have L3 : (([⟨t, (cl t a : Int), 0, false⟩, ⟨u, (cl u b : Int), 0, false⟩] : List S33).length : Int) = 2 := rfl; simp only [scalar_Do.l0, L, L2, w01, w11, f0, f1, Int.reduceLT, Int.reduceLE, ↓reduceIte]; rw [show k + 5 + 1 = (k + 1) + 5 by omega, clean2 t g a ha' na' u gu b hb' nb' (k + 1) ha hb, Option.bind_some]; simp only [L3, Int.reduceLT, Int.reduceGT, ↓reduceIte]; exact do_j1 t tl g gl op [u] (cl t a : Int) (cl u b : Int) x e (k + 2) hx (h _ (by omega))
theorem sdo1 (t tl : Int) (g : good t) (gl : good tl) (op : Int) (ok : Bool) (a x : Nat) (ha' : Int) (na' : Bool) (e : Int) (k : Nat) (hk : 2000 < k) (ha : a < 18446744073709551616) (hx : x < 18446744073709551616)
    (hop : op < 64768) (hS : ops_Sign.f op = some ([t], [tl], ok)) (hN : scalar_Numeric.f op = some true) (h : ∀ k, 1000 < k → scalar_work.f k op (nb t) (cl t a : Int) 0 = some ((x : Int), e)) :
    scalar_Do.f k op [] [⟨t, (a : Int), ha', na'⟩] = some (out tl x e) := by
  obtain ⟨k, rfl⟩ : ∃ m, k = m + 9 := ⟨k - 9, by omega⟩
  unfold scalar_Do.f; rw [if_neg (by omega), hS, Option.bind_some, hN, Option.bind_some, if_pos rfl, if_neg (by decide), if_pos (by show (1 : Int) = 1; rfl)]; have f0 : (rd_T33 [⟨t, (a : Int), ha', na'⟩] 0).f0 = rd [t] 0 := rfl; have L : (([⟨t, (a : Int), ha', na'⟩] : List S33).length : Int) = 1 := rfl; have L2 : (([t] : List Int).length : Int) = 1 := rfl; have L3 : (([⟨t, (cl t a : Int), 0, false⟩] : List S33).length : Int) = 1 := rfl; simp only [scalar_Do.l0, L, L2, w01, f0, Int.reduceLT, Int.reduceLE, ↓reduceIte]; rw [show k + 6 + 1 = (k + 4) + 3 by omega, clean1 t g a ha' na' (k + 4) ha, Option.bind_some]; simp only [L3, Int.reduceLT, Int.reduceGT, ↓reduceIte]; exact do_j1 t tl g gl op [] (cl t a : Int) 0 x e (k + 3) hx (h _ (by omega))
theorem bits_ty (t : Int) (g : good t) : bodkinref07_Bits.f t = some (nb t : Int) := by rcases g with rfl | rfl | rfl | rfl <;> rfl
theorem rclean (t : Int) (g : good t) (a k : Nat) (ha : a < 18446744073709551616) (hk : 100 < k) : bodkinref07_Clean.f k t a 0 false = some (t, (cl t a : Int), 0, false) := by
  obtain ⟨k, rfl⟩ : ∃ m, k = m + 1 := ⟨k - 1, by omega⟩
  unfold bodkinref07_Clean.f; rcases g with rfl | rfl | rfl | rfl
  · simp only [bodkinref07_Clean.j0, ↓reduceIte, BEq.rfl]
    rw [show (32 : Int) = ((32 : Nat) : Int) from rfl, cut_f 32 a k (by omega) ha (by omega)]; rfl
  · simp only [bodkinref07_Clean.j0, Int.reduceEq, Int.reduceBEq, ↓reduceIte, Bool.false_eq_true]; rfl
  · simp only [bodkinref07_Clean.j0, Int.reduceEq, Int.reduceBEq, ↓reduceIte, Bool.false_eq_true]
    rw [show (32 : Int) = ((32 : Nat) : Int) from rfl, cut_f 32 a k (by omega) ha (by omega)]; rfl
  · simp only [bodkinref07_Clean.j0, Int.reduceEq, Int.reduceBEq, ↓reduceIte, Bool.false_eq_true]; rfl
theorem ref_j2 (t tl : Int) (g : good t) (gl : good tl) (l : List Int) (v : S33) (vs : List S33) (a : Nat) (b : Int) (x : Nat) (e : Int) (k : Nat) (hk : 1500 < k) (hx : x < 18446744073709551616) (c0 c2 : Int) (name c3 leaves : ByteArray) (c5 : Bool) (hv : v = ⟨t, (a : Int), 0, false⟩)
    (hsz : 4 ≤ name.size) (hL : ∀ k, 1000 < k → bodkinref05_Types.f k leaves = some [tl])
    (h : ∀ k, 1000 < k → bodkinref07_worked.f k (name.extract 0 1) (nb t) tl (name.extract 4 name.size) (a : Int) b = some ((x : Int), e)) :
    bodkinref07_Do.j2 k (t :: l) (v :: vs) b c0 name c2 c3 leaves c5 = some (out tl x e) := by
  obtain ⟨k, rfl⟩ : ∃ m, k = m + 1 := ⟨k - 1, by omega⟩
  subst hv; have r0 : rd (t :: l) 0 = t := rfl; have r1 : rd [tl] 0 = tl := rfl; have r2 : (rd_T33 ((⟨t, (a : Int), 0, false⟩ : S33) :: vs) 0).f1 = (a : Int) := rfl; have l1 : (0 : Int) < (([tl] : List Int).length : Int) := by show (0 : Int) < 1; decide
  simp only [bodkinref07_Do.j2]; rw [if_pos (by decide), if_pos (by omega), if_pos (by rw [List.length_cons]; omega), r0, bits_ty t g, Option.bind_some, hL k (by omega), Option.bind_some, if_pos l1, if_pos (by omega), if_pos (by rw [List.length_cons]; omega), r1, r2, h k (by omega), Option.bind_some]; dsimp only; unfold out; by_cases c : e = 0
  · rw [if_pos c, if_pos c, Option.bind_some, if_pos l1, r1, rclean tl gl x k hx (by omega), Option.bind_some]
  · rw [if_neg c, if_neg c]
theorem rdo2 (t u tl : Int) (g : good t) (gu : good u) (gl : good tl) (op : Int) (a b x : Nat) (e : Int) (k : Nat) (hk : 2000 < k) (ha : a < 18446744073709551616) (hb : b < 18446744073709551616) (hx : x < 18446744073709551616) (r : Int × ByteArray × Int × ByteArray × ByteArray × Bool)
    (hop : op < 64768) (hO : ∀ k, 1000 < k → bodkinref05_Of.f k op = some r) (hT : ∀ k, 1000 < k → bodkinref05_Types.f k r.2.2.2.1 = some [t, u]) (hL : ∀ k, 1000 < k → bodkinref05_Types.f k r.2.2.2.2.1 = some [tl]) (hN : ∀ k, 1000 < k → bodkinref07_Numeric.f k op = some true)
    (hsz : 4 ≤ r.2.1.size) (h : ∀ k, 1000 < k → bodkinref07_worked.f k (r.2.1.extract 0 1) (nb t) tl (r.2.1.extract 4 r.2.1.size) (cl t a : Int) (cl u b : Int) = some ((x : Int), e)) :
    bodkinref07_Do.f k op [] [⟨t, (a : Int), 0, false⟩, ⟨u, (b : Int), 0, false⟩] = some (out tl x e) := by
  obtain ⟨k, rfl⟩ : ∃ m, k = m + 9 := ⟨k - 9, by omega⟩
  unfold bodkinref07_Do.f; have f0 : (rd_T33 [⟨t, (a : Int), 0, false⟩, ⟨u, (b : Int), 0, false⟩] 0) = ⟨t, (a : Int), 0, false⟩ := rfl; have f1 : (rd_T33 [⟨t, (a : Int), 0, false⟩, ⟨u, (b : Int), 0, false⟩] 1) = ⟨u, (b : Int), 0, false⟩ := rfl; have g0 : rd [t, u] 0 = t := rfl; have g1 : rd [t, u] 1 = u := rfl; have L : (([⟨t, (a : Int), 0, false⟩, ⟨u, (b : Int), 0, false⟩] : List S33).length : Int) = 2 := rfl; have L2 : (([t, u] : List Int).length : Int) = 2 := rfl; rw [hO _ (by omega), Option.bind_some, hT _ (by omega), Option.bind_some, hN _ (by omega), Option.bind_some, if_pos rfl, if_pos (by rw [L, L2]), if_pos hop]; simp only [bodkinref07_Do.j0, bodkinref07_Do.l0, L, L2, w01, w11, f0, f1, g0, g1, Int.reduceLT, Int.reduceLE, ↓reduceIte, List.length_nil, Int.reduceGT, Int.natCast_zero, decide_false, Bool.false_eq_true, gt_iff_lt]; rw [rclean t g a _ ha (by omega), Option.bind_some, rclean u gu b _ hb (by omega), if_pos (by decide), Option.bind_some]; dsimp only; have q : ([] ++ [(⟨t, (cl t a : Int), 0, false⟩ : S33)] ++ [(⟨u, (cl u b : Int), 0, false⟩ : S33)] : List S33) = [⟨t, (cl t a : Int), 0, false⟩, ⟨u, (cl u b : Int), 0, false⟩] := rfl; have L3 : (([⟨t, (cl t a : Int), 0, false⟩, ⟨u, (cl u b : Int), 0, false⟩] : List S33).length : Int) = 2 := rfl; have f2 : (rd_T33 [⟨t, (cl t a : Int), 0, false⟩, ⟨u, (cl u b : Int), 0, false⟩] 1).f1 = (cl u b : Int) := rfl; rw [if_pos (by show 1 < 4398046511104; decide), q, L3, if_neg (by omega), if_pos rfl, if_pos (by decide), f2]; exact ref_j2 t tl g gl [u] _ _ (cl t a) _ x e _ (by omega) hx _ _ _ _ _ _ rfl hsz hL h
theorem rdo1 (t tl : Int) (g : good t) (gl : good tl) (op : Int) (a x : Nat) (e : Int) (k : Nat) (hk : 2000 < k) (ha : a < 18446744073709551616) (hx : x < 18446744073709551616) (r : Int × ByteArray × Int × ByteArray × ByteArray × Bool)
    (hop : op < 64768) (hO : ∀ k, 1000 < k → bodkinref05_Of.f k op = some r) (hT : ∀ k, 1000 < k → bodkinref05_Types.f k r.2.2.2.1 = some [t]) (hL : ∀ k, 1000 < k → bodkinref05_Types.f k r.2.2.2.2.1 = some [tl]) (hN : ∀ k, 1000 < k → bodkinref07_Numeric.f k op = some true)
    (hsz : 4 ≤ r.2.1.size) (h : ∀ k, 1000 < k → bodkinref07_worked.f k (r.2.1.extract 0 1) (nb t) tl (r.2.1.extract 4 r.2.1.size) (cl t a : Int) 0 = some ((x : Int), e)) :
    bodkinref07_Do.f k op [] [⟨t, (a : Int), 0, false⟩] = some (out tl x e) := by
  obtain ⟨k, rfl⟩ : ∃ m, k = m + 9 := ⟨k - 9, by omega⟩
  unfold bodkinref07_Do.f; have f0 : (rd_T33 [⟨t, (a : Int), 0, false⟩] 0) = ⟨t, (a : Int), 0, false⟩ := rfl; have g0 : rd [t] 0 = t := rfl; have L : (([⟨t, (a : Int), 0, false⟩] : List S33).length : Int) = 1 := rfl; have L2 : (([t] : List Int).length : Int) = 1 := rfl; rw [hO _ (by omega), Option.bind_some, hT _ (by omega), Option.bind_some, hN _ (by omega), Option.bind_some, if_pos rfl, if_pos (by rw [L, L2]), if_pos hop]; simp only [bodkinref07_Do.j0, bodkinref07_Do.l0, L, L2, w01, f0, g0, Int.reduceLT, Int.reduceLE, ↓reduceIte, List.length_nil, Int.reduceGT, Int.natCast_zero, decide_false, Bool.false_eq_true, gt_iff_lt]; rw [rclean t g a _ ha (by omega), Option.bind_some, if_pos (by decide)]; dsimp only; have q : ([] ++ [(⟨t, (cl t a : Int), 0, false⟩ : S33)] : List S33) = [⟨t, (cl t a : Int), 0, false⟩] := rfl; have L3 : (([⟨t, (cl t a : Int), 0, false⟩] : List S33).length : Int) = 1 := rfl; rw [q, L3, if_neg (by omega), if_neg (by decide)]; exact ref_j2 t tl g gl [] _ _ (cl t a) _ x e _ (by omega) hx _ _ _ _ _ _ rfl hsz hL h
def facts (op : Int) (l : List Int) (tl : Int) (p : ByteArray → ByteArray → Bool) : Bool :=
  match bodkinref05_Of.f 900 op with
  | none => false
  | some r =>
    decide (bodkinref05_Types.f 900 r.2.2.2.1 = some l) && (decide (bodkinref05_Types.f 900 r.2.2.2.2.1 = some [tl]) && (decide (bodkinref07_Numeric.f 900 op = some true) && (decide (4 ≤ r.2.1.size) && (p (r.2.1.extract 0 1) (r.2.1.extract 4 r.2.1.size) && (decide (ops_Sign.f op = some (l, [tl], true)) && decide (scalar_Numeric.f op = some true))))))
theorem same_out (x y : Int × Int × Int × Bool × Int) (h : x = y) {α : Type} (p q r : α) : (if (!(x.1 == y.1) || (!(x.2.1 == y.2.1) || (!(x.2.2.1 == y.2.2.1) || (!(x.2.2.2.1 == y.2.2.2.1))))) = true then p else (if x.2.2.2.2 = y.2.2.2.2 then q else r)) = q := by
  subst h; simp
theorem step2 (t u tl : Int) (g : good t) (gu : good u) (gl : good tl) (op tt : Int) (a b x : Nat) (e : Int) (k : Nat) (p : ByteArray → ByteArray → Bool) (hop : 0 ≤ op ∧ op < 64768) (ha : a < 18446744073709551616) (hb : b < 18446744073709551616) (hx : x < 18446744073709551616) (hto : op ≤ tt) (hk : 3000 < k) (hf : facts op [t, u] tl p = true)
    (h : ∀ k, 1000 < k → scalar_work.f k op (nb t) (cl t a : Int) (cl u b : Int) = some ((x : Int), e))
    (h' : ∀ kd w : ByteArray, p kd w = true → ∀ k, 1000 < k → bodkinref07_worked.f k kd (nb t) tl w (cl t a : Int) (cl u b : Int) = some ((x : Int), e)) :
    bodkinlaw07_some.l0 (k + 4) tt a b op = bodkinlaw07_some.l0 k tt a b (op + 1) := by
  unfold facts at hf; generalize hO : bodkinref05_Of.f 900 op = o at hf
  cases o with
  | none => cases hf
  | some r =>
    dsimp only at hf; simp only [Bool.and_eq_true, decide_eq_true_eq] at hf; obtain ⟨hT, hL, hN, hz, hp, hS, hM⟩ := hf; have lO := lift (fun k => bodkinref05_Of.f k op) (fun k => bodkinref05_Of.mono op k) r 900 hO; have lT := lift (fun k => bodkinref05_Types.f k r.2.2.2.1) (fun k => bodkinref05_Types.mono _ k) _ 900 hT; have lL := lift (fun k => bodkinref05_Types.f k r.2.2.2.2.1) (fun k => bodkinref05_Types.mono _ k) _ 900 hL; have lN := lift (fun k => bodkinref07_Numeric.f k op) (fun k => bodkinref07_Numeric.mono _ k) _ 900 hN; have pa := sdo2 t u tl g gu gl op true a b x 0 0 false false e k (by omega) ha hb hx (by omega) hS hM h; have pb := rdo2 t u tl g gu gl op a b x e k (by omega) ha hb hx r (by omega) (fun k hk => lO k (by omega)) (fun k hk => lT k (by omega)) (fun k hk => lL k (by omega)) (fun k hk => lN k (by omega)) hz (h' _ _ hp); have e1 : wrap64 (op + 1) = op + 1 := w64_id (by omega) (by omega); have L : (([t, u] : List Int).length : Int) = 2 := rfl; have g0 : rd [t, u] 0 = t := rfl; have g1 : rd [(a : Int), (b : Int)] 0 = (a : Int) := rfl; have g2 : rd [t, u] 1 = u := rfl; have g3 : rd [(a : Int), (b : Int)] 1 = (b : Int) := rfl; have L2 : (([(a : Int), (b : Int)] : List Int).length : Int) = 2 := rfl; have q : ([] ++ [(⟨t, (a : Int), 0, false⟩ : S33)] : List S33) = [⟨t, (a : Int), 0, false⟩] := rfl; have q2 : ([⟨t, (a : Int), 0, false⟩] ++ [(⟨u, (b : Int), 0, false⟩ : S33)] : List S33) = [⟨t, (a : Int), 0, false⟩, ⟨u, (b : Int), 0, false⟩] := rfl; have M1 : ([⟨t, (a : Int), 0, false⟩] : List S33).length < 4398046511104 := by show 1 < 4398046511104; decide
    simp only [bodkinlaw07_some.l0]; rw [if_pos hto, lO _ (by omega), Option.bind_some, lT _ (by omega), Option.bind_some]; simp only [bodkinlaw07_some.l1, L, L2, g0, g1, g2, g3, w01, w11, q, q2, Int.reduceLT, Int.reduceLE, ↓reduceIte, Option.bind_some]; rw [if_pos (by decide), if_pos M1, pa, Option.bind_some, pb, Option.bind_some, same_out _ _ rfl, e1]
theorem step1 (t tl : Int) (g : good t) (gl : good tl) (op tt : Int) (a b x : Nat) (e : Int) (k : Nat) (p : ByteArray → ByteArray → Bool) (hop : 0 ≤ op ∧ op < 64768) (ha : a < 18446744073709551616) (hx : x < 18446744073709551616) (hto : op ≤ tt) (hk : 3000 < k) (hf : facts op [t] tl p = true)
    (h : ∀ k, 1000 < k → scalar_work.f k op (nb t) (cl t a : Int) 0 = some ((x : Int), e))
    (h' : ∀ kd w : ByteArray, p kd w = true → ∀ k, 1000 < k → bodkinref07_worked.f k kd (nb t) tl w (cl t a : Int) 0 = some ((x : Int), e)) :
    bodkinlaw07_some.l0 (k + 3) tt a b op = bodkinlaw07_some.l0 k tt a b (op + 1) := by
  unfold facts at hf; generalize hO : bodkinref05_Of.f 900 op = o at hf
  cases o with
  | none => cases hf
  | some r =>
    dsimp only at hf; simp only [Bool.and_eq_true, decide_eq_true_eq] at hf; obtain ⟨hT, hL, hN, hz, hp, hS, hM⟩ := hf; have lO := lift (fun k => bodkinref05_Of.f k op) (fun k => bodkinref05_Of.mono op k) r 900 hO; have lT := lift (fun k => bodkinref05_Types.f k r.2.2.2.1) (fun k => bodkinref05_Types.mono _ k) _ 900 hT; have lL := lift (fun k => bodkinref05_Types.f k r.2.2.2.2.1) (fun k => bodkinref05_Types.mono _ k) _ 900 hL; have lN := lift (fun k => bodkinref07_Numeric.f k op) (fun k => bodkinref07_Numeric.mono _ k) _ 900 hN; have pa := sdo1 t tl g gl op true a x 0 false e k (by omega) ha hx (by omega) hS hM h; have pb := rdo1 t tl g gl op a x e k (by omega) ha hx r (by omega) (fun k hk => lO k (by omega)) (fun k hk => lT k (by omega)) (fun k hk => lL k (by omega)) (fun k hk => lN k (by omega)) hz (h' _ _ hp); have e1 : wrap64 (op + 1) = op + 1 := w64_id (by omega) (by omega); have L : (([t] : List Int).length : Int) = 1 := rfl; have g0 : rd [t] 0 = t := rfl; have g1 : rd [(a : Int), (b : Int)] 0 = (a : Int) := rfl; have L2 : (([(a : Int), (b : Int)] : List Int).length : Int) = 2 := rfl; have q : ([] ++ [(⟨t, (a : Int), 0, false⟩ : S33)] : List S33) = [⟨t, (a : Int), 0, false⟩] := rfl; simp only [bodkinlaw07_some.l0]; rw [if_pos hto, lO _ (by omega), Option.bind_some, lT _ (by omega), Option.bind_some]; simp only [bodkinlaw07_some.l1, L, L2, g0, g1, w01, q, Int.reduceLT, Int.reduceLE, ↓reduceIte, Option.bind_some]; rw [if_pos (by decide), pa, Option.bind_some, pb, Option.bind_some, same_out _ _ rfl, e1]
def Q (tt a b op : Int) : Prop := ∃ k, 3000 < k ∧ bodkinlaw07_some.l0 k tt a b op = some true
theorem Q_end (tt a b : Int) : Q tt a b (tt + 1) := ⟨3001, by omega, by simp only [bodkinlaw07_some.l0]; rw [if_neg (by omega)]⟩
theorem u64_nat (a : Int) (h : (Lit.int .u64 a).wf = true) : ∃ n : Nat, a = (n : Int) ∧ n < 18446744073709551616 := by
  have h2 : 0 ≤ a ∧ a < 18446744073709551616 := by
    simp [Lit.wf, IntKind.min, IntKind.max, IntKind.bits, IntKind.signed] at h
    omega
  exact ⟨a.toNat, by omega, by omega⟩
end Go.Proofs.YtkhhhceeoljheaaGreatDoor.Pure
set_option linter.unusedVariables false
set_option linter.unusedSimpArgs false
namespace Go.Proofs.YtkhhhceeoljheaaGreatDoor.Pure
open Go.RowKit Go.Proofs.YtkhhhceeoljheaaGreatDoorW.PrintWords Go.Proofs.YtkhhhceeoljheaaGreatDoorW.PrintLast Go.Proofs.YtkhhhceeoljheaaGreatDoorW.PrintMore Go.Proofs.YtkhhhceeoljheaaGreatDoor.PFlo Go.Proofs.YtkhhhceeoljheaaGreatDoor.Fl Ieee
def pN (nm : List UInt8) (kd w : ByteArray) : Bool := decide (kd.data.toList = [102]) && decide (w.data.toList = nm)
theorem pN_is {nm : List UInt8} {kd w : ByteArray} (h : pN nm kd w = true) : kd = ⟨#[102]⟩ ∧ w = ⟨nm.toArray⟩ := by
  unfold pN at h; simp only [Bool.and_eq_true, decide_eq_true_eq] at h; refine ⟨?_, ?_⟩
  · cases kd; rename_i x; cases x; rename_i l; have h1 : l = [102] := h.1; rw [h1]
  · cases w; rename_i x; cases x; rename_i l; have h1 : l = nm := h.2; rw [h1]
theorem ilift (w : ByteArray) (l : List ByteArray) (r : Int) (h : bodkinref07_index.f 40 w l = some r) : ∀ k, 40 ≤ k → bodkinref07_index.f k w l = some r := lift (fun k => bodkinref07_index.f k w l) (fun k => bodkinref07_index.mono w l k) r 40 h
def relfL : List ByteArray := [(⟨#[]⟩ : ByteArray), (⟨#[101, 113]⟩ : ByteArray), (⟨#[110, 101]⟩ : ByteArray), (⟨#[108, 116]⟩ : ByteArray), (⟨#[103, 116]⟩ : ByteArray), (⟨#[108, 101]⟩ : ByteArray), (⟨#[103, 101]⟩ : ByteArray)]
def unL : List ByteArray := [(⟨#[]⟩ : ByteArray), (⟨#[97, 98, 115]⟩ : ByteArray), (⟨#[110, 101, 103]⟩ : ByteArray), (⟨#[115, 113, 114, 116]⟩ : ByteArray), (⟨#[99, 101, 105, 108]⟩ : ByteArray), (⟨#[102, 108, 111, 111, 114]⟩ : ByteArray), (⟨#[116, 114, 117, 110, 99]⟩ : ByteArray), (⟨#[110, 101, 97, 114, 101, 115, 116]⟩ : ByteArray)]
def binL : List ByteArray := [(⟨#[]⟩ : ByteArray), (⟨#[97, 100, 100]⟩ : ByteArray), (⟨#[115, 117, 98]⟩ : ByteArray), (⟨#[109, 117, 108]⟩ : ByteArray), (⟨#[100, 105, 118]⟩ : ByteArray), (⟨#[109, 105, 110]⟩ : ByteArray), (⟨#[109, 97, 120]⟩ : ByteArray), (⟨#[99, 111, 112, 121, 115, 105, 103, 110]⟩ : ByteArray)]
theorem bindp (o : Option (Int × Int)) : (o.bind fun p => some (p.1, p.2)) = o := by cases o <;> rfl
theorem j0_un (w : ByteArray) (n : Nat) (t a b v : Int) (k : Nat) (hk : 100 < k) (h1 : bodkinref07_index.f 40 w relfL = some (-1)) (h2 : bodkinref07_index.f 40 w unL = some v) (hv : v > 0) : bodkinref07_worked.j0 k ⟨#[102]⟩ n t w a b false = bodkinref03_Un.f n v a := by
  obtain ⟨k, rfl⟩ : ∃ m, k = m + 1 := ⟨k - 1, by omega⟩
  have e1 := ilift w relfL _ h1 k (by omega); have e2 := ilift w unL _ h2 k (by omega); unfold relfL at e1; unfold unL at e2; simp only [bodkinref07_worked.j0]; rw [if_neg (by decide), if_pos (by decide +kernel), e1, Option.bind_some, if_neg (by decide), e2, Option.bind_some, if_pos hv, bindp]
theorem j0_bin (w : ByteArray) (n : Nat) (t a b v : Int) (k : Nat) (hk : 100 < k) (h1 : bodkinref07_index.f 40 w relfL = some (-1)) (h2 : bodkinref07_index.f 40 w unL = some (-1)) (h3 : bodkinref07_index.f 40 w binL = some v) : bodkinref07_worked.j0 k ⟨#[102]⟩ n t w a b false = bodkinref03_Bin.f n v a b := by
  obtain ⟨k, rfl⟩ : ∃ m, k = m + 1 := ⟨k - 1, by omega⟩
  have e1 := ilift w relfL _ h1 k (by omega); have e2 := ilift w unL _ h2 k (by omega); have e3 := ilift w binL _ h3 k (by omega); unfold relfL at e1; unfold unL at e2; unfold binL at e3; simp only [bodkinref07_worked.j0]; rw [if_neg (by decide), if_pos (by decide +kernel), e1, Option.bind_some, if_neg (by decide), e2, Option.bind_some, if_neg (by decide), e3, Option.bind_some, bindp]
theorem rf_abs (kd w : ByteArray) (n : Nat) (t a b : Int) (k : Nat) (hk : 100 < k) (h : pN [97, 98, 115] kd w = true) : bodkinref07_worked.f k kd n t w a b = bodkinref03_Un.f n 1 a := by
  obtain ⟨rfl, rfl⟩ := pN_is h; unfold bodkinref07_worked.f; rw [if_neg (by decide +kernel), if_neg (by decide +kernel), if_neg (by decide +kernel), if_neg (by decide +kernel)]; exact j0_un _ n t a b 1 k hk (by decide +kernel) (by decide +kernel) (by decide)
theorem rf_neg (kd w : ByteArray) (n : Nat) (t a b : Int) (k : Nat) (hk : 100 < k) (h : pN [110, 101, 103] kd w = true) : bodkinref07_worked.f k kd n t w a b = bodkinref03_Un.f n 2 a := by
  obtain ⟨rfl, rfl⟩ := pN_is h; unfold bodkinref07_worked.f; rw [if_neg (by decide +kernel), if_neg (by decide +kernel), if_neg (by decide +kernel), if_neg (by decide +kernel)]; exact j0_un _ n t a b 2 k hk (by decide +kernel) (by decide +kernel) (by decide)
theorem rf_ceil (kd w : ByteArray) (n : Nat) (t a b : Int) (k : Nat) (hk : 100 < k) (h : pN [99, 101, 105, 108] kd w = true) : bodkinref07_worked.f k kd n t w a b = bodkinref03_Un.f n 4 a := by
  obtain ⟨rfl, rfl⟩ := pN_is h; unfold bodkinref07_worked.f; rw [if_neg (by decide +kernel), if_neg (by decide +kernel), if_neg (by decide +kernel), if_neg (by decide +kernel)]; exact j0_un _ n t a b 4 k hk (by decide +kernel) (by decide +kernel) (by decide)
theorem rf_floor (kd w : ByteArray) (n : Nat) (t a b : Int) (k : Nat) (hk : 100 < k) (h : pN [102, 108, 111, 111, 114] kd w = true) : bodkinref07_worked.f k kd n t w a b = bodkinref03_Un.f n 5 a := by
  obtain ⟨rfl, rfl⟩ := pN_is h; unfold bodkinref07_worked.f; rw [if_neg (by decide +kernel), if_neg (by decide +kernel), if_neg (by decide +kernel), if_neg (by decide +kernel)]; exact j0_un _ n t a b 5 k hk (by decide +kernel) (by decide +kernel) (by decide)
theorem rf_trunc (kd w : ByteArray) (n : Nat) (t a b : Int) (k : Nat) (hk : 100 < k) (h : pN [116, 114, 117, 110, 99] kd w = true) : bodkinref07_worked.f k kd n t w a b = bodkinref03_Un.f n 6 a := by
  obtain ⟨rfl, rfl⟩ := pN_is h; unfold bodkinref07_worked.f; rw [if_neg (by decide +kernel), if_neg (by decide +kernel), if_neg (by decide +kernel), if_neg (by decide +kernel)]; exact j0_un _ n t a b 6 k hk (by decide +kernel) (by decide +kernel) (by decide)
theorem rf_nearest (kd w : ByteArray) (n : Nat) (t a b : Int) (k : Nat) (hk : 100 < k) (h : pN [110, 101, 97, 114, 101, 115, 116] kd w = true) : bodkinref07_worked.f k kd n t w a b = bodkinref03_Un.f n 7 a := by
  obtain ⟨rfl, rfl⟩ := pN_is h; unfold bodkinref07_worked.f; rw [if_neg (by decide +kernel), if_neg (by decide +kernel), if_neg (by decide +kernel), if_pos (by decide +kernel), if_pos (by decide +kernel), if_pos (by decide +kernel), if_neg (by decide +kernel), if_pos (by decide +kernel), if_pos (by decide +kernel), if_neg (by decide +kernel), if_neg (by decide +kernel), show (((⟨#[110, 101, 97, 114, 101, 115, 116]⟩ : ByteArray).extract 0 6).toList == ([114, 101, 105, 110, 116, 101] : List UInt8)) = false from by decide +kernel]; exact j0_un _ n t a b 7 k hk (by decide +kernel) (by decide +kernel) (by decide)
theorem rf_sqrt (kd w : ByteArray) (n : Nat) (t a b : Int) (k : Nat) (hk : 100 < k) (h : pN [115, 113, 114, 116] kd w = true) : bodkinref07_worked.f k kd n t w a b = bodkinref03_Un.f n 3 a := by
  obtain ⟨rfl, rfl⟩ := pN_is h; unfold bodkinref07_worked.f; rw [if_neg (by decide +kernel), if_neg (by decide +kernel), if_neg (by decide +kernel), if_neg (by decide +kernel)]; exact j0_un _ n t a b 3 k hk (by decide +kernel) (by decide +kernel) (by decide)
theorem rf_add (kd w : ByteArray) (n : Nat) (t a b : Int) (k : Nat) (hk : 100 < k) (h : pN [97, 100, 100] kd w = true) : bodkinref07_worked.f k kd n t w a b = bodkinref03_Bin.f n 1 a b := by
  obtain ⟨rfl, rfl⟩ := pN_is h; unfold bodkinref07_worked.f; rw [if_neg (by decide +kernel), if_neg (by decide +kernel), if_neg (by decide +kernel), if_neg (by decide +kernel)]; exact j0_bin _ n t a b 1 k hk (by decide +kernel) (by decide +kernel) (by decide +kernel)
theorem rf_sub (kd w : ByteArray) (n : Nat) (t a b : Int) (k : Nat) (hk : 100 < k) (h : pN [115, 117, 98] kd w = true) : bodkinref07_worked.f k kd n t w a b = bodkinref03_Bin.f n 2 a b := by
  obtain ⟨rfl, rfl⟩ := pN_is h; unfold bodkinref07_worked.f; rw [if_neg (by decide +kernel), if_neg (by decide +kernel), if_neg (by decide +kernel), if_neg (by decide +kernel)]; exact j0_bin _ n t a b 2 k hk (by decide +kernel) (by decide +kernel) (by decide +kernel)
theorem rf_mul (kd w : ByteArray) (n : Nat) (t a b : Int) (k : Nat) (hk : 100 < k) (h : pN [109, 117, 108] kd w = true) : bodkinref07_worked.f k kd n t w a b = bodkinref03_Bin.f n 3 a b := by
  obtain ⟨rfl, rfl⟩ := pN_is h; unfold bodkinref07_worked.f; rw [if_neg (by decide +kernel), if_neg (by decide +kernel), if_neg (by decide +kernel), if_neg (by decide +kernel)]; exact j0_bin _ n t a b 3 k hk (by decide +kernel) (by decide +kernel) (by decide +kernel)
theorem rf_div (kd w : ByteArray) (n : Nat) (t a b : Int) (k : Nat) (hk : 100 < k) (h : pN [100, 105, 118] kd w = true) : bodkinref07_worked.f k kd n t w a b = bodkinref03_Bin.f n 4 a b := by
  obtain ⟨rfl, rfl⟩ := pN_is h; unfold bodkinref07_worked.f; rw [if_neg (by decide +kernel), if_neg (by decide +kernel), if_neg (by decide +kernel), if_neg (by decide +kernel)]; exact j0_bin _ n t a b 4 k hk (by decide +kernel) (by decide +kernel) (by decide +kernel)
theorem rf_min (kd w : ByteArray) (n : Nat) (t a b : Int) (k : Nat) (hk : 100 < k) (h : pN [109, 105, 110] kd w = true) : bodkinref07_worked.f k kd n t w a b = bodkinref03_Bin.f n 5 a b := by
  obtain ⟨rfl, rfl⟩ := pN_is h; unfold bodkinref07_worked.f; rw [if_neg (by decide +kernel), if_neg (by decide +kernel), if_neg (by decide +kernel), if_neg (by decide +kernel)]; exact j0_bin _ n t a b 5 k hk (by decide +kernel) (by decide +kernel) (by decide +kernel)
theorem rf_max (kd w : ByteArray) (n : Nat) (t a b : Int) (k : Nat) (hk : 100 < k) (h : pN [109, 97, 120] kd w = true) : bodkinref07_worked.f k kd n t w a b = bodkinref03_Bin.f n 6 a b := by
  obtain ⟨rfl, rfl⟩ := pN_is h; unfold bodkinref07_worked.f; rw [if_neg (by decide +kernel), if_neg (by decide +kernel), if_neg (by decide +kernel), if_neg (by decide +kernel)]; exact j0_bin _ n t a b 6 k hk (by decide +kernel) (by decide +kernel) (by decide +kernel)
theorem rf_copysign (kd w : ByteArray) (n : Nat) (t a b : Int) (k : Nat) (hk : 100 < k) (h : pN [99, 111, 112, 121, 115, 105, 103, 110] kd w = true) : bodkinref07_worked.f k kd n t w a b = bodkinref03_Bin.f n 7 a b := by
  obtain ⟨rfl, rfl⟩ := pN_is h; unfold bodkinref07_worked.f; rw [if_neg (by decide +kernel), if_neg (by decide +kernel), if_pos (by decide +kernel), if_pos (by decide +kernel), if_pos (by decide +kernel), if_neg (by decide +kernel), if_pos (by decide +kernel), if_pos (by decide +kernel), if_neg (by decide +kernel), if_pos (by decide +kernel), if_pos (by decide +kernel), if_pos (by decide +kernel), if_neg (by decide +kernel), if_pos (by decide +kernel), if_pos (by decide +kernel), if_neg (by decide +kernel), if_neg (by decide +kernel), show (((⟨#[99, 111, 112, 121, 115, 105, 103, 110]⟩ : ByteArray).extract 0 6).toList == ([114, 101, 105, 110, 116, 101] : List UInt8)) = false from by decide +kernel]; exact j0_bin _ n t a b 7 k hk (by decide +kernel) (by decide +kernel) (by decide +kernel)
def nmU (j : Int) : List UInt8 := if j = 0 then [97, 98, 115] else if j = 1 then [110, 101, 103] else if j = 2 then [99, 101, 105, 108] else if j = 3 then [102, 108, 111, 111, 114] else if j = 4 then [116, 114, 117, 110, 99] else if j = 5 then [110, 101, 97, 114, 101, 115, 116] else [115, 113, 114, 116]
def nmB (j : Int) : List UInt8 := if j = 1 then [97, 100, 100] else if j = 2 then [115, 117, 98] else if j = 3 then [109, 117, 108] else if j = 4 then [100, 105, 118] else if j = 5 then [109, 105, 110] else if j = 6 then [109, 97, 120] else [99, 111, 112, 121, 115, 105, 103, 110]
theorem sev0 {j : Int} (h : 0 ≤ j ∧ j ≤ 6) : j = 0 ∨ j = 1 ∨ j = 2 ∨ j = 3 ∨ j = 4 ∨ j = 5 ∨ j = 6 := by omega
theorem sev1 {j : Int} (h : 1 ≤ j ∧ j ≤ 7) : j = 1 ∨ j = 2 ∨ j = 3 ∨ j = 4 ∨ j = 5 ∨ j = 6 ∨ j = 7 := by omega
theorem rf_un (kd w : ByteArray) (n : Nat) (t a b j : Int) (hj : 0 ≤ j ∧ j ≤ 6) (k : Nat) (hk : 100 < k) (h : pN (nmU j) kd w = true) : bodkinref07_worked.f k kd n t w a b = bodkinref03_Un.f n (flo j) a := by
  rcases sev0 hj with rfl | rfl | rfl | rfl | rfl | rfl | rfl
  · exact rf_abs kd w n t a b k hk h
  · exact rf_neg kd w n t a b k hk h
  · exact rf_ceil kd w n t a b k hk h
  · exact rf_floor kd w n t a b k hk h
  · exact rf_trunc kd w n t a b k hk h
  · exact rf_nearest kd w n t a b k hk h
  · exact rf_sqrt kd w n t a b k hk h
theorem rf_bin (kd w : ByteArray) (n : Nat) (t a b j : Int) (hj : 1 ≤ j ∧ j ≤ 7) (k : Nat) (hk : 100 < k) (h : pN (nmB j) kd w = true) : bodkinref07_worked.f k kd n t w a b = bodkinref03_Bin.f n j a b := by
  rcases sev1 hj with rfl | rfl | rfl | rfl | rfl | rfl | rfl
  · exact rf_add kd w n t a b k hk h
  · exact rf_sub kd w n t a b k hk h
  · exact rf_mul kd w n t a b k hk h
  · exact rf_div kd w n t a b k hk h
  · exact rf_min kd w n t a b k hk h
  · exact rf_max kd w n t a b k hk h
  · exact rf_copysign kd w n t a b k hk h
theorem un_v (n : Nat) (hn : n = 32 ∨ n = 64) (v : Int) (hv : 1 ≤ v ∧ v ≤ 7) (c : Nat) (hc : c < 18446744073709551616) (hl : n = 32 → c < 4294967296) : ∃ x : Nat, x < 18446744073709551616 ∧ bodkinref03_Un.f n v c = some ((x : Int), 0) := by
  unfold bodkinref03_Un.f; rw [if_pos ⟨by omega, hv.1, hv.2, by omega, by omega⟩, Int.toNat_natCast]; rcases hn with rfl | rfl
  · have h := hl rfl
    obtain ⟨u, hu, hb⟩ := un32_ok v hv c h; rw [if_pos (by decide), Nat.mod_eq_of_lt h, hu]; exact ⟨u, hb, rfl⟩
  · rw [if_neg (by decide)]
    exact ⟨_, un64_ok v hv c hc, rfl⟩
theorem bin_v (n : Nat) (hn : n = 32 ∨ n = 64) (v : Int) (hv : 1 ≤ v ∧ v ≤ 7) (c d : Nat) (hc : c < 18446744073709551616) (hd : d < 18446744073709551616) (hl : n = 32 → c < 4294967296) (hm : n = 32 → d < 4294967296) : ∃ x : Nat, x < 18446744073709551616 ∧ bodkinref03_Bin.f n v c d = some ((x : Int), 0) := by
  unfold bodkinref03_Bin.f; rw [if_pos ⟨by omega, hv.1, hv.2, by omega, by omega, by omega, by omega⟩, Int.toNat_natCast, Int.toNat_natCast]; rcases hn with rfl | rfl
  · have h := hl rfl
    have h2 := hm rfl; rw [if_pos (by decide), Nat.mod_eq_of_lt h, Nat.mod_eq_of_lt h2]; exact ⟨_, bin32_ok v hv c d h h2, rfl⟩
  · rw [if_neg (by decide)]
    exact ⟨_, bin64_ok v hv c d hc hd, rfl⟩
theorem pf_un (n : Nat) (j : Int) (hj : 0 ≤ j ∧ j ≤ 6) (c : Int) : scalar_float.f n j c = bodkinref03_Un.f n (flo j) c := by
  have hb := flo_b j hj; unfold scalar_float.f bodkinref03_Un.f; by_cases h : ((n : Int) = 32 ∨ (n : Int) = 64) ∧ 0 ≤ c ∧ c < 18446744073709551616
  · have c1 : ((n : Int) = 32 ∨ (n : Int) = 64) ∧ 0 ≤ j ∧ j ≤ 6 ∧ 0 ≤ c ∧ c < 18446744073709551616 := ⟨h.1, hj.1, hj.2, h.2.1, h.2.2⟩
    have c2 : ((n : Int) = 32 ∨ (n : Int) = 64) ∧ 1 ≤ flo j ∧ flo j ≤ 7 ∧ 0 ≤ c ∧ c < 18446744073709551616 := ⟨h.1, hb.1, hb.2, h.2.1, h.2.2⟩
    rw [if_pos c1, if_pos c2]
  · rw [if_neg (fun k => h ⟨k.1, k.2.2.2.1, k.2.2.2.2⟩), if_neg (fun k => h ⟨k.1, k.2.2.2.1, k.2.2.2.2⟩)]
theorem pf_bin (n v c d : Int) : floats_Bin.f n v c d = bodkinref03_Bin.f n v c d := rfl
theorem wk_un (n : Nat) (op j : Int) (c b : Int) (k : Nat) (hj : 0 ≤ j ∧ j ≤ 6) (h : op = 139 + j ∨ op = 153 + j) : scalar_work.f k op n c b = bodkinref03_Un.f n (flo j) c := by
  unfold scalar_work.f; rw [if_neg (by omega), if_neg (by omega), if_neg (by omega), if_neg (by omega), if_neg (by omega), if_neg (by omega), if_neg (by omega), if_neg (by omega), if_neg (by omega), if_neg (by omega)]; rcases h with rfl | rfl
  · rw [if_pos (by omega), w64_id (by omega) (by omega), show 139 + j - 139 = j by omega, pf_un n j hj, bindp]
  · rw [if_neg (by omega), if_neg (by omega), if_pos (by omega), w64_id (by omega) (by omega), show 153 + j - 153 = j by omega, pf_un n j hj, bindp]
theorem wk_bin (n : Nat) (op j : Int) (c d : Int) (k : Nat) (hj : 1 ≤ j ∧ j ≤ 7) (h : op = 145 + j ∨ op = 159 + j) : scalar_work.f k op n c d = bodkinref03_Bin.f n j c d := by
  unfold scalar_work.f; rw [if_neg (by omega), if_neg (by omega), if_neg (by omega), if_neg (by omega), if_neg (by omega), if_neg (by omega), if_neg (by omega), if_neg (by omega), if_neg (by omega), if_neg (by omega), if_neg (by omega)]; rcases h with rfl | rfl
  · rw [if_pos (by omega), w64_id (show -9223372036854775808 ≤ 1 + (145 + j) by omega) (by omega), w64_id (by omega) (by omega), show 1 + (145 + j) - 146 = j by omega, pf_bin, bindp]
  · rw [if_neg (by omega), if_neg (by omega), if_pos (by omega), w64_id (show -9223372036854775808 ≤ 1 + (159 + j) by omega) (by omega), w64_id (by omega) (by omega), show 1 + (159 + j) - 160 = j by omega, pf_bin, bindp]
theorem f_u : ([0, 1, 2, 3, 4, 5, 6] : List Int).all (fun j => facts (139 + j) [125] 125 (pN (nmU j)) && facts (153 + j) [124] 124 (pN (nmU j))) = true := by decide +kernel
theorem f_b : ([1, 2, 3, 4, 5, 6, 7] : List Int).all (fun j => facts (145 + j) [125, 125] 125 (pN (nmB j)) && facts (159 + j) [124, 124] 124 (pN (nmB j))) = true := by decide +kernel
theorem g125 : good 125 := Or.inr (Or.inr (Or.inl rfl))
theorem g124 : good 124 := Or.inr (Or.inr (Or.inr rfl))
theorem mem_u (j : Int) (h : 0 ≤ j ∧ j ≤ 6) : j ∈ ([0, 1, 2, 3, 4, 5, 6] : List Int) := by
  rcases sev0 h with rfl | rfl | rfl | rfl | rfl | rfl | rfl <;> decide
theorem mem_b (j : Int) (h : 1 ≤ j ∧ j ≤ 7) : j ∈ ([1, 2, 3, 4, 5, 6, 7] : List Int) := by
  rcases sev1 h with rfl | rfl | rfl | rfl | rfl | rfl | rfl <;> decide
theorem nbl (t : Int) (ht : t = 125 ∨ t = 124) : (nb t = 32 ∨ nb t = 64) ∧ ∀ c, nb t = 32 → cl t c < 4294967296 := by
  rcases ht with rfl | rfl
  · exact ⟨Or.inl rfl, fun c _ => by show c % 4294967296 < _; omega⟩
  · exact ⟨Or.inr rfl, fun c h => absurd h (by decide)⟩
theorem Q_un (t op j tt : Int) (a b : Nat) (h : (t = 125 ∧ op = 139 + j) ∨ (t = 124 ∧ op = 153 + j)) (hj : 0 ≤ j ∧ j ≤ 6) (ha : a < 18446744073709551616) (hto : op ≤ tt) (q : Q tt a b (op + 1)) : Q tt a b op := by
  obtain ⟨k, hk, e⟩ := q; have f := List.all_eq_true.1 f_u j (mem_u j hj); rw [Bool.and_eq_true] at f; obtain ⟨n1, n2⟩ := nbl t (h.imp And.left And.left); have g : good t := h.elim (fun h => h.1 ▸ g125) (fun h => h.1 ▸ g124); have hop : op = 139 + j ∨ op = 153 + j := h.imp And.right And.right; obtain ⟨x, hx, ex⟩ := un_v (nb t) n1 (flo j) (flo_b j hj) (cl t a) (cl_lt _ _ ha) (n2 a); refine ⟨k + 3, by omega, ?_⟩; rw [step1 t t g g op tt a b x 0 k (pN (nmU j)) (by omega) ha hx hto hk ?_ (fun k hk => (wk_un (nb t) op j _ _ k hj hop).trans ex) (fun kd w hp k hk => (rf_un kd w (nb t) _ _ _ j hj k (by omega) hp).trans ex)]
  · exact e
  · rcases h with ⟨rfl, rfl⟩ | ⟨rfl, rfl⟩
    · exact f.1
    · exact f.2
theorem Q_bin (t op j tt : Int) (a b : Nat) (h : (t = 125 ∧ op = 145 + j) ∨ (t = 124 ∧ op = 159 + j)) (hj : 1 ≤ j ∧ j ≤ 7) (ha : a < 18446744073709551616) (hb : b < 18446744073709551616) (hto : op ≤ tt) (q : Q tt a b (op + 1)) : Q tt a b op := by
  obtain ⟨k, hk, e⟩ := q; have f := List.all_eq_true.1 f_b j (mem_b j hj); rw [Bool.and_eq_true] at f; obtain ⟨n1, n2⟩ := nbl t (h.imp And.left And.left); have g : good t := h.elim (fun h => h.1 ▸ g125) (fun h => h.1 ▸ g124); have hop : op = 145 + j ∨ op = 159 + j := h.imp And.right And.right; obtain ⟨x, hx, ex⟩ := bin_v (nb t) n1 j hj (cl t a) (cl t b) (cl_lt _ _ ha) (cl_lt _ _ hb) (n2 a) (n2 b); refine ⟨k + 4, by omega, ?_⟩; rw [step2 t t t g g g op tt a b x 0 k (pN (nmB j)) (by omega) ha hb hx hto hk ?_ (fun k hk => (wk_bin (nb t) op j _ _ k hj hop).trans ex) (fun kd w hp k hk => (rf_bin kd w (nb t) _ _ _ j hj k (by omega) hp).trans ex)]
  · exact e
  · rcases h with ⟨rfl, rfl⟩ | ⟨rfl, rfl⟩
    · exact f.1
    · exact f.2
theorem floats_Q (a b : Nat) (ha : a < 18446744073709551616) (hb : b < 18446744073709551616) : Q 166 a b 139 := by
  refine Q_un 125 139 0 166 a b (by omega) (by omega) ha (by omega) ?_; refine Q_un 125 140 1 166 a b (by omega) (by omega) ha (by omega) ?_; refine Q_un 125 141 2 166 a b (by omega) (by omega) ha (by omega) ?_; refine Q_un 125 142 3 166 a b (by omega) (by omega) ha (by omega) ?_; refine Q_un 125 143 4 166 a b (by omega) (by omega) ha (by omega) ?_; refine Q_un 125 144 5 166 a b (by omega) (by omega) ha (by omega) ?_; refine Q_un 125 145 6 166 a b (by omega) (by omega) ha (by omega) ?_; refine Q_bin 125 146 1 166 a b (by omega) (by omega) ha hb (by omega) ?_; refine Q_bin 125 147 2 166 a b (by omega) (by omega) ha hb (by omega) ?_; refine Q_bin 125 148 3 166 a b (by omega) (by omega) ha hb (by omega) ?_; refine Q_bin 125 149 4 166 a b (by omega) (by omega) ha hb (by omega) ?_; refine Q_bin 125 150 5 166 a b (by omega) (by omega) ha hb (by omega) ?_; refine Q_bin 125 151 6 166 a b (by omega) (by omega) ha hb (by omega) ?_; refine Q_bin 125 152 7 166 a b (by omega) (by omega) ha hb (by omega) ?_; refine Q_un 124 153 0 166 a b (by omega) (by omega) ha (by omega) ?_; refine Q_un 124 154 1 166 a b (by omega) (by omega) ha (by omega) ?_; refine Q_un 124 155 2 166 a b (by omega) (by omega) ha (by omega) ?_; refine Q_un 124 156 3 166 a b (by omega) (by omega) ha (by omega) ?_; refine Q_un 124 157 4 166 a b (by omega) (by omega) ha (by omega) ?_; refine Q_un 124 158 5 166 a b (by omega) (by omega) ha (by omega) ?_; refine Q_un 124 159 6 166 a b (by omega) (by omega) ha (by omega) ?_; refine Q_bin 124 160 1 166 a b (by omega) (by omega) ha hb (by omega) ?_; refine Q_bin 124 161 2 166 a b (by omega) (by omega) ha hb (by omega) ?_; refine Q_bin 124 162 3 166 a b (by omega) (by omega) ha hb (by omega) ?_; refine Q_bin 124 163 4 166 a b (by omega) (by omega) ha hb (by omega) ?_; refine Q_bin 124 164 5 166 a b (by omega) (by omega) ha hb (by omega) ?_; refine Q_bin 124 165 6 166 a b (by omega) (by omega) ha hb (by omega) ?_; refine Q_bin 124 166 7 166 a b (by omega) (by omega) ha hb (by omega) ?_; exact Q_end 166 a b
theorem awake_i : bodkinlaw07_awake.f 900 = some true := by decide +kernel
theorem floats_pure : bodkinlaw07_ScalarFloats.Pure := by
  intro a0 a1 h0 h1; obtain ⟨a, rfl, ha⟩ := u64_nat a0 h0; obtain ⟨b, rfl, hb⟩ := u64_nat a1 h1; obtain ⟨k, hk, e⟩ := floats_Q a b ha hb; refine ⟨k, ?_⟩; have aw := lift (fun k => bodkinlaw07_awake.f k) (fun k => bodkinlaw07_awake.mono k) true 900 awake_i k (by omega); unfold bodkinlaw07_ScalarFloats.f bodkinlaw07_some.f; rw [aw, Option.bind_some, if_pos rfl, e]; rfl
end Go.Proofs.YtkhhhceeoljheaaGreatDoor.Pure
