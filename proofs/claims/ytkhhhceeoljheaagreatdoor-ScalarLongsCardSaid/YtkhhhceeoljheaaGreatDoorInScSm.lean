import Derived.Test.YtkhhhceeoljheaaGreatDoorInScWk
set_option linter.unusedVariables false
set_option linter.unusedSimpArgs false
namespace Go.Proofs.YtkhhhceeoljheaaGreatDoor.Pure
open Go.RowKit Go.Proofs.YtkhhhceeoljheaaGreatDoorW.PrintWords Go.Proofs.YtkhhhceeoljheaaGreatDoorW.PrintLast Go.Proofs.YtkhhhceeoljheaaGreatDoorW.PrintMore Go.Proofs.YtkhhhceeoljheaaGreatDoor.PInt
def facts (n : Nat) (l : List Int) (op : Int) (u : Int) (v : Bool) (j : Int) : Bool :=
  match bodkinref05_Of.f 900 op with
  | none => false
  | some r =>
    decide (bodkinref05_Types.f 900 r.2.2.2.1 = some l) && (decide (bodkinref05_Types.f 900 r.2.2.2.2.1 = some [ty n]) && (decide (bodkinref07_Numeric.f 900 op = some true) && (decide (4 ≤ r.2.1.size) && (decide (¬ (r.2.1.extract 0 1).toList = [102]) && (decide (¬ (r.2.1.extract 4 r.2.1.size).toList = eqzL) && (decide ((r.2.1.extract 4 r.2.1.size).size ≤ 6) && (decide (bodkinref07_index.f 40 (r.2.1.extract 4 r.2.1.size) relL = some (-1)) && (decide (bodkinref07_index.f 40 (r.2.1.extract 4 r.2.1.size) unL = some u) && ((!v || decide (bodkinref07_index.f 40 (r.2.1.extract 4 r.2.1.size) binL = some j)) && (decide (ops_Sign.f op = some (l, [ty n], true)) && decide (scalar_Numeric.f op = some true)))))))))))
theorem un64 : ([1, 2, 3] : List Int).all (fun j => facts 64 [ty 64] (120 + j) j false j) = true := by decide +kernel
theorem bin64 : ([1, 2, 3, 4, 5, 6, 7, 8, 9, 10, 11, 12, 13, 14, 15] : List Int).all (fun j => facts 64 [ty 64, ty 64] (123 + j) (-1) true j) = true := by decide +kernel
theorem same_out (x y : Int × Int × Int × Bool × Int) (h : x = y) {α : Type} (p q r : α) : (if (!(x.1 == y.1) || (!(x.2.1 == y.2.1) || (!(x.2.2.1 == y.2.2.1) || (!(x.2.2.2.1 == y.2.2.2.1))))) = true then p else (if x.2.2.2.2 = y.2.2.2.2 then q else r)) = q := by
  subst h
  simp
theorem step_un (n : Nat) (op j tt : Int) (a b k : Nat) (hj : j = 1 ∨ j = 2 ∨ j = 3) (h : (n = 32 ∧ op = 102 + j) ∨ (n = 64 ∧ op = 120 + j)) (ha : a < 18446744073709551616) (hto : op ≤ tt) (hk : 3000 < k) (hf : facts n [ty n] op j false j = true) :
    bodkinlaw07_some.l0 (k + 3) tt a b op = bodkinlaw07_some.l0 k tt a b (op + 1) := by
  have hn : n = 32 ∨ n = 64 := by omega
  unfold facts at hf
  generalize hO : bodkinref05_Of.f 900 op = o at hf
  cases o with
  | none => cases hf
  | some r =>
    dsimp only at hf
    simp only [Bool.and_eq_true, decide_eq_true_eq] at hf
    obtain ⟨hT, hL, hN, hz, h0, h1, h2, hr, hu, -, hS, hM⟩ := hf
    have lO := lift (fun k => bodkinref05_Of.f k op) (fun k => bodkinref05_Of.mono op k) r 900 hO
    have lT := lift (fun k => bodkinref05_Types.f k r.2.2.2.1) (fun k => bodkinref05_Types.mono _ k) _ 900 hT
    have lL := lift (fun k => bodkinref05_Types.f k r.2.2.2.2.1) (fun k => bodkinref05_Types.mono _ k) _ 900 hL
    have lN := lift (fun k => bodkinref07_Numeric.f k op) (fun k => bodkinref07_Numeric.mono _ k) _ 900 hN
    try dsimp only at lO lT lL lN
    have hA : a % 2 ^ n < 18446744073709551616 := Nat.lt_of_le_of_lt (Nat.mod_le _ _) ha
    obtain ⟨x, hx, hv⟩ := unV_nat n j (a % 2 ^ n % 2 ^ n) hn
    have pa := scalar_do1 n hn op true a x 0 k (by omega) ha hx (by omega) hS hM (fun k hk => by rw [← hv]; exact work_un n op j _ 0 k hj h hA (by omega))
    have pb := ref_do1 n hn op a x 0 k (by omega) ha hx r (by omega) (fun k hk => lO k (by omega)) (fun k hk => lT k (by omega)) (fun k hk => lL k (by omega)) (fun k hk => lN k (by omega)) hz (fun k hk => by rw [← hv]; exact worked_un _ _ n _ _ 0 j k hn hA hj (by omega) h0 h1 h2 hr hu)
    have e1 : wrap64 (op + 1) = op + 1 := w64_id (by omega) (by omega)
    have L : (([ty n] : List Int).length : Int) = 1 := rfl
    have g0 : rd [ty n] 0 = ty n := rfl
    have g1 : rd [(a : Int), (b : Int)] 0 = (a : Int) := rfl
    have L2 : (([(a : Int), (b : Int)] : List Int).length : Int) = 2 := rfl
    have q : ([] ++ [(⟨ty n, (a : Int), 0, false⟩ : S33)] : List S33) = [vl n a] := rfl
    simp only [bodkinlaw07_some.l0]
    rw [if_pos hto, lO _ (by omega), Option.bind_some, lT _ (by omega), Option.bind_some]
    simp only [bodkinlaw07_some.l1, L, L2, g0, g1, w01, q, Int.reduceLT, Int.reduceLE, ↓reduceIte, Option.bind_some]
    rw [if_pos (by decide), pa, Option.bind_some, pb, Option.bind_some, same_out _ _ rfl, e1]
theorem step_bin (n : Nat) (op j tt : Int) (a b k : Nat) (hj : 1 ≤ j ∧ j ≤ 15) (h : (n = 32 ∧ op = 105 + j) ∨ (n = 64 ∧ op = 123 + j)) (ha : a < 18446744073709551616) (hb : b < 18446744073709551616) (hto : op ≤ tt) (hk : 3000 < k) (hf : facts n [ty n, ty n] op (-1) true j = true) :
    bodkinlaw07_some.l0 (k + 4) tt a b op = bodkinlaw07_some.l0 k tt a b (op + 1) := by
  have hn : n = 32 ∨ n = 64 := by omega
  unfold facts at hf
  generalize hO : bodkinref05_Of.f 900 op = o at hf
  cases o with
  | none => cases hf
  | some r =>
    dsimp only at hf
    simp only [Bool.and_eq_true, decide_eq_true_eq, Bool.not_true, Bool.false_or] at hf
    obtain ⟨hT, hL, hN, hz, h0, h1, h2, hr, hu, hw, hS, hM⟩ := hf
    have lO := lift (fun k => bodkinref05_Of.f k op) (fun k => bodkinref05_Of.mono op k) r 900 hO
    have lT := lift (fun k => bodkinref05_Types.f k r.2.2.2.1) (fun k => bodkinref05_Types.mono _ k) _ 900 hT
    have lL := lift (fun k => bodkinref05_Types.f k r.2.2.2.2.1) (fun k => bodkinref05_Types.mono _ k) _ 900 hL
    have lN := lift (fun k => bodkinref07_Numeric.f k op) (fun k => bodkinref07_Numeric.mono _ k) _ 900 hN
    try dsimp only at lO lT lL lN
    have hA : a % 2 ^ n < 18446744073709551616 := Nat.lt_of_le_of_lt (Nat.mod_le _ _) ha
    have hB : b % 2 ^ n < 18446744073709551616 := Nat.lt_of_le_of_lt (Nat.mod_le _ _) hb
    obtain ⟨x, e, hx, hv⟩ := binV_nat n j (a % 2 ^ n % 2 ^ n) (b % 2 ^ n % 2 ^ n) hn (Nat.mod_lt _ (Nat.two_pow_pos n)) (Nat.mod_lt _ (Nat.two_pow_pos n))
    have pa := scalar_do2 n hn op true a b x e k (by omega) ha hb hx (by omega) hS hM (fun k hk => by rw [← hv]; exact work_bin n op j _ _ k hj h hA hB (by omega))
    have pb := ref_do2 n hn op a b x e k (by omega) ha hb hx r (by omega) (fun k hk => lO k (by omega)) (fun k hk => lT k (by omega)) (fun k hk => lL k (by omega)) (fun k hk => lN k (by omega)) hz (fun k hk => by rw [← hv]; exact worked_bin _ _ n _ _ _ j k hn hA hB hj (by omega) h0 h1 h2 hr hu hw)
    have e1 : wrap64 (op + 1) = op + 1 := w64_id (by omega) (by omega)
    have L : (([ty n, ty n] : List Int).length : Int) = 2 := rfl
    have g0 : rd [ty n, ty n] 0 = ty n := rfl
    have g1 : rd [(a : Int), (b : Int)] 0 = (a : Int) := rfl
    have g2 : rd [ty n, ty n] 1 = ty n := rfl
    have g3 : rd [(a : Int), (b : Int)] 1 = (b : Int) := rfl
    have L2 : (([(a : Int), (b : Int)] : List Int).length : Int) = 2 := rfl
    have q : ([] ++ [(⟨ty n, (a : Int), 0, false⟩ : S33)] : List S33) = [vl n a] := rfl
    have q2 : ([vl n a] ++ [(⟨ty n, (b : Int), 0, false⟩ : S33)] : List S33) = [vl n a, vl n b] := rfl
    have M1 : ([vl n a] : List S33).length < 4398046511104 := by show 1 < 4398046511104; decide
    simp only [bodkinlaw07_some.l0]
    rw [if_pos hto, lO _ (by omega), Option.bind_some, lT _ (by omega), Option.bind_some]
    simp only [bodkinlaw07_some.l1, L, L2, g0, g1, g2, g3, w01, w11, q, q2, Int.reduceLT, Int.reduceLE, ↓reduceIte, Option.bind_some]
    rw [if_pos (by decide), if_pos M1, pa, Option.bind_some, pb, Option.bind_some, same_out _ _ rfl, e1]
def Q (tt a b op : Int) : Prop := ∃ k, 3000 < k ∧ bodkinlaw07_some.l0 k tt a b op = some true
theorem Q_end (tt a b : Int) : Q tt a b (tt + 1) := ⟨3001, by omega, by simp only [bodkinlaw07_some.l0]; rw [if_neg (by omega)]⟩
theorem Q_un (n : Nat) (op j tt : Int) (a b : Nat) (hj : j = 1 ∨ j = 2 ∨ j = 3) (h : (n = 32 ∧ op = 102 + j) ∨ (n = 64 ∧ op = 120 + j)) (ha : a < 18446744073709551616) (hto : op ≤ tt) (hf : facts n [ty n] op j false j = true) (q : Q tt a b (op + 1)) : Q tt a b op := by
  obtain ⟨k, hk, e⟩ := q
  exact ⟨k + 3, by omega, by rw [step_un n op j tt a b k hj h ha hto hk hf]; exact e⟩
theorem Q_bin (n : Nat) (op j tt : Int) (a b : Nat) (hj : 1 ≤ j ∧ j ≤ 15) (h : (n = 32 ∧ op = 105 + j) ∨ (n = 64 ∧ op = 123 + j)) (ha : a < 18446744073709551616) (hb : b < 18446744073709551616) (hto : op ≤ tt) (hf : facts n [ty n, ty n] op (-1) true j = true) (q : Q tt a b (op + 1)) : Q tt a b op := by
  obtain ⟨k, hk, e⟩ := q
  exact ⟨k + 4, by omega, by rw [step_bin n op j tt a b k hj h ha hb hto hk hf]; exact e⟩
end Go.Proofs.YtkhhhceeoljheaaGreatDoor.Pure
