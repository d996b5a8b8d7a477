/-
  The law ExecWhole (printed by wip/pr/pr.py): what the functions come to, told without the program.
-/
import Derived.Test.YtlijlabaopiicaaGreatSpWK18
set_option linter.unusedSimpArgs false
set_option linter.unusedVariables false
namespace Go.Sh
open Go
set_option linter.unusedVariables false
structure S_zj where
  v0 : Int
  v1 : (Nat → Int)
  v2 : Int
  v3 : Int
  v4 : Bool
  v5 : (Nat → Int)
  v6 : Int
  v7 : (Nat → Int)
  v8 : Int
  v9 : Int
  v10 : Bool
  v11 : (Nat → Int)
  v12 : Int
  v13 : Int
  v14 : Int
  v15 : Int
  v16 : Int
  v17 : Bool
  v18 : Int
  v19 : Int
  v20 : Int
  v21 : Bool
  v22 : Int
  v23 : Bool
  v24 : Bool
def E_zj (s : S_zj) : Env := [(9, .ptr 0 []), (12, .ptr 1 []), (13, .ptr 2 []), (14, .int .i64 s.v0)]
def OS_zj (s : S_zj) : List SObj := [.cells none (.agg [(.ints .u64 32 s.v1), (.int .u64 s.v2), (.int .i64 s.v3), (.bool s.v4), (.ints .u64 29 s.v5), (.int .u64 s.v6)]), .cells none (.agg [(.ints .u64 32 s.v7), (.int .u64 s.v8), (.int .i64 s.v9), (.bool s.v10), (.ints .u64 29 s.v11), (.int .u64 s.v12)]), .cells none (.agg [(.int .u64 s.v13), (.int .u32 s.v14), (.int .i64 s.v15), (.int .u64 s.v16), (.bool s.v17), (.agg [(.int .u64 s.v18), (.int .u64 s.v19), (.int .u64 s.v20), (.bool s.v21)]), (.int .i64 s.v22), (.bool s.v23), (.bool s.v24)])]
structure X_z32 where
  v0 : Bool
  v1 : (Nat → Int)
  v2 : Int
  v3 : Int
  v4 : Bool
  v5 : (Nat → Int)
  v6 : Int
  v7 : (Nat → Int)
  v8 : Int
  v9 : Int
  v10 : Bool
  v11 : (Nat → Int)
  v12 : Int
  v13 : Int
  v14 : Int
  v15 : Int
  v16 : Int
  v17 : Bool
  v18 : Int
  v19 : Int
  v20 : Int
  v21 : Bool
  v22 : Int
  v23 : Bool
  v24 : Bool
def EX_z32 (s : X_z32) : Env := [(6, .bool s.v0)]
def OX_z32 (s : X_z32) : List SObj := [.cells none (.agg [(.ints .u64 32 s.v1), (.int .u64 s.v2), (.int .i64 s.v3), (.bool s.v4), (.ints .u64 29 s.v5), (.int .u64 s.v6)]), .cells none (.agg [(.ints .u64 32 s.v7), (.int .u64 s.v8), (.int .i64 s.v9), (.bool s.v10), (.ints .u64 29 s.v11), (.int .u64 s.v12)]), .cells none (.agg [(.int .u64 s.v13), (.int .u32 s.v14), (.int .i64 s.v15), (.int .u64 s.v16), (.bool s.v17), (.agg [(.int .u64 s.v18), (.int .u64 s.v19), (.int .u64 s.v20), (.bool s.v21)]), (.int .i64 s.v22), (.bool s.v23), (.bool s.v24)])]
structure X_z30 where
  v0 : (Nat → Int)
  v1 : Int
  v2 : Int
  v3 : Bool
  v4 : (Nat → Int)
  v5 : Int
  v6 : (Nat → Int)
  v7 : Int
  v8 : Int
  v9 : Bool
  v10 : (Nat → Int)
  v11 : Int
  v12 : Int
  v13 : Int
  v14 : Int
  v15 : Int
  v16 : Bool
  v17 : Int
  v18 : Int
  v19 : Int
  v20 : Bool
  v21 : Int
  v22 : Bool
  v23 : Bool
def EX_z30 (s : X_z30) : Env := [(9, .ptr 0 []), (12, .ptr 1 []), (13, .ptr 2 [])]
def OX_z30 (s : X_z30) : List SObj := [.cells none (.agg [(.ints .u64 32 s.v0), (.int .u64 s.v1), (.int .i64 s.v2), (.bool s.v3), (.ints .u64 29 s.v4), (.int .u64 s.v5)]), .cells none (.agg [(.ints .u64 32 s.v6), (.int .u64 s.v7), (.int .i64 s.v8), (.bool s.v9), (.ints .u64 29 s.v10), (.int .u64 s.v11)]), .cells none (.agg [(.int .u64 s.v12), (.int .u32 s.v13), (.int .i64 s.v14), (.int .u64 s.v15), (.bool s.v16), (.agg [(.int .u64 s.v17), (.int .u64 s.v18), (.int .u64 s.v19), (.bool s.v20)]), (.int .i64 s.v21), (.bool s.v22), (.bool s.v23)])]
abbrev X_zj := X_z32 ⊕ X_z30
def EX_zj : X_zj → Env
  | .inl x => EX_z32 x
  | .inr x => EX_z30 x
def OX_zj : X_zj → List SObj
  | .inl x => OX_z32 x
  | .inr x => OX_z30 x
def xx_zj : X_zj → SX
  | .inl _ => .ret
  | .inr _ => (.exit 0)
abbrev SgL_zj (α : Type) := S_zj → (X_z32 → R α) → (X_z30 → R α) → R α
def dL_zj {α : Type} (kn : S_zj → R α) (k0 : X_z32 → R α) (k1 : X_z30 → R α) : KC α := fun x env σ => match x with
  | .norm => decT env 9 fun u1 => decP 0 u1 <| decT env 12 fun u2 => decP 1 u2 <| decT env 13 fun u3 => decP 2 u3 <| decT env 14 fun u4 => decI .i64 u4 fun v0 => decO σ 0 fun u5 => (match u5 with | .agg [u6, u7, u8, u9, u10, u11] => decA .u64 32 u6 fun v1 => decI .u64 u7 fun v2 => decI .i64 u8 fun v3 => decB u9 fun v4 => decA .u64 29 u10 fun v5 => decI .u64 u11 fun v6 => decO σ 1 fun u12 => (match u12 with | .agg [u13, u14, u15, u16, u17, u18] => decA .u64 32 u13 fun v7 => decI .u64 u14 fun v8 => decI .i64 u15 fun v9 => decB u16 fun v10 => decA .u64 29 u17 fun v11 => decI .u64 u18 fun v12 => decO σ 2 fun u19 => (match u19 with | .agg [u20, u21, u22, u23, u24, u25, u26, u27, u28] => decI .u64 u20 fun v13 => decI .u32 u21 fun v14 => decI .i64 u22 fun v15 => decI .u64 u23 fun v16 => decB u24 fun v17 => (match u25 with | .agg [u29, u30, u31, u32] => decI .u64 u29 fun v18 => decI .u64 u30 fun v19 => decI .u64 u31 fun v20 => decB u32 fun v21 => decI .i64 u26 fun v22 => decB u27 fun v23 => decB u28 fun v24 => kn ⟨v0, v1, v2, v3, v4, v5, v6, v7, v8, v9, v10, v11, v12, v13, v14, v15, v16, v17, v18, v19, v20, v21, v22, v23, v24⟩ | _ => none) | _ => none) | _ => none) | _ => none)
  | .ret => decT env 6 fun u1 => decB u1 fun v0 => decO σ 0 fun u2 => (match u2 with | .agg [u3, u4, u5, u6, u7, u8] => decA .u64 32 u3 fun v1 => decI .u64 u4 fun v2 => decI .i64 u5 fun v3 => decB u6 fun v4 => decA .u64 29 u7 fun v5 => decI .u64 u8 fun v6 => decO σ 1 fun u9 => (match u9 with | .agg [u10, u11, u12, u13, u14, u15] => decA .u64 32 u10 fun v7 => decI .u64 u11 fun v8 => decI .i64 u12 fun v9 => decB u13 fun v10 => decA .u64 29 u14 fun v11 => decI .u64 u15 fun v12 => decO σ 2 fun u16 => (match u16 with | .agg [u17, u18, u19, u20, u21, u22, u23, u24, u25] => decI .u64 u17 fun v13 => decI .u32 u18 fun v14 => decI .i64 u19 fun v15 => decI .u64 u20 fun v16 => decB u21 fun v17 => (match u22 with | .agg [u26, u27, u28, u29] => decI .u64 u26 fun v18 => decI .u64 u27 fun v19 => decI .u64 u28 fun v20 => decB u29 fun v21 => decI .i64 u23 fun v22 => decB u24 fun v23 => decB u25 fun v24 => k0 ⟨v0, v1, v2, v3, v4, v5, v6, v7, v8, v9, v10, v11, v12, v13, v14, v15, v16, v17, v18, v19, v20, v21, v22, v23, v24⟩ | _ => none) | _ => none) | _ => none) | _ => none)
  | .exit i => bif Nat.beq i 0 then (decT env 9 fun u1 => decP 0 u1 <| decT env 12 fun u2 => decP 1 u2 <| decT env 13 fun u3 => decP 2 u3 <| decO σ 0 fun u4 => (match u4 with | .agg [u5, u6, u7, u8, u9, u10] => decA .u64 32 u5 fun v0 => decI .u64 u6 fun v1 => decI .i64 u7 fun v2 => decB u8 fun v3 => decA .u64 29 u9 fun v4 => decI .u64 u10 fun v5 => decO σ 1 fun u11 => (match u11 with | .agg [u12, u13, u14, u15, u16, u17] => decA .u64 32 u12 fun v6 => decI .u64 u13 fun v7 => decI .i64 u14 fun v8 => decB u15 fun v9 => decA .u64 29 u16 fun v10 => decI .u64 u17 fun v11 => decO σ 2 fun u18 => (match u18 with | .agg [u19, u20, u21, u22, u23, u24, u25, u26, u27] => decI .u64 u19 fun v12 => decI .u32 u20 fun v13 => decI .i64 u21 fun v14 => decI .u64 u22 fun v15 => decB u23 fun v16 => (match u24 with | .agg [u28, u29, u30, u31] => decI .u64 u28 fun v17 => decI .u64 u29 fun v18 => decI .u64 u30 fun v19 => decB u31 fun v20 => decI .i64 u25 fun v21 => decB u26 fun v22 => decB u27 fun v23 => k1 ⟨v0, v1, v2, v3, v4, v5, v6, v7, v8, v9, v10, v11, v12, v13, v14, v15, v16, v17, v18, v19, v20, v21, v22, v23⟩ | _ => none) | _ => none) | _ => none) | _ => none)) else none
theorem dL_z9g {α : Type} {kn : S_zj → R α} {k0 : X_z32 → R α} {k1 : X_z30 → R α} {x : SX} {env : Env} {σ : Heap} {r : α} (h : dL_zj kn k0 k1 x env σ = some r) : (x = .norm ∧ ∃ s, (∀ t v, getE (E_zj s) t = some v → Ids (· < 3) v ∧ getE env t = some v) ∧ (∀ y ∈ enumO 0 (OS_zj s), σ.get y.1 = some y.2) ∧ kn s = some r) ∨ (x = .ret ∧ ∃ s, (∀ t v, getE (EX_z32 s) t = some v → Ids (· < 3) v ∧ getE env t = some v) ∧ (∀ y ∈ enumO 0 (OX_z32 s), σ.get y.1 = some y.2) ∧ k0 s = some r) ∨ (x = (.exit 0) ∧ ∃ s, (∀ t v, getE (EX_z30 s) t = some v → Ids (· < 3) v ∧ getE env t = some v) ∧ (∀ y ∈ enumO 0 (OX_z30 s), σ.get y.1 = some y.2) ∧ k1 s = some r) := by
  unfold dL_zj at h
  split at h
  · skip
    obtain ⟨w1, w2, w3⟩ := decT_spec h
    obtain ⟨rfl, w4⟩ := decP_spec w3
    obtain ⟨w5, w6, w7⟩ := decT_spec w4
    obtain ⟨rfl, w8⟩ := decP_spec w7
    obtain ⟨w9, w10, w11⟩ := decT_spec w8
    obtain ⟨rfl, w12⟩ := decP_spec w11
    obtain ⟨w13, w14, w15⟩ := decT_spec w12
    obtain ⟨v0, rfl, w16⟩ := decI_spec w15
    obtain ⟨w17, w18, w19⟩ := decO_spec w16
    split at w19 <;> try (cases w19; done)
    obtain ⟨v1, rfl, w20⟩ := decA_spec w19
    obtain ⟨v2, rfl, w21⟩ := decI_spec w20
    obtain ⟨v3, rfl, w22⟩ := decI_spec w21
    obtain ⟨v4, rfl, w23⟩ := decB_spec w22
    obtain ⟨v5, rfl, w24⟩ := decA_spec w23
    obtain ⟨v6, rfl, w25⟩ := decI_spec w24
    obtain ⟨w26, w27, w28⟩ := decO_spec w25
    split at w28 <;> try (cases w28; done)
    obtain ⟨v7, rfl, w29⟩ := decA_spec w28
    obtain ⟨v8, rfl, w30⟩ := decI_spec w29
    obtain ⟨v9, rfl, w31⟩ := decI_spec w30
    obtain ⟨v10, rfl, w32⟩ := decB_spec w31
    obtain ⟨v11, rfl, w33⟩ := decA_spec w32
    obtain ⟨v12, rfl, w34⟩ := decI_spec w33
    obtain ⟨w35, w36, w37⟩ := decO_spec w34
    split at w37 <;> try (cases w37; done)
    obtain ⟨v13, rfl, w38⟩ := decI_spec w37
    obtain ⟨v14, rfl, w39⟩ := decI_spec w38
    obtain ⟨v15, rfl, w40⟩ := decI_spec w39
    obtain ⟨v16, rfl, w41⟩ := decI_spec w40
    obtain ⟨v17, rfl, w42⟩ := decB_spec w41
    split at w42 <;> try (cases w42; done)
    obtain ⟨v18, rfl, w43⟩ := decI_spec w42
    obtain ⟨v19, rfl, w44⟩ := decI_spec w43
    obtain ⟨v20, rfl, w45⟩ := decI_spec w44
    obtain ⟨v21, rfl, w46⟩ := decB_spec w45
    obtain ⟨v22, rfl, w47⟩ := decI_spec w46
    obtain ⟨v23, rfl, w48⟩ := decB_spec w47
    obtain ⟨v24, rfl, w49⟩ := decB_spec w48
    exact .inl (⟨rfl, ⟨v0, v1, v2, v3, v4, v5, v6, v7, v8, v9, v10, v11, v12, v13, v14, v15, v16, v17, v18, v19, v20, v21, v22, v23, v24⟩, env_all ⟨⟨by simp [Ids, Idss], w2⟩, ⟨by simp [Ids, Idss], w6⟩, ⟨by simp [Ids, Idss], w10⟩, ⟨by simp [Ids, Idss], w14⟩, trivial⟩, enum_all ⟨w18, w27, w36, trivial⟩, w49⟩)
  · skip
    obtain ⟨w1, w2, w3⟩ := decT_spec h
    obtain ⟨v0, rfl, w4⟩ := decB_spec w3
    obtain ⟨w5, w6, w7⟩ := decO_spec w4
    split at w7 <;> try (cases w7; done)
    obtain ⟨v1, rfl, w8⟩ := decA_spec w7
    obtain ⟨v2, rfl, w9⟩ := decI_spec w8
    obtain ⟨v3, rfl, w10⟩ := decI_spec w9
    obtain ⟨v4, rfl, w11⟩ := decB_spec w10
    obtain ⟨v5, rfl, w12⟩ := decA_spec w11
    obtain ⟨v6, rfl, w13⟩ := decI_spec w12
    obtain ⟨w14, w15, w16⟩ := decO_spec w13
    split at w16 <;> try (cases w16; done)
    obtain ⟨v7, rfl, w17⟩ := decA_spec w16
    obtain ⟨v8, rfl, w18⟩ := decI_spec w17
    obtain ⟨v9, rfl, w19⟩ := decI_spec w18
    obtain ⟨v10, rfl, w20⟩ := decB_spec w19
    obtain ⟨v11, rfl, w21⟩ := decA_spec w20
    obtain ⟨v12, rfl, w22⟩ := decI_spec w21
    obtain ⟨w23, w24, w25⟩ := decO_spec w22
    split at w25 <;> try (cases w25; done)
    obtain ⟨v13, rfl, w26⟩ := decI_spec w25
    obtain ⟨v14, rfl, w27⟩ := decI_spec w26
    obtain ⟨v15, rfl, w28⟩ := decI_spec w27
    obtain ⟨v16, rfl, w29⟩ := decI_spec w28
    obtain ⟨v17, rfl, w30⟩ := decB_spec w29
    split at w30 <;> try (cases w30; done)
    obtain ⟨v18, rfl, w31⟩ := decI_spec w30
    obtain ⟨v19, rfl, w32⟩ := decI_spec w31
    obtain ⟨v20, rfl, w33⟩ := decI_spec w32
    obtain ⟨v21, rfl, w34⟩ := decB_spec w33
    obtain ⟨v22, rfl, w35⟩ := decI_spec w34
    obtain ⟨v23, rfl, w36⟩ := decB_spec w35
    obtain ⟨v24, rfl, w37⟩ := decB_spec w36
    exact .inr (.inl (⟨rfl, ⟨v0, v1, v2, v3, v4, v5, v6, v7, v8, v9, v10, v11, v12, v13, v14, v15, v16, v17, v18, v19, v20, v21, v22, v23, v24⟩, env_all ⟨⟨by simp [Ids, Idss], w2⟩, trivial⟩, enum_all ⟨w6, w15, w24, trivial⟩, w37⟩))
  · rename_i i
    cases hi1 : Nat.beq i 0 <;> rw [hi1] at h <;> simp only [cond_true, cond_false] at h
    case true =>
      have e1 := Nat.eq_of_beq_eq_true hi1
      subst e1
      obtain ⟨w1, w2, w3⟩ := decT_spec h
      obtain ⟨rfl, w4⟩ := decP_spec w3
      obtain ⟨w5, w6, w7⟩ := decT_spec w4
      obtain ⟨rfl, w8⟩ := decP_spec w7
      obtain ⟨w9, w10, w11⟩ := decT_spec w8
      obtain ⟨rfl, w12⟩ := decP_spec w11
      obtain ⟨w13, w14, w15⟩ := decO_spec w12
      split at w15 <;> try (cases w15; done)
      obtain ⟨v0, rfl, w16⟩ := decA_spec w15
      obtain ⟨v1, rfl, w17⟩ := decI_spec w16
      obtain ⟨v2, rfl, w18⟩ := decI_spec w17
      obtain ⟨v3, rfl, w19⟩ := decB_spec w18
      obtain ⟨v4, rfl, w20⟩ := decA_spec w19
      obtain ⟨v5, rfl, w21⟩ := decI_spec w20
      obtain ⟨w22, w23, w24⟩ := decO_spec w21
      split at w24 <;> try (cases w24; done)
      obtain ⟨v6, rfl, w25⟩ := decA_spec w24
      obtain ⟨v7, rfl, w26⟩ := decI_spec w25
      obtain ⟨v8, rfl, w27⟩ := decI_spec w26
      obtain ⟨v9, rfl, w28⟩ := decB_spec w27
      obtain ⟨v10, rfl, w29⟩ := decA_spec w28
      obtain ⟨v11, rfl, w30⟩ := decI_spec w29
      obtain ⟨w31, w32, w33⟩ := decO_spec w30
      split at w33 <;> try (cases w33; done)
      obtain ⟨v12, rfl, w34⟩ := decI_spec w33
      obtain ⟨v13, rfl, w35⟩ := decI_spec w34
      obtain ⟨v14, rfl, w36⟩ := decI_spec w35
      obtain ⟨v15, rfl, w37⟩ := decI_spec w36
      obtain ⟨v16, rfl, w38⟩ := decB_spec w37
      split at w38 <;> try (cases w38; done)
      obtain ⟨v17, rfl, w39⟩ := decI_spec w38
      obtain ⟨v18, rfl, w40⟩ := decI_spec w39
      obtain ⟨v19, rfl, w41⟩ := decI_spec w40
      obtain ⟨v20, rfl, w42⟩ := decB_spec w41
      obtain ⟨v21, rfl, w43⟩ := decI_spec w42
      obtain ⟨v22, rfl, w44⟩ := decB_spec w43
      obtain ⟨v23, rfl, w45⟩ := decB_spec w44
      exact .inr (.inr ((⟨rfl, ⟨v0, v1, v2, v3, v4, v5, v6, v7, v8, v9, v10, v11, v12, v13, v14, v15, v16, v17, v18, v19, v20, v21, v22, v23⟩, env_all ⟨⟨by simp [Ids, Idss], w2⟩, ⟨by simp [Ids, Idss], w6⟩, ⟨by simp [Ids, Idss], w10⟩, trivial⟩, enum_all ⟨w14, w23, w32, trivial⟩, w45⟩)))
    cases h
def b_zj {α : Type}  (s : S_zj) (kn : S_zj → R α) (k0 : X_z32 → R α) (k1 : X_z30 → R α) : R α :=
  let b1 : Bool := (ltB s.v0 32)
  cond b1 (
  cond (decide (0 ≤ s.v0) && decide (s.v0 < 32)) (
  cond (decide ((Int.toNat s.v0) < 32)) (
  let b2 : Bool := (s.v0 == s.v15)
  cond b2 (
  cond (decide (0 ≤ s.v0) && decide (s.v0 < 32)) (
  cond (decide ((Int.toNat s.v0) < 32)) (
  let b3 : Bool := ((s.v7 (Int.toNat s.v0)) != s.v16)
  cond b3 (
  k0 ⟨false, s.v1, s.v2, s.v3, s.v4, s.v5, s.v6, s.v7, s.v8, s.v9, s.v10, s.v11, s.v12, s.v13, s.v14, s.v15, s.v16, s.v17, s.v18, s.v19, s.v20, s.v21, s.v22, s.v23, s.v24⟩) (
  let t4 : Int := (IntKind.i64.wrap (s.v0 + 1))
  kn ⟨t4, s.v1, s.v2, s.v3, s.v4, s.v5, s.v6, s.v7, s.v8, s.v9, s.v10, s.v11, s.v12, s.v13, s.v14, s.v15, s.v16, s.v17, s.v18, s.v19, s.v20, s.v21, s.v22, s.v23, s.v24⟩)) none) none) (
  cond (decide (0 ≤ s.v0) && decide (s.v0 < 32)) (
  cond (decide ((Int.toNat s.v0) < 32)) (
  let b5 : Bool := ((s.v7 (Int.toNat s.v0)) != (s.v1 (Int.toNat s.v0)))
  cond b5 (
  k0 ⟨false, s.v1, s.v2, s.v3, s.v4, s.v5, s.v6, s.v7, s.v8, s.v9, s.v10, s.v11, s.v12, s.v13, s.v14, s.v15, s.v16, s.v17, s.v18, s.v19, s.v20, s.v21, s.v22, s.v23, s.v24⟩) (
  let t6 : Int := (IntKind.i64.wrap (s.v0 + 1))
  kn ⟨t6, s.v1, s.v2, s.v3, s.v4, s.v5, s.v6, s.v7, s.v8, s.v9, s.v10, s.v11, s.v12, s.v13, s.v14, s.v15, s.v16, s.v17, s.v18, s.v19, s.v20, s.v21, s.v22, s.v23, s.v24⟩)) none) none)) none) none) (
  k1 ⟨s.v1, s.v2, s.v3, s.v4, s.v5, s.v6, s.v7, s.v8, s.v9, s.v10, s.v11, s.v12, s.v13, s.v14, s.v15, s.v16, s.v17, s.v18, s.v19, s.v20, s.v21, s.v22, s.v23, s.v24⟩)
def Lf_zj {α : Type} (L : SgL_zj α) : LF α := fun env σ k => bif allB (fun b => Nat.blt b σ.next) [16, 25, 26] then (decT env 9 fun u1 => decP 16 u1 <| decT env 12 fun u2 => decP 25 u2 <| decT env 13 fun u3 => decP 26 u3 <| decT env 14 fun u4 => decI .i64 u4 fun v0 => decO σ 16 fun u5 => (match u5 with | .agg [u6, u7, u8, u9, u10, u11] => decA .u64 32 u6 fun v1 => decI .u64 u7 fun v2 => decI .i64 u8 fun v3 => decB u9 fun v4 => decA .u64 29 u10 fun v5 => decI .u64 u11 fun v6 => decO σ 25 fun u12 => (match u12 with | .agg [u13, u14, u15, u16, u17, u18] => decA .u64 32 u13 fun v7 => decI .u64 u14 fun v8 => decI .i64 u15 fun v9 => decB u16 fun v10 => decA .u64 29 u17 fun v11 => decI .u64 u18 fun v12 => decO σ 26 fun u19 => (match u19 with | .agg [u20, u21, u22, u23, u24, u25, u26, u27, u28] => decI .u64 u20 fun v13 => decI .u32 u21 fun v14 => decI .i64 u22 fun v15 => decI .u64 u23 fun v16 => decB u24 fun v17 => (match u25 with | .agg [u29, u30, u31, u32] => decI .u64 u29 fun v18 => decI .u64 u30 fun v19 => decI .u64 u31 fun v20 => decB u32 fun v21 => decI .i64 u26 fun v22 => decB u27 fun v23 => decB u28 fun v24 => L ⟨v0, v1, v2, v3, v4, v5, v6, v7, v8, v9, v10, v11, v12, v13, v14, v15, v16, v17, v18, v19, v20, v21, v22, v23, v24⟩ (fun x => k .ret [(6, .bool x.v0)] ⟨σ.next, [(16, .cells none (.agg [(.ints .u64 32 x.v1), (.int .u64 x.v2), (.int .i64 x.v3), (.bool x.v4), (.ints .u64 29 x.v5), (.int .u64 x.v6)])), (25, .cells none (.agg [(.ints .u64 32 x.v7), (.int .u64 x.v8), (.int .i64 x.v9), (.bool x.v10), (.ints .u64 29 x.v11), (.int .u64 x.v12)])), (26, .cells none (.agg [(.int .u64 x.v13), (.int .u32 x.v14), (.int .i64 x.v15), (.int .u64 x.v16), (.bool x.v17), (.agg [(.int .u64 x.v18), (.int .u64 x.v19), (.int .u64 x.v20), (.bool x.v21)]), (.int .i64 x.v22), (.bool x.v23), (.bool x.v24)]))] ++ σ.blocks⟩) (fun x => k (.exit 0) [(9, .ptr 16 []), (12, .ptr 25 []), (13, .ptr 26 [])] ⟨σ.next, [(16, .cells none (.agg [(.ints .u64 32 x.v0), (.int .u64 x.v1), (.int .i64 x.v2), (.bool x.v3), (.ints .u64 29 x.v4), (.int .u64 x.v5)])), (25, .cells none (.agg [(.ints .u64 32 x.v6), (.int .u64 x.v7), (.int .i64 x.v8), (.bool x.v9), (.ints .u64 29 x.v10), (.int .u64 x.v11)])), (26, .cells none (.agg [(.int .u64 x.v12), (.int .u32 x.v13), (.int .i64 x.v14), (.int .u64 x.v15), (.bool x.v16), (.agg [(.int .u64 x.v17), (.int .u64 x.v18), (.int .u64 x.v19), (.bool x.v20)]), (.int .i64 x.v21), (.bool x.v22), (.bool x.v23)]))] ++ σ.blocks⟩) | _ => none) | _ => none) | _ => none) | _ => none)) else none
abbrev Sg_z2z (α : Type) := (Bool × Addr × Nat × Nat × (Nat → (Int × Int × Unit))) → GState → GInsn → (Bool → R α) → R α
def ad_z2z {α : Type} (F : Sg_z2z α) : FP α := fun args k => match args with
  | [a0, a1, a2] => decV_st_int_u64_int_u64 a0 fun x0 => GState.dec a1 fun x1 => GInsn.dec a2 fun x2 => F x0 x1 x2 (fun r0 => k (.bool r0))
  | _ => none
def dR_law18_ExecWhole {α : Type} (a0 : SV) (k : Bool → R α) : R α := decB a0 fun x0 => k x0
theorem dR_law18_ExecWhole_spec {α : Type} {v : SV} {k : Bool → R α} {r : α} (h : dR_law18_ExecWhole v k = some r) : ∃ x0, v = (.bool x0) ∧ k x0 = some r := by
  unfold dR_law18_ExecWhole at h
  obtain ⟨x0, rfl, h0⟩ := decB_spec h
  exact ⟨x0, rfl, h0⟩
def p_z2z {α : Type} (F_z2y : Sg_z2y α) (F_z2x : Sg_z2x α) (F_z1q : Sg_z1q α) (F_z2u : Sg_z2u α) (F_z2g : Sg_z2g α) (F_z5 : Sg_z5 α) (L_zj : SgL_zj α) (x0 : (Bool × Addr × Nat × Nat × (Nat → (Int × Int × Unit)))) (x1 : GState) (x2 : GInsn) (k : Bool → R α) : R α :=
  F_z2y  (fun r1 =>
  let b2 : Bool := (!r1)
  cond b2 (
  k false) (
  F_z2x x0 (fun r3 =>
  let b4 : Bool := (!r3)
  cond b4 (
  k true) (
  F_z1q x0 (fun r5 r6 =>
  F_z2u x1 (fun r7 =>
  F_z2g x2 (fun r8 r9 =>
  GN r5 ((((((((F_z5 (NB r5) r7 r8 (fun y10 r11 r12 =>
  let b13 : Bool := (r12.PC != r7.PC)
  cond b13 (
  k false) (
  let b14 : Bool := (r12.Word != r8)
  cond b14 (
  k false) (
  let b15 : Bool := ((r11.X 0) != 0)
  cond b15 (
  k false) (
  cond r12.Trap (
  let b16 : Bool := ((List.range 32).all fun i => r11.X i == r7.X i)
  cond b16 (
  let b17 : Bool := (r11.Done == r7.Done)
  cond b17 (
  let b18 : Bool := (r12.Rd == 0)
  cond b18 (
  let b19 : Bool := (r12.Value == 0)
  k b19) (
  k false)) (
  k false)) (
  k false)) (
  L_zj ⟨1, r7.X, r7.PC, r7.Level, r7.V, r7.C, r7.Done, r11.X, r11.PC, r11.Level, r11.V, r11.C, r11.Done, r12.PC, r12.Word, r12.Rd, r12.Value, r12.Trap, r12.F.Cause, r12.F.Value, r12.F.Place, r12.F.GVA, r12.Level, r12.V, r12.Line⟩ (fun x20 =>
  k x20.v0) (fun x21 =>
  let t22 : Int := (IntKind.u64.wrap (x21.v5 + 1))
  let b23 : Bool := (x21.v11 == t22)
  cond b23 (
  let b24 : Bool := ((x21.v17 == 0) && ((x21.v18 == 0) && ((x21.v19 == 0) && ((x21.v20 == false) && true))))
  cond b24 (
  let b25 : Bool := (x21.v21 == 0)
  cond b25 (
  let b26 : Bool := (!x21.v22)
  cond b26 (
  let t27 : Int := (Int.tmod x21.v7 4)
  let b28 : Bool := (t27 == 0)
  k b28) (
  k false)) (
  k false)) (
  k false)) (
  k false))))))))))))))))))))))
theorem le_z2z {α : Type} {F F' : Sg_z2z α} (h : ∀ x0 x1 x2 k r, F' x0 x1 x2 k = some r → F x0 x1 x2 k = some r) {args : List SV} {k : SV → R α} {r : α} (hk : ad_z2z F' args k = some r) : ad_z2z F args k = some r := by
  unfold ad_z2z at hk
  split at hk <;> try (cases hk; done)
  obtain ⟨x0, rfl, hk0⟩ := decV_st_int_u64_int_u64_spec hk
  obtain ⟨x1, rfl, hk1⟩ := GState.dec_spec hk0
  obtain ⟨x2, rfl, hk2⟩ := GInsn.dec_spec hk1
  have hkz := hk2
  exact h x0 x1 x2 _ _ hkz
end Go.Sh
