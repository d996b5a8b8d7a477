/-
  Partitions: ConfigTells (printed by wip/pr/pr.py): what the functions come to, told without the program.
-/
import Derived.Test.YtgagmgcljkhboaaSpC24
set_option linter.unusedSimpArgs false
set_option linter.unusedVariables false
namespace Go.Sh
open Go
set_option linter.unusedVariables false


abbrev Sg_ref26_isFrame (α : Type) := Int → (Bool → R α) → R α
def ad_ref26_isFrame {α : Type} (F : Sg_ref26_isFrame α) : FP α := fun args k => match args with
  | [a0] => decI .i64 a0 fun x0 => F x0 (fun r0 => k (.bool r0))
  | _ => none
def dR_ref26_isFrame {α : Type} (a0 : SV) (k : Bool → R α) : R α := decB a0 fun x0 => k x0
theorem dR_ref26_isFrame_spec {α : Type} {v : SV} {k : Bool → R α} {r : α} (h : dR_ref26_isFrame v k = some r) : ∃ x0, v = (.bool x0) ∧ k x0 = some r := by
  unfold dR_ref26_isFrame at h
  obtain ⟨x0, rfl, h0⟩ := decB_spec h
  exact ⟨x0, rfl, h0⟩
def p_ref26_isFrame {α : Type}  (x0 : Int) (k : Bool → R α) : R α :=
  let b1 : Bool := (leB 0 x0)
  cond b1 (
  let b2 : Bool := (ltB x0 128)
  k b2) (
  k false)
theorem le_ref26_isFrame {α : Type} {F F' : Sg_ref26_isFrame α} (h : ∀ x0 k r, F' x0 k = some r → F x0 k = some r) {args : List SV} {k : SV → R α} {r : α} (hk : ad_ref26_isFrame F' args k = some r) : ad_ref26_isFrame F args k = some r := by
  unfold ad_ref26_isFrame at hk
  split at hk <;> try (cases hk; done)
  obtain ⟨x0, rfl, hk0⟩ := decI_spec hk
  have hkz := hk0
  exact h x0 _ _ hkz
structure S_ref26_in_2 where
  v0 : (Bool × Addr × Nat × Nat × (Nat → Int))
  v1 : Int
  v2 : Int
def E_ref26_in_2 (s : S_ref26_in_2) : Env := [(0, .vslc (.int .i64) s.v0.1 s.v0.2.1 s.v0.2.2.1 s.v0.2.2.2.1 s.v0.2.2.2.2), (1, .int .i64 s.v1), (5, .int .i64 s.v2)]
def OS_ref26_in_2 (s : S_ref26_in_2) : List SObj := []
structure X_ref26_in_2_0 where
  v0 : Bool
def EX_ref26_in_2_0 (s : X_ref26_in_2_0) : Env := [(4, .bool s.v0)]
def OX_ref26_in_2_0 (s : X_ref26_in_2_0) : List SObj := []
structure X_ref26_in_2_1 where
  mk ::
def EX_ref26_in_2_1 (s : X_ref26_in_2_1) : Env := []
def OX_ref26_in_2_1 (s : X_ref26_in_2_1) : List SObj := []
abbrev X_ref26_in_2 := X_ref26_in_2_0 ⊕ X_ref26_in_2_1
def EX_ref26_in_2 : X_ref26_in_2 → Env
  | .inl x => EX_ref26_in_2_0 x
  | .inr x => EX_ref26_in_2_1 x
def OX_ref26_in_2 : X_ref26_in_2 → List SObj
  | .inl x => OX_ref26_in_2_0 x
  | .inr x => OX_ref26_in_2_1 x
def xx_ref26_in_2 : X_ref26_in_2 → SX
  | .inl _ => .ret
  | .inr _ => (.exit 0)
abbrev SgL_ref26_in_2 (α : Type) := S_ref26_in_2 → (X_ref26_in_2_0 → R α) → (X_ref26_in_2_1 → R α) → R α
def dL_ref26_in_2 {α : Type} (kn : S_ref26_in_2 → R α) (k0 : X_ref26_in_2_0 → R α) (k1 : X_ref26_in_2_1 → R α) : KC α := fun x env σ => match x with
  | .norm => decT env 0 fun u1 => decV_int_i64 u1 fun v0 => decT env 1 fun u2 => decI .i64 u2 fun v1 => decT env 5 fun u3 => decI .i64 u3 fun v2 => kn ⟨v0, v1, v2⟩
  | .ret => decT env 4 fun u1 => decB u1 fun v0 => k0 ⟨v0⟩
  | .exit i => bif Nat.beq i 0 then (k1 ⟨⟩) else none
theorem dL_ref26_in_2_spec {α : Type} {kn : S_ref26_in_2 → R α} {k0 : X_ref26_in_2_0 → R α} {k1 : X_ref26_in_2_1 → R α} {x : SX} {env : Env} {σ : Heap} {r : α} (h : dL_ref26_in_2 kn k0 k1 x env σ = some r) : (x = .norm ∧ ∃ s, (∀ t v, getE (E_ref26_in_2 s) t = some v → Ids (· < 0) v ∧ getE env t = some v) ∧ (∀ y ∈ enumO 0 (OS_ref26_in_2 s), σ.get y.1 = some y.2) ∧ kn s = some r) ∨ (x = .ret ∧ ∃ s, (∀ t v, getE (EX_ref26_in_2_0 s) t = some v → Ids (· < 0) v ∧ getE env t = some v) ∧ (∀ y ∈ enumO 0 (OX_ref26_in_2_0 s), σ.get y.1 = some y.2) ∧ k0 s = some r) ∨ (x = (.exit 0) ∧ ∃ s, (∀ t v, getE (EX_ref26_in_2_1 s) t = some v → Ids (· < 0) v ∧ getE env t = some v) ∧ (∀ y ∈ enumO 0 (OX_ref26_in_2_1 s), σ.get y.1 = some y.2) ∧ k1 s = some r) := by
  unfold dL_ref26_in_2 at h
  split at h
  · skip
    obtain ⟨w1, w2, w3⟩ := decT_spec h
    obtain ⟨v0, rfl, w4⟩ := decV_int_i64_spec w3
    obtain ⟨w5, w6, w7⟩ := decT_spec w4
    obtain ⟨v1, rfl, w8⟩ := decI_spec w7
    obtain ⟨w9, w10, w11⟩ := decT_spec w8
    obtain ⟨v2, rfl, w12⟩ := decI_spec w11
    exact .inl (⟨rfl, ⟨v0, v1, v2⟩, env_all ⟨⟨by simp [Ids, Idss], w2⟩, ⟨by simp [Ids, Idss], w6⟩, ⟨by simp [Ids, Idss], w10⟩, trivial⟩, enum_all trivial, w12⟩)
  · skip
    obtain ⟨w1, w2, w3⟩ := decT_spec h
    obtain ⟨v0, rfl, w4⟩ := decB_spec w3
    exact .inr (.inl (⟨rfl, ⟨v0⟩, env_all ⟨⟨by simp [Ids, Idss], w2⟩, trivial⟩, enum_all trivial, w4⟩))
  · rename_i i
    cases hi1 : Nat.beq i 0 <;> rw [hi1] at h <;> simp only [cond_true, cond_false] at h
    case true =>
      have e1 := Nat.eq_of_beq_eq_true hi1
      subst e1
      exact .inr (.inr ((⟨rfl, ⟨⟩, (fun t v ht => by simp [EX_ref26_in_2_1, getE] at ht), enum_all trivial, h⟩)))
    cases h
def b_ref26_in_2 {α : Type}  (s : S_ref26_in_2) (kn : S_ref26_in_2 → R α) (k0 : X_ref26_in_2_0 → R α) (k1 : X_ref26_in_2_1 → R α) : R α :=
  let b1 : Bool := (ltB s.v2 ((s.v0.2.2.1 : Nat) : Int))
  cond b1 (
  cond (decide (0 ≤ s.v2) && decide (s.v2 < ((s.v0.2.2.1 : Nat) : Int))) (
  let b2 : Bool := ((s.v0.2.2.2.2 (Int.toNat s.v2)) == s.v1)
  cond b2 (
  k0 ⟨true⟩) (
  let t3 : Int := (IntKind.i64.wrap (s.v2 + 1))
  kn ⟨s.v0, s.v1, t3⟩)) none) (
  k1 ⟨⟩)
def Lf_ref26_in_2 {α : Type} (L : SgL_ref26_in_2 α) : LF α := fun env σ k => bif allB (fun b => Nat.blt b σ.next) [] then (decT env 0 fun u1 => decV_int_i64 u1 fun v0 => decT env 1 fun u2 => decI .i64 u2 fun v1 => decT env 5 fun u3 => decI .i64 u3 fun v2 => L ⟨v0, v1, v2⟩ (fun x => k .ret [(4, .bool x.v0)] ⟨σ.next, [] ++ σ.blocks⟩) (fun x => k (.exit 0) [] ⟨σ.next, [] ++ σ.blocks⟩)) else none
abbrev Sg_ref26_in (α : Type) := (Bool × Addr × Nat × Nat × (Nat → Int)) → Int → (Bool → R α) → R α
def ad_ref26_in {α : Type} (F : Sg_ref26_in α) : FP α := fun args k => match args with
  | [a0, a1] => decV_int_i64 a0 fun x0 => decI .i64 a1 fun x1 => F x0 x1 (fun r0 => k (.bool r0))
  | _ => none
def dR_ref26_in {α : Type} (a0 : SV) (k : Bool → R α) : R α := decB a0 fun x0 => k x0
theorem dR_ref26_in_spec {α : Type} {v : SV} {k : Bool → R α} {r : α} (h : dR_ref26_in v k = some r) : ∃ x0, v = (.bool x0) ∧ k x0 = some r := by
  unfold dR_ref26_in at h
  obtain ⟨x0, rfl, h0⟩ := decB_spec h
  exact ⟨x0, rfl, h0⟩
def p_ref26_in {α : Type} (L_ref26_in_2 : SgL_ref26_in_2 α) (x0 : (Bool × Addr × Nat × Nat × (Nat → Int))) (x1 : Int) (k : Bool → R α) : R α :=
  L_ref26_in_2 ⟨x0, x1, 0⟩ (fun x1 =>
  k x1.v0) (fun x2 =>
  k false)
theorem le_ref26_in {α : Type} {F F' : Sg_ref26_in α} (h : ∀ x0 x1 k r, F' x0 x1 k = some r → F x0 x1 k = some r) {args : List SV} {k : SV → R α} {r : α} (hk : ad_ref26_in F' args k = some r) : ad_ref26_in F args k = some r := by
  unfold ad_ref26_in at hk
  split at hk <;> try (cases hk; done)
  obtain ⟨x0, rfl, hk0⟩ := decV_int_i64_spec hk
  obtain ⟨x1, rfl, hk1⟩ := decI_spec hk0
  have hkz := hk1
  exact h x0 x1 _ _ hkz
structure S_ref26_frames_8 where
  v0 : Int
  v1 : (Bool × Addr × Nat × Nat × (Nat → Int))
  v2 : Int
  v3 : Int
  v4 : (Bool × Addr × Nat × Nat × (Nat → ((Bool × Addr × Nat × Nat × (Nat → Int)) × ByteArray × Int × ByteArray × Unit)))
  v5 : Int
  v6 : (Bool × Addr × Nat × Nat × (Nat → Int))
def E_ref26_frames_8 (s : S_ref26_frames_8) : Env := [(1, .int .i64 s.v0), (2, .ptr 0 []), (5, .vslc (.int .i64) s.v1.1 s.v1.2.1 s.v1.2.2.1 s.v1.2.2.2.1 s.v1.2.2.2.2), (6, .int .i64 s.v2), (7, .int .i64 s.v3)]
def OS_ref26_frames_8 (s : S_ref26_frames_8) : List SObj := [.cells none (.agg [(.vslc (.st [(.sl (.int .i64)), .str, (.int .u64), .str]) s.v4.1 s.v4.2.1 s.v4.2.2.1 s.v4.2.2.2.1 s.v4.2.2.2.2), (.int .i64 s.v5), (.vslc (.int .i64) s.v6.1 s.v6.2.1 s.v6.2.2.1 s.v6.2.2.2.1 s.v6.2.2.2.2)])]
structure X_ref26_frames_8_0 where
  v0 : Bool
  v1 : (Bool × Addr × Nat × Nat × (Nat → ((Bool × Addr × Nat × Nat × (Nat → Int)) × ByteArray × Int × ByteArray × Unit)))
  v2 : Int
  v3 : (Bool × Addr × Nat × Nat × (Nat → Int))
def EX_ref26_frames_8_0 (s : X_ref26_frames_8_0) : Env := [(4, .bool s.v0)]
def OX_ref26_frames_8_0 (s : X_ref26_frames_8_0) : List SObj := [.cells none (.agg [(.vslc (.st [(.sl (.int .i64)), .str, (.int .u64), .str]) s.v1.1 s.v1.2.1 s.v1.2.2.1 s.v1.2.2.2.1 s.v1.2.2.2.2), (.int .i64 s.v2), (.vslc (.int .i64) s.v3.1 s.v3.2.1 s.v3.2.2.1 s.v3.2.2.2.1 s.v3.2.2.2.2)])]
structure X_ref26_frames_8_1 where
  v0 : Int
  v1 : (Bool × Addr × Nat × Nat × (Nat → Int))
  v2 : Int
  v3 : (Bool × Addr × Nat × Nat × (Nat → ((Bool × Addr × Nat × Nat × (Nat → Int)) × ByteArray × Int × ByteArray × Unit)))
  v4 : Int
  v5 : (Bool × Addr × Nat × Nat × (Nat → Int))
def EX_ref26_frames_8_1 (s : X_ref26_frames_8_1) : Env := [(1, .int .i64 s.v0), (2, .ptr 0 []), (5, .vslc (.int .i64) s.v1.1 s.v1.2.1 s.v1.2.2.1 s.v1.2.2.2.1 s.v1.2.2.2.2), (6, .int .i64 s.v2)]
def OX_ref26_frames_8_1 (s : X_ref26_frames_8_1) : List SObj := [.cells none (.agg [(.vslc (.st [(.sl (.int .i64)), .str, (.int .u64), .str]) s.v3.1 s.v3.2.1 s.v3.2.2.1 s.v3.2.2.2.1 s.v3.2.2.2.2), (.int .i64 s.v4), (.vslc (.int .i64) s.v5.1 s.v5.2.1 s.v5.2.2.1 s.v5.2.2.2.1 s.v5.2.2.2.2)])]
abbrev X_ref26_frames_8 := X_ref26_frames_8_0 ⊕ X_ref26_frames_8_1
def EX_ref26_frames_8 : X_ref26_frames_8 → Env
  | .inl x => EX_ref26_frames_8_0 x
  | .inr x => EX_ref26_frames_8_1 x
def OX_ref26_frames_8 : X_ref26_frames_8 → List SObj
  | .inl x => OX_ref26_frames_8_0 x
  | .inr x => OX_ref26_frames_8_1 x
def xx_ref26_frames_8 : X_ref26_frames_8 → SX
  | .inl _ => .ret
  | .inr _ => (.exit 2)
abbrev SgL_ref26_frames_8 (α : Type) := S_ref26_frames_8 → (X_ref26_frames_8_0 → R α) → (X_ref26_frames_8_1 → R α) → R α
def dL_ref26_frames_8 {α : Type} (kn : S_ref26_frames_8 → R α) (k0 : X_ref26_frames_8_0 → R α) (k1 : X_ref26_frames_8_1 → R α) : KC α := fun x env σ => match x with
  | .norm => decT env 1 fun u1 => decI .i64 u1 fun v0 => decT env 2 fun u2 => decP 0 u2 <| decT env 5 fun u3 => decV_int_i64 u3 fun v1 => decT env 6 fun u4 => decI .i64 u4 fun v2 => decT env 7 fun u5 => decI .i64 u5 fun v3 => decO σ 0 fun u6 => (match u6 with | .agg [u7, u8, u9] => decV_st_sl_int_i64_str_int_u64_str u7 fun v4 => decI .i64 u8 fun v5 => decV_int_i64 u9 fun v6 => kn ⟨v0, v1, v2, v3, v4, v5, v6⟩ | _ => none)
  | .ret => decT env 4 fun u1 => decB u1 fun v0 => decO σ 0 fun u2 => (match u2 with | .agg [u3, u4, u5] => decV_st_sl_int_i64_str_int_u64_str u3 fun v1 => decI .i64 u4 fun v2 => decV_int_i64 u5 fun v3 => k0 ⟨v0, v1, v2, v3⟩ | _ => none)
  | .exit i => bif Nat.beq i 2 then (decT env 1 fun u1 => decI .i64 u1 fun v0 => decT env 2 fun u2 => decP 0 u2 <| decT env 5 fun u3 => decV_int_i64 u3 fun v1 => decT env 6 fun u4 => decI .i64 u4 fun v2 => decO σ 0 fun u5 => (match u5 with | .agg [u6, u7, u8] => decV_st_sl_int_i64_str_int_u64_str u6 fun v3 => decI .i64 u7 fun v4 => decV_int_i64 u8 fun v5 => k1 ⟨v0, v1, v2, v3, v4, v5⟩ | _ => none)) else none
theorem dL_ref26_frames_8_spec {α : Type} {kn : S_ref26_frames_8 → R α} {k0 : X_ref26_frames_8_0 → R α} {k1 : X_ref26_frames_8_1 → R α} {x : SX} {env : Env} {σ : Heap} {r : α} (h : dL_ref26_frames_8 kn k0 k1 x env σ = some r) : (x = .norm ∧ ∃ s, (∀ t v, getE (E_ref26_frames_8 s) t = some v → Ids (· < 1) v ∧ getE env t = some v) ∧ (∀ y ∈ enumO 0 (OS_ref26_frames_8 s), σ.get y.1 = some y.2) ∧ kn s = some r) ∨ (x = .ret ∧ ∃ s, (∀ t v, getE (EX_ref26_frames_8_0 s) t = some v → Ids (· < 1) v ∧ getE env t = some v) ∧ (∀ y ∈ enumO 0 (OX_ref26_frames_8_0 s), σ.get y.1 = some y.2) ∧ k0 s = some r) ∨ (x = (.exit 2) ∧ ∃ s, (∀ t v, getE (EX_ref26_frames_8_1 s) t = some v → Ids (· < 1) v ∧ getE env t = some v) ∧ (∀ y ∈ enumO 0 (OX_ref26_frames_8_1 s), σ.get y.1 = some y.2) ∧ k1 s = some r) := by
  unfold dL_ref26_frames_8 at h
  split at h
  · skip
    obtain ⟨w1, w2, w3⟩ := decT_spec h
    obtain ⟨v0, rfl, w4⟩ := decI_spec w3
    obtain ⟨w5, w6, w7⟩ := decT_spec w4
    obtain ⟨rfl, w8⟩ := decP_spec w7
    obtain ⟨w9, w10, w11⟩ := decT_spec w8
    obtain ⟨v1, rfl, w12⟩ := decV_int_i64_spec w11
    obtain ⟨w13, w14, w15⟩ := decT_spec w12
    obtain ⟨v2, rfl, w16⟩ := decI_spec w15
    obtain ⟨w17, w18, w19⟩ := decT_spec w16
    obtain ⟨v3, rfl, w20⟩ := decI_spec w19
    obtain ⟨w21, w22, w23⟩ := decO_spec w20
    split at w23 <;> try (cases w23; done)
    obtain ⟨v4, rfl, w24⟩ := decV_st_sl_int_i64_str_int_u64_str_spec w23
    obtain ⟨v5, rfl, w25⟩ := decI_spec w24
    obtain ⟨v6, rfl, w26⟩ := decV_int_i64_spec w25
    exact .inl (⟨rfl, ⟨v0, v1, v2, v3, v4, v5, v6⟩, env_all ⟨⟨by simp [Ids, Idss], w2⟩, ⟨by simp [Ids, Idss], w6⟩, ⟨by simp [Ids, Idss], w10⟩, ⟨by simp [Ids, Idss], w14⟩, ⟨by simp [Ids, Idss], w18⟩, trivial⟩, enum_all ⟨w22, trivial⟩, w26⟩)
  · skip
    obtain ⟨w1, w2, w3⟩ := decT_spec h
    obtain ⟨v0, rfl, w4⟩ := decB_spec w3
    obtain ⟨w5, w6, w7⟩ := decO_spec w4
    split at w7 <;> try (cases w7; done)
    obtain ⟨v1, rfl, w8⟩ := decV_st_sl_int_i64_str_int_u64_str_spec w7
    obtain ⟨v2, rfl, w9⟩ := decI_spec w8
    obtain ⟨v3, rfl, w10⟩ := decV_int_i64_spec w9
    exact .inr (.inl (⟨rfl, ⟨v0, v1, v2, v3⟩, env_all ⟨⟨by simp [Ids, Idss], w2⟩, trivial⟩, enum_all ⟨w6, trivial⟩, w10⟩))
  · rename_i i
    cases hi1 : Nat.beq i 2 <;> rw [hi1] at h <;> simp only [cond_true, cond_false] at h
    case true =>
      have e1 := Nat.eq_of_beq_eq_true hi1
      subst e1
      obtain ⟨w1, w2, w3⟩ := decT_spec h
      obtain ⟨v0, rfl, w4⟩ := decI_spec w3
      obtain ⟨w5, w6, w7⟩ := decT_spec w4
      obtain ⟨rfl, w8⟩ := decP_spec w7
      obtain ⟨w9, w10, w11⟩ := decT_spec w8
      obtain ⟨v1, rfl, w12⟩ := decV_int_i64_spec w11
      obtain ⟨w13, w14, w15⟩ := decT_spec w12
      obtain ⟨v2, rfl, w16⟩ := decI_spec w15
      obtain ⟨w17, w18, w19⟩ := decO_spec w16
      split at w19 <;> try (cases w19; done)
      obtain ⟨v3, rfl, w20⟩ := decV_st_sl_int_i64_str_int_u64_str_spec w19
      obtain ⟨v4, rfl, w21⟩ := decI_spec w20
      obtain ⟨v5, rfl, w22⟩ := decV_int_i64_spec w21
      exact .inr (.inr ((⟨rfl, ⟨v0, v1, v2, v3, v4, v5⟩, env_all ⟨⟨by simp [Ids, Idss], w2⟩, ⟨by simp [Ids, Idss], w6⟩, ⟨by simp [Ids, Idss], w10⟩, ⟨by simp [Ids, Idss], w14⟩, trivial⟩, enum_all ⟨w18, trivial⟩, w22⟩)))
    cases h
def b_ref26_frames_8 {α : Type} (F_ref26_in : Sg_ref26_in α) (s : S_ref26_frames_8) (kn : S_ref26_frames_8 → R α) (k0 : X_ref26_frames_8_0 → R α) (k1 : X_ref26_frames_8_1 → R α) : R α :=
  let b1 : Bool := (ltB s.v3 s.v0)
  cond b1 (
  cond (decide (0 ≤ s.v3) && decide (s.v3 < ((s.v4.2.2.1 : Nat) : Int))) (
  cond (decide (0 ≤ s.v2) && decide (s.v2 < ((s.v1.2.2.1 : Nat) : Int))) (
  F_ref26_in (s.v4.2.2.2.2 (Int.toNat s.v3)).1 (s.v1.2.2.2.2 (Int.toNat s.v2)) (fun r2 =>
  cond r2 (
  k0 ⟨false, s.v4, s.v5, s.v6⟩) (
  let t3 : Int := (IntKind.i64.wrap (s.v3 + 1))
  kn ⟨s.v0, s.v1, s.v2, t3, s.v4, s.v5, s.v6⟩))) none) none) (
  k1 ⟨s.v0, s.v1, s.v2, s.v4, s.v5, s.v6⟩)
def Lf_ref26_frames_8 {α : Type} (L : SgL_ref26_frames_8 α) : LF α := fun env σ k => bif allB (fun b => Nat.blt b σ.next) [0] then (decT env 1 fun u1 => decI .i64 u1 fun v0 => decT env 2 fun u2 => decP 0 u2 <| decT env 5 fun u3 => decV_int_i64 u3 fun v1 => decT env 6 fun u4 => decI .i64 u4 fun v2 => decT env 7 fun u5 => decI .i64 u5 fun v3 => decO σ 0 fun u6 => (match u6 with | .agg [u7, u8, u9] => decV_st_sl_int_i64_str_int_u64_str u7 fun v4 => decI .i64 u8 fun v5 => decV_int_i64 u9 fun v6 => L ⟨v0, v1, v2, v3, v4, v5, v6⟩ (fun x => k .ret [(4, .bool x.v0)] ⟨σ.next, [(0, .cells none (.agg [(.vslc (.st [(.sl (.int .i64)), .str, (.int .u64), .str]) x.v1.1 x.v1.2.1 x.v1.2.2.1 x.v1.2.2.2.1 x.v1.2.2.2.2), (.int .i64 x.v2), (.vslc (.int .i64) x.v3.1 x.v3.2.1 x.v3.2.2.1 x.v3.2.2.2.1 x.v3.2.2.2.2)]))] ++ σ.blocks⟩) (fun x => k (.exit 2) [(1, .int .i64 x.v0), (2, .ptr 0 []), (5, .vslc (.int .i64) x.v1.1 x.v1.2.1 x.v1.2.2.1 x.v1.2.2.2.1 x.v1.2.2.2.2), (6, .int .i64 x.v2)] ⟨σ.next, [(0, .cells none (.agg [(.vslc (.st [(.sl (.int .i64)), .str, (.int .u64), .str]) x.v3.1 x.v3.2.1 x.v3.2.2.1 x.v3.2.2.2.1 x.v3.2.2.2.2), (.int .i64 x.v4), (.vslc (.int .i64) x.v5.1 x.v5.2.1 x.v5.2.2.1 x.v5.2.2.2.1 x.v5.2.2.2.2)]))] ++ σ.blocks⟩) | _ => none)) else none
structure S_ref26_frames_3 where
  v0 : Int
  v1 : (Bool × Addr × Nat × Nat × (Nat → Int))
  v2 : Int
  v3 : (Bool × Addr × Nat × Nat × (Nat → ((Bool × Addr × Nat × Nat × (Nat → Int)) × ByteArray × Int × ByteArray × Unit)))
  v4 : Int
  v5 : (Bool × Addr × Nat × Nat × (Nat → Int))
def E_ref26_frames_3 (s : S_ref26_frames_3) : Env := [(1, .int .i64 s.v0), (2, .ptr 0 []), (5, .vslc (.int .i64) s.v1.1 s.v1.2.1 s.v1.2.2.1 s.v1.2.2.2.1 s.v1.2.2.2.2), (6, .int .i64 s.v2)]
def OS_ref26_frames_3 (s : S_ref26_frames_3) : List SObj := [.cells none (.agg [(.vslc (.st [(.sl (.int .i64)), .str, (.int .u64), .str]) s.v3.1 s.v3.2.1 s.v3.2.2.1 s.v3.2.2.2.1 s.v3.2.2.2.2), (.int .i64 s.v4), (.vslc (.int .i64) s.v5.1 s.v5.2.1 s.v5.2.2.1 s.v5.2.2.2.1 s.v5.2.2.2.2)])]
structure X_ref26_frames_3_0 where
  v0 : Bool
  v1 : (Bool × Addr × Nat × Nat × (Nat → ((Bool × Addr × Nat × Nat × (Nat → Int)) × ByteArray × Int × ByteArray × Unit)))
  v2 : Int
  v3 : (Bool × Addr × Nat × Nat × (Nat → Int))
def EX_ref26_frames_3_0 (s : X_ref26_frames_3_0) : Env := [(4, .bool s.v0)]
def OX_ref26_frames_3_0 (s : X_ref26_frames_3_0) : List SObj := [.cells none (.agg [(.vslc (.st [(.sl (.int .i64)), .str, (.int .u64), .str]) s.v1.1 s.v1.2.1 s.v1.2.2.1 s.v1.2.2.2.1 s.v1.2.2.2.2), (.int .i64 s.v2), (.vslc (.int .i64) s.v3.1 s.v3.2.1 s.v3.2.2.1 s.v3.2.2.2.1 s.v3.2.2.2.2)])]
structure X_ref26_frames_3_1 where
  v0 : (Bool × Addr × Nat × Nat × (Nat → ((Bool × Addr × Nat × Nat × (Nat → Int)) × ByteArray × Int × ByteArray × Unit)))
  v1 : Int
  v2 : (Bool × Addr × Nat × Nat × (Nat → Int))
def EX_ref26_frames_3_1 (s : X_ref26_frames_3_1) : Env := []
def OX_ref26_frames_3_1 (s : X_ref26_frames_3_1) : List SObj := [.cells none (.agg [(.vslc (.st [(.sl (.int .i64)), .str, (.int .u64), .str]) s.v0.1 s.v0.2.1 s.v0.2.2.1 s.v0.2.2.2.1 s.v0.2.2.2.2), (.int .i64 s.v1), (.vslc (.int .i64) s.v2.1 s.v2.2.1 s.v2.2.2.1 s.v2.2.2.2.1 s.v2.2.2.2.2)])]
abbrev X_ref26_frames_3 := X_ref26_frames_3_0 ⊕ X_ref26_frames_3_1
def EX_ref26_frames_3 : X_ref26_frames_3 → Env
  | .inl x => EX_ref26_frames_3_0 x
  | .inr x => EX_ref26_frames_3_1 x
def OX_ref26_frames_3 : X_ref26_frames_3 → List SObj
  | .inl x => OX_ref26_frames_3_0 x
  | .inr x => OX_ref26_frames_3_1 x
def xx_ref26_frames_3 : X_ref26_frames_3 → SX
  | .inl _ => .ret
  | .inr _ => (.exit 0)
abbrev SgL_ref26_frames_3 (α : Type) := S_ref26_frames_3 → (X_ref26_frames_3_0 → R α) → (X_ref26_frames_3_1 → R α) → R α
def dL_ref26_frames_3 {α : Type} (kn : S_ref26_frames_3 → R α) (k0 : X_ref26_frames_3_0 → R α) (k1 : X_ref26_frames_3_1 → R α) : KC α := fun x env σ => match x with
  | .norm => decT env 1 fun u1 => decI .i64 u1 fun v0 => decT env 2 fun u2 => decP 0 u2 <| decT env 5 fun u3 => decV_int_i64 u3 fun v1 => decT env 6 fun u4 => decI .i64 u4 fun v2 => decO σ 0 fun u5 => (match u5 with | .agg [u6, u7, u8] => decV_st_sl_int_i64_str_int_u64_str u6 fun v3 => decI .i64 u7 fun v4 => decV_int_i64 u8 fun v5 => kn ⟨v0, v1, v2, v3, v4, v5⟩ | _ => none)
  | .ret => decT env 4 fun u1 => decB u1 fun v0 => decO σ 0 fun u2 => (match u2 with | .agg [u3, u4, u5] => decV_st_sl_int_i64_str_int_u64_str u3 fun v1 => decI .i64 u4 fun v2 => decV_int_i64 u5 fun v3 => k0 ⟨v0, v1, v2, v3⟩ | _ => none)
  | .exit i => bif Nat.beq i 0 then (decO σ 0 fun u1 => (match u1 with | .agg [u2, u3, u4] => decV_st_sl_int_i64_str_int_u64_str u2 fun v0 => decI .i64 u3 fun v1 => decV_int_i64 u4 fun v2 => k1 ⟨v0, v1, v2⟩ | _ => none)) else none
theorem dL_ref26_frames_3_spec {α : Type} {kn : S_ref26_frames_3 → R α} {k0 : X_ref26_frames_3_0 → R α} {k1 : X_ref26_frames_3_1 → R α} {x : SX} {env : Env} {σ : Heap} {r : α} (h : dL_ref26_frames_3 kn k0 k1 x env σ = some r) : (x = .norm ∧ ∃ s, (∀ t v, getE (E_ref26_frames_3 s) t = some v → Ids (· < 1) v ∧ getE env t = some v) ∧ (∀ y ∈ enumO 0 (OS_ref26_frames_3 s), σ.get y.1 = some y.2) ∧ kn s = some r) ∨ (x = .ret ∧ ∃ s, (∀ t v, getE (EX_ref26_frames_3_0 s) t = some v → Ids (· < 1) v ∧ getE env t = some v) ∧ (∀ y ∈ enumO 0 (OX_ref26_frames_3_0 s), σ.get y.1 = some y.2) ∧ k0 s = some r) ∨ (x = (.exit 0) ∧ ∃ s, (∀ t v, getE (EX_ref26_frames_3_1 s) t = some v → Ids (· < 1) v ∧ getE env t = some v) ∧ (∀ y ∈ enumO 0 (OX_ref26_frames_3_1 s), σ.get y.1 = some y.2) ∧ k1 s = some r) := by
  unfold dL_ref26_frames_3 at h
  split at h
  · skip
    obtain ⟨w1, w2, w3⟩ := decT_spec h
    obtain ⟨v0, rfl, w4⟩ := decI_spec w3
    obtain ⟨w5, w6, w7⟩ := decT_spec w4
    obtain ⟨rfl, w8⟩ := decP_spec w7
    obtain ⟨w9, w10, w11⟩ := decT_spec w8
    obtain ⟨v1, rfl, w12⟩ := decV_int_i64_spec w11
    obtain ⟨w13, w14, w15⟩ := decT_spec w12
    obtain ⟨v2, rfl, w16⟩ := decI_spec w15
    obtain ⟨w17, w18, w19⟩ := decO_spec w16
    split at w19 <;> try (cases w19; done)
    obtain ⟨v3, rfl, w20⟩ := decV_st_sl_int_i64_str_int_u64_str_spec w19
    obtain ⟨v4, rfl, w21⟩ := decI_spec w20
    obtain ⟨v5, rfl, w22⟩ := decV_int_i64_spec w21
    exact .inl (⟨rfl, ⟨v0, v1, v2, v3, v4, v5⟩, env_all ⟨⟨by simp [Ids, Idss], w2⟩, ⟨by simp [Ids, Idss], w6⟩, ⟨by simp [Ids, Idss], w10⟩, ⟨by simp [Ids, Idss], w14⟩, trivial⟩, enum_all ⟨w18, trivial⟩, w22⟩)
  · skip
    obtain ⟨w1, w2, w3⟩ := decT_spec h
    obtain ⟨v0, rfl, w4⟩ := decB_spec w3
    obtain ⟨w5, w6, w7⟩ := decO_spec w4
    split at w7 <;> try (cases w7; done)
    obtain ⟨v1, rfl, w8⟩ := decV_st_sl_int_i64_str_int_u64_str_spec w7
    obtain ⟨v2, rfl, w9⟩ := decI_spec w8
    obtain ⟨v3, rfl, w10⟩ := decV_int_i64_spec w9
    exact .inr (.inl (⟨rfl, ⟨v0, v1, v2, v3⟩, env_all ⟨⟨by simp [Ids, Idss], w2⟩, trivial⟩, enum_all ⟨w6, trivial⟩, w10⟩))
  · rename_i i
    cases hi1 : Nat.beq i 0 <;> rw [hi1] at h <;> simp only [cond_true, cond_false] at h
    case true =>
      have e1 := Nat.eq_of_beq_eq_true hi1
      subst e1
      obtain ⟨w1, w2, w3⟩ := decO_spec h
      split at w3 <;> try (cases w3; done)
      obtain ⟨v0, rfl, w4⟩ := decV_st_sl_int_i64_str_int_u64_str_spec w3
      obtain ⟨v1, rfl, w5⟩ := decI_spec w4
      obtain ⟨v2, rfl, w6⟩ := decV_int_i64_spec w5
      exact .inr (.inr ((⟨rfl, ⟨v0, v1, v2⟩, (fun t v ht => by simp [EX_ref26_frames_3_1, getE] at ht), enum_all ⟨w2, trivial⟩, w6⟩)))
    cases h
def b_ref26_frames_3 {α : Type} (F_ref26_isFrame : Sg_ref26_isFrame α) (F_ref26_in : Sg_ref26_in α) (L_ref26_frames_8 : SgL_ref26_frames_8 α) (s : S_ref26_frames_3) (kn : S_ref26_frames_3 → R α) (k0 : X_ref26_frames_3_0 → R α) (k1 : X_ref26_frames_3_1 → R α) : R α :=
  let b1 : Bool := (ltB s.v2 ((s.v1.2.2.1 : Nat) : Int))
  cond b1 (
  cond (decide (0 ≤ s.v2) && decide (s.v2 < ((s.v1.2.2.1 : Nat) : Int))) (
  F_ref26_isFrame (s.v1.2.2.2.2 (Int.toNat s.v2)) (fun r2 =>
  let b3 : Bool := (!r2)
  cond b3 (
  k0 ⟨false, s.v3, s.v4, s.v5⟩) (
  cond (decide (0 ≤ s.v2) && decide (s.v2 ≤ ((s.v1.2.2.1 : Nat) : Int))) (
  cond (decide (0 ≤ 0) && decide (0 ≤ s.v2)) (
  cond (Nat.beq s.v1.2.2.2.1 0) (
  let l4 : (Bool × Addr × Nat × Nat × (Nat → Int)) := (s.v1.1, s.v1.2.1, (Int.toNat s.v2) - 0, s.v1.2.2.2.1 - 0, fun i => s.v1.2.2.2.2 (0 + i))
  cond (decide (0 ≤ s.v2) && decide (s.v2 < ((s.v1.2.2.1 : Nat) : Int))) (
  F_ref26_in l4 (s.v1.2.2.2.2 (Int.toNat s.v2)) (fun r5 =>
  cond r5 (
  k0 ⟨false, s.v3, s.v4, s.v5⟩) (
  cond (decide (0 ≤ s.v2) && decide (s.v2 < ((s.v1.2.2.1 : Nat) : Int))) (
  F_ref26_in s.v5 (s.v1.2.2.2.2 (Int.toNat s.v2)) (fun r6 =>
  cond r6 (
  k0 ⟨false, s.v3, s.v4, s.v5⟩) (
  L_ref26_frames_8 ⟨s.v0, s.v1, s.v2, 0, s.v3, s.v4, s.v5⟩ (fun x7 =>
  k0 ⟨x7.v0, x7.v1, x7.v2, x7.v3⟩) (fun x8 =>
  let t9 : Int := (IntKind.i64.wrap (x8.v2 + 1))
  kn ⟨x8.v0, x8.v1, t9, x8.v3, x8.v4, x8.v5⟩)))) none))) none) (
  let l10 : (Bool × Addr × Nat × Nat × (Nat → Int)) := (s.v1.1, (Addr.add s.v1.2.1 (0 * 1)), (Int.toNat s.v2) - 0, s.v1.2.2.2.1 - 0, fun i => s.v1.2.2.2.2 (0 + i))
  cond (decide (0 ≤ s.v2) && decide (s.v2 < ((s.v1.2.2.1 : Nat) : Int))) (
  F_ref26_in l10 (s.v1.2.2.2.2 (Int.toNat s.v2)) (fun r11 =>
  cond r11 (
  k0 ⟨false, s.v3, s.v4, s.v5⟩) (
  cond (decide (0 ≤ s.v2) && decide (s.v2 < ((s.v1.2.2.1 : Nat) : Int))) (
  F_ref26_in s.v5 (s.v1.2.2.2.2 (Int.toNat s.v2)) (fun r12 =>
  cond r12 (
  k0 ⟨false, s.v3, s.v4, s.v5⟩) (
  L_ref26_frames_8 ⟨s.v0, s.v1, s.v2, 0, s.v3, s.v4, s.v5⟩ (fun x13 =>
  k0 ⟨x13.v0, x13.v1, x13.v2, x13.v3⟩) (fun x14 =>
  let t15 : Int := (IntKind.i64.wrap (x14.v2 + 1))
  kn ⟨x14.v0, x14.v1, t15, x14.v3, x14.v4, x14.v5⟩)))) none))) none)) none) none))) none) (
  k1 ⟨s.v3, s.v4, s.v5⟩)
def Lf_ref26_frames_3 {α : Type} (L : SgL_ref26_frames_3 α) : LF α := fun env σ k => bif allB (fun b => Nat.blt b σ.next) [0] then (decT env 1 fun u1 => decI .i64 u1 fun v0 => decT env 2 fun u2 => decP 0 u2 <| decT env 5 fun u3 => decV_int_i64 u3 fun v1 => decT env 6 fun u4 => decI .i64 u4 fun v2 => decO σ 0 fun u5 => (match u5 with | .agg [u6, u7, u8] => decV_st_sl_int_i64_str_int_u64_str u6 fun v3 => decI .i64 u7 fun v4 => decV_int_i64 u8 fun v5 => L ⟨v0, v1, v2, v3, v4, v5⟩ (fun x => k .ret [(4, .bool x.v0)] ⟨σ.next, [(0, .cells none (.agg [(.vslc (.st [(.sl (.int .i64)), .str, (.int .u64), .str]) x.v1.1 x.v1.2.1 x.v1.2.2.1 x.v1.2.2.2.1 x.v1.2.2.2.2), (.int .i64 x.v2), (.vslc (.int .i64) x.v3.1 x.v3.2.1 x.v3.2.2.1 x.v3.2.2.2.1 x.v3.2.2.2.2)]))] ++ σ.blocks⟩) (fun x => k (.exit 0) [] ⟨σ.next, [(0, .cells none (.agg [(.vslc (.st [(.sl (.int .i64)), .str, (.int .u64), .str]) x.v0.1 x.v0.2.1 x.v0.2.2.1 x.v0.2.2.2.1 x.v0.2.2.2.2), (.int .i64 x.v1), (.vslc (.int .i64) x.v2.1 x.v2.2.1 x.v2.2.2.1 x.v2.2.2.2.1 x.v2.2.2.2.2)]))] ++ σ.blocks⟩) | _ => none)) else none
abbrev Sg_ref26_frames (α : Type) := GConfig → Int → (Bool → R α) → R α
def ad_ref26_frames {α : Type} (F : Sg_ref26_frames α) : FP α := fun args k => match args with
  | [a0, a1] => GConfig.dec a0 fun x0 => decI .i64 a1 fun x1 => F x0 x1 (fun r0 => k (.bool r0))
  | _ => none
def dR_ref26_frames {α : Type} (a0 : SV) (k : Bool → R α) : R α := decB a0 fun x0 => k x0
theorem dR_ref26_frames_spec {α : Type} {v : SV} {k : Bool → R α} {r : α} (h : dR_ref26_frames v k = some r) : ∃ x0, v = (.bool x0) ∧ k x0 = some r := by
  unfold dR_ref26_frames at h
  obtain ⟨x0, rfl, h0⟩ := decB_spec h
  exact ⟨x0, rfl, h0⟩
def p_ref26_frames {α : Type} (L_ref26_frames_3 : SgL_ref26_frames_3 α) (x0 : GConfig) (x1 : Int) (k : Bool → R α) : R α :=
  cond (decide (0 ≤ x1) && decide (x1 < ((x0.Guests.2.2.1 : Nat) : Int))) (
  L_ref26_frames_3 ⟨x1, (x0.Guests.2.2.2.2 (Int.toNat x1)).1, 0, x0.Guests, x0.Quantum, x0.Tables⟩ (fun x1 =>
  k x1.v0) (fun x2 =>
  k true)) none
theorem le_ref26_frames {α : Type} {F F' : Sg_ref26_frames α} (h : ∀ x0 x1 k r, F' x0 x1 k = some r → F x0 x1 k = some r) {args : List SV} {k : SV → R α} {r : α} (hk : ad_ref26_frames F' args k = some r) : ad_ref26_frames F args k = some r := by
  unfold ad_ref26_frames at hk
  split at hk <;> try (cases hk; done)
  obtain ⟨x0, rfl, hk0⟩ := GConfig.dec_spec hk
  obtain ⟨x1, rfl, hk1⟩ := decI_spec hk0
  have hkz := hk1
  exact h x0 x1 _ _ hkz
abbrev Sg_ref26_Window (α : Type) := GGuest → (Int → R α) → R α
def ad_ref26_Window {α : Type} (F : Sg_ref26_Window α) : FP α := fun args k => match args with
  | [a0] => GGuest.dec a0 fun x0 => F x0 (fun r0 => k (.int .i64 r0))
  | _ => none
def dR_ref26_Window {α : Type} (a0 : SV) (k : Int → R α) : R α := decI .i64 a0 fun x0 => k x0
theorem dR_ref26_Window_spec {α : Type} {v : SV} {k : Int → R α} {r : α} (h : dR_ref26_Window v k = some r) : ∃ x0, v = (.int .i64 x0) ∧ k x0 = some r := by
  unfold dR_ref26_Window at h
  obtain ⟨x0, rfl, h0⟩ := decI_spec h
  exact ⟨x0, rfl, h0⟩
def p_ref26_Window {α : Type}  (x0 : GGuest) (k : Int → R α) : R α :=
  let t1 : Int := (IntKind.i64.wrap (((x0.Frames.2.2.1 : Nat) : Int) * 256))
  k t1
theorem le_ref26_Window {α : Type} {F F' : Sg_ref26_Window α} (h : ∀ x0 k r, F' x0 k = some r → F x0 k = some r) {args : List SV} {k : SV → R α} {r : α} (hk : ad_ref26_Window F' args k = some r) : ad_ref26_Window F args k = some r := by
  unfold ad_ref26_Window at hk
  split at hk <;> try (cases hk; done)
  obtain ⟨x0, rfl, hk0⟩ := GGuest.dec_spec hk
  have hkz := hk0
  exact h x0 _ _ hkz
structure S_ref26_Check_5 where
  v0 : Int
  v1 : Int
  v2 : (Bool × Addr × Nat × Nat × (Nat → ((Bool × Addr × Nat × Nat × (Nat → Int)) × ByteArray × Int × ByteArray × Unit)))
  v3 : Int
  v4 : (Bool × Addr × Nat × Nat × (Nat → Int))
def E_ref26_Check_5 (s : S_ref26_Check_5) : Env := [(1, .ptr 0 []), (4, .int .i64 s.v0), (5, .int .i64 s.v1)]
def OS_ref26_Check_5 (s : S_ref26_Check_5) : List SObj := [.cells none (.agg [(.vslc (.st [(.sl (.int .i64)), .str, (.int .u64), .str]) s.v2.1 s.v2.2.1 s.v2.2.2.1 s.v2.2.2.2.1 s.v2.2.2.2.2), (.int .i64 s.v3), (.vslc (.int .i64) s.v4.1 s.v4.2.1 s.v4.2.2.1 s.v4.2.2.2.1 s.v4.2.2.2.2)])]
structure X_ref26_Check_5_0 where
  v0 : Int
  v1 : Int
  v2 : (Bool × Addr × Nat × Nat × (Nat → ((Bool × Addr × Nat × Nat × (Nat → Int)) × ByteArray × Int × ByteArray × Unit)))
  v3 : Int
  v4 : (Bool × Addr × Nat × Nat × (Nat → Int))
def EX_ref26_Check_5_0 (s : X_ref26_Check_5_0) : Env := [(2, .int .i64 s.v0), (3, .int .i64 s.v1)]
def OX_ref26_Check_5_0 (s : X_ref26_Check_5_0) : List SObj := [.cells none (.agg [(.vslc (.st [(.sl (.int .i64)), .str, (.int .u64), .str]) s.v2.1 s.v2.2.1 s.v2.2.2.1 s.v2.2.2.2.1 s.v2.2.2.2.2), (.int .i64 s.v3), (.vslc (.int .i64) s.v4.1 s.v4.2.1 s.v4.2.2.1 s.v4.2.2.2.1 s.v4.2.2.2.2)])]
structure X_ref26_Check_5_1 where
  v0 : Int
  v1 : (Bool × Addr × Nat × Nat × (Nat → ((Bool × Addr × Nat × Nat × (Nat → Int)) × ByteArray × Int × ByteArray × Unit)))
  v2 : Int
  v3 : (Bool × Addr × Nat × Nat × (Nat → Int))
def EX_ref26_Check_5_1 (s : X_ref26_Check_5_1) : Env := [(1, .ptr 0 []), (4, .int .i64 s.v0)]
def OX_ref26_Check_5_1 (s : X_ref26_Check_5_1) : List SObj := [.cells none (.agg [(.vslc (.st [(.sl (.int .i64)), .str, (.int .u64), .str]) s.v1.1 s.v1.2.1 s.v1.2.2.1 s.v1.2.2.2.1 s.v1.2.2.2.2), (.int .i64 s.v2), (.vslc (.int .i64) s.v3.1 s.v3.2.1 s.v3.2.2.1 s.v3.2.2.2.1 s.v3.2.2.2.2)])]
abbrev X_ref26_Check_5 := X_ref26_Check_5_0 ⊕ X_ref26_Check_5_1
def EX_ref26_Check_5 : X_ref26_Check_5 → Env
  | .inl x => EX_ref26_Check_5_0 x
  | .inr x => EX_ref26_Check_5_1 x
def OX_ref26_Check_5 : X_ref26_Check_5 → List SObj
  | .inl x => OX_ref26_Check_5_0 x
  | .inr x => OX_ref26_Check_5_1 x
def xx_ref26_Check_5 : X_ref26_Check_5 → SX
  | .inl _ => .ret
  | .inr _ => (.exit 0)
abbrev SgL_ref26_Check_5 (α : Type) := S_ref26_Check_5 → (X_ref26_Check_5_0 → R α) → (X_ref26_Check_5_1 → R α) → R α
def dL_ref26_Check_5 {α : Type} (kn : S_ref26_Check_5 → R α) (k0 : X_ref26_Check_5_0 → R α) (k1 : X_ref26_Check_5_1 → R α) : KC α := fun x env σ => match x with
  | .norm => decT env 1 fun u1 => decP 0 u1 <| decT env 4 fun u2 => decI .i64 u2 fun v0 => decT env 5 fun u3 => decI .i64 u3 fun v1 => decO σ 0 fun u4 => (match u4 with | .agg [u5, u6, u7] => decV_st_sl_int_i64_str_int_u64_str u5 fun v2 => decI .i64 u6 fun v3 => decV_int_i64 u7 fun v4 => kn ⟨v0, v1, v2, v3, v4⟩ | _ => none)
  | .ret => decT env 2 fun u1 => decI .i64 u1 fun v0 => decT env 3 fun u2 => decI .i64 u2 fun v1 => decO σ 0 fun u3 => (match u3 with | .agg [u4, u5, u6] => decV_st_sl_int_i64_str_int_u64_str u4 fun v2 => decI .i64 u5 fun v3 => decV_int_i64 u6 fun v4 => k0 ⟨v0, v1, v2, v3, v4⟩ | _ => none)
  | .exit i => bif Nat.beq i 0 then (decT env 1 fun u1 => decP 0 u1 <| decT env 4 fun u2 => decI .i64 u2 fun v0 => decO σ 0 fun u3 => (match u3 with | .agg [u4, u5, u6] => decV_st_sl_int_i64_str_int_u64_str u4 fun v1 => decI .i64 u5 fun v2 => decV_int_i64 u6 fun v3 => k1 ⟨v0, v1, v2, v3⟩ | _ => none)) else none
theorem dL_ref26_Check_5_spec {α : Type} {kn : S_ref26_Check_5 → R α} {k0 : X_ref26_Check_5_0 → R α} {k1 : X_ref26_Check_5_1 → R α} {x : SX} {env : Env} {σ : Heap} {r : α} (h : dL_ref26_Check_5 kn k0 k1 x env σ = some r) : (x = .norm ∧ ∃ s, (∀ t v, getE (E_ref26_Check_5 s) t = some v → Ids (· < 1) v ∧ getE env t = some v) ∧ (∀ y ∈ enumO 0 (OS_ref26_Check_5 s), σ.get y.1 = some y.2) ∧ kn s = some r) ∨ (x = .ret ∧ ∃ s, (∀ t v, getE (EX_ref26_Check_5_0 s) t = some v → Ids (· < 1) v ∧ getE env t = some v) ∧ (∀ y ∈ enumO 0 (OX_ref26_Check_5_0 s), σ.get y.1 = some y.2) ∧ k0 s = some r) ∨ (x = (.exit 0) ∧ ∃ s, (∀ t v, getE (EX_ref26_Check_5_1 s) t = some v → Ids (· < 1) v ∧ getE env t = some v) ∧ (∀ y ∈ enumO 0 (OX_ref26_Check_5_1 s), σ.get y.1 = some y.2) ∧ k1 s = some r) := by
  unfold dL_ref26_Check_5 at h
  split at h
  · skip
    obtain ⟨w1, w2, w3⟩ := decT_spec h
    obtain ⟨rfl, w4⟩ := decP_spec w3
    obtain ⟨w5, w6, w7⟩ := decT_spec w4
    obtain ⟨v0, rfl, w8⟩ := decI_spec w7
    obtain ⟨w9, w10, w11⟩ := decT_spec w8
    obtain ⟨v1, rfl, w12⟩ := decI_spec w11
    obtain ⟨w13, w14, w15⟩ := decO_spec w12
    split at w15 <;> try (cases w15; done)
    obtain ⟨v2, rfl, w16⟩ := decV_st_sl_int_i64_str_int_u64_str_spec w15
    obtain ⟨v3, rfl, w17⟩ := decI_spec w16
    obtain ⟨v4, rfl, w18⟩ := decV_int_i64_spec w17
    exact .inl (⟨rfl, ⟨v0, v1, v2, v3, v4⟩, env_all ⟨⟨by simp [Ids, Idss], w2⟩, ⟨by simp [Ids, Idss], w6⟩, ⟨by simp [Ids, Idss], w10⟩, trivial⟩, enum_all ⟨w14, trivial⟩, w18⟩)
  · skip
    obtain ⟨w1, w2, w3⟩ := decT_spec h
    obtain ⟨v0, rfl, w4⟩ := decI_spec w3
    obtain ⟨w5, w6, w7⟩ := decT_spec w4
    obtain ⟨v1, rfl, w8⟩ := decI_spec w7
    obtain ⟨w9, w10, w11⟩ := decO_spec w8
    split at w11 <;> try (cases w11; done)
    obtain ⟨v2, rfl, w12⟩ := decV_st_sl_int_i64_str_int_u64_str_spec w11
    obtain ⟨v3, rfl, w13⟩ := decI_spec w12
    obtain ⟨v4, rfl, w14⟩ := decV_int_i64_spec w13
    exact .inr (.inl (⟨rfl, ⟨v0, v1, v2, v3, v4⟩, env_all ⟨⟨by simp [Ids, Idss], w2⟩, ⟨by simp [Ids, Idss], w6⟩, trivial⟩, enum_all ⟨w10, trivial⟩, w14⟩))
  · rename_i i
    cases hi1 : Nat.beq i 0 <;> rw [hi1] at h <;> simp only [cond_true, cond_false] at h
    case true =>
      have e1 := Nat.eq_of_beq_eq_true hi1
      subst e1
      obtain ⟨w1, w2, w3⟩ := decT_spec h
      obtain ⟨rfl, w4⟩ := decP_spec w3
      obtain ⟨w5, w6, w7⟩ := decT_spec w4
      obtain ⟨v0, rfl, w8⟩ := decI_spec w7
      obtain ⟨w9, w10, w11⟩ := decO_spec w8
      split at w11 <;> try (cases w11; done)
      obtain ⟨v1, rfl, w12⟩ := decV_st_sl_int_i64_str_int_u64_str_spec w11
      obtain ⟨v2, rfl, w13⟩ := decI_spec w12
      obtain ⟨v3, rfl, w14⟩ := decV_int_i64_spec w13
      exact .inr (.inr ((⟨rfl, ⟨v0, v1, v2, v3⟩, env_all ⟨⟨by simp [Ids, Idss], w2⟩, ⟨by simp [Ids, Idss], w6⟩, trivial⟩, enum_all ⟨w10, trivial⟩, w14⟩)))
    cases h
def b_ref26_Check_5 {α : Type}  (s : S_ref26_Check_5) (kn : S_ref26_Check_5 → R α) (k0 : X_ref26_Check_5_0 → R α) (k1 : X_ref26_Check_5_1 → R α) : R α :=
  let b1 : Bool := (ltB s.v1 s.v0)
  cond b1 (
  cond (decide (0 ≤ s.v1) && decide (s.v1 < ((s.v2.2.2.1 : Nat) : Int))) (
  let b2 : Bool := (ltB (((s.v2.2.2.2.2 (Int.toNat s.v1)).1.2.2.1 : Nat) : Int) 1)
  cond b2 (
  k0 ⟨s.v1, 240, s.v2, s.v3, s.v4⟩) (
  cond (decide (0 ≤ s.v1) && decide (s.v1 < ((s.v2.2.2.1 : Nat) : Int))) (
  let b3 : Bool := (ltB 16 (((s.v2.2.2.2.2 (Int.toNat s.v1)).1.2.2.1 : Nat) : Int))
  cond b3 (
  k0 ⟨s.v1, 240, s.v2, s.v3, s.v4⟩) (
  let t4 : Int := (IntKind.i64.wrap (s.v1 + 1))
  kn ⟨s.v0, t4, s.v2, s.v3, s.v4⟩)) none)) none) (
  k1 ⟨s.v0, s.v2, s.v3, s.v4⟩)
def Lf_ref26_Check_5 {α : Type} (L : SgL_ref26_Check_5 α) : LF α := fun env σ k => bif allB (fun b => Nat.blt b σ.next) [0] then (decT env 1 fun u1 => decP 0 u1 <| decT env 4 fun u2 => decI .i64 u2 fun v0 => decT env 5 fun u3 => decI .i64 u3 fun v1 => decO σ 0 fun u4 => (match u4 with | .agg [u5, u6, u7] => decV_st_sl_int_i64_str_int_u64_str u5 fun v2 => decI .i64 u6 fun v3 => decV_int_i64 u7 fun v4 => L ⟨v0, v1, v2, v3, v4⟩ (fun x => k .ret [(2, .int .i64 x.v0), (3, .int .i64 x.v1)] ⟨σ.next, [(0, .cells none (.agg [(.vslc (.st [(.sl (.int .i64)), .str, (.int .u64), .str]) x.v2.1 x.v2.2.1 x.v2.2.2.1 x.v2.2.2.2.1 x.v2.2.2.2.2), (.int .i64 x.v3), (.vslc (.int .i64) x.v4.1 x.v4.2.1 x.v4.2.2.1 x.v4.2.2.2.1 x.v4.2.2.2.2)]))] ++ σ.blocks⟩) (fun x => k (.exit 0) [(1, .ptr 0 []), (4, .int .i64 x.v0)] ⟨σ.next, [(0, .cells none (.agg [(.vslc (.st [(.sl (.int .i64)), .str, (.int .u64), .str]) x.v1.1 x.v1.2.1 x.v1.2.2.1 x.v1.2.2.2.1 x.v1.2.2.2.2), (.int .i64 x.v2), (.vslc (.int .i64) x.v3.1 x.v3.2.1 x.v3.2.2.1 x.v3.2.2.2.1 x.v3.2.2.2.2)]))] ++ σ.blocks⟩) | _ => none)) else none
structure S_ref26_Check_12 where
  v0 : Int
  v1 : Int
  v2 : (Bool × Addr × Nat × Nat × (Nat → ((Bool × Addr × Nat × Nat × (Nat → Int)) × ByteArray × Int × ByteArray × Unit)))
  v3 : Int
  v4 : (Bool × Addr × Nat × Nat × (Nat → Int))
def E_ref26_Check_12 (s : S_ref26_Check_12) : Env := [(1, .ptr 0 []), (4, .int .i64 s.v0), (6, .int .i64 s.v1)]
def OS_ref26_Check_12 (s : S_ref26_Check_12) : List SObj := [.cells none (.agg [(.vslc (.st [(.sl (.int .i64)), .str, (.int .u64), .str]) s.v2.1 s.v2.2.1 s.v2.2.2.1 s.v2.2.2.2.1 s.v2.2.2.2.2), (.int .i64 s.v3), (.vslc (.int .i64) s.v4.1 s.v4.2.1 s.v4.2.2.1 s.v4.2.2.2.1 s.v4.2.2.2.2)])]
structure X_ref26_Check_12_0 where
  v0 : Int
  v1 : Int
  v2 : (Bool × Addr × Nat × Nat × (Nat → ((Bool × Addr × Nat × Nat × (Nat → Int)) × ByteArray × Int × ByteArray × Unit)))
  v3 : Int
  v4 : (Bool × Addr × Nat × Nat × (Nat → Int))
def EX_ref26_Check_12_0 (s : X_ref26_Check_12_0) : Env := [(2, .int .i64 s.v0), (3, .int .i64 s.v1)]
def OX_ref26_Check_12_0 (s : X_ref26_Check_12_0) : List SObj := [.cells none (.agg [(.vslc (.st [(.sl (.int .i64)), .str, (.int .u64), .str]) s.v2.1 s.v2.2.1 s.v2.2.2.1 s.v2.2.2.2.1 s.v2.2.2.2.2), (.int .i64 s.v3), (.vslc (.int .i64) s.v4.1 s.v4.2.1 s.v4.2.2.1 s.v4.2.2.2.1 s.v4.2.2.2.2)])]
structure X_ref26_Check_12_1 where
  v0 : Int
  v1 : (Bool × Addr × Nat × Nat × (Nat → ((Bool × Addr × Nat × Nat × (Nat → Int)) × ByteArray × Int × ByteArray × Unit)))
  v2 : Int
  v3 : (Bool × Addr × Nat × Nat × (Nat → Int))
def EX_ref26_Check_12_1 (s : X_ref26_Check_12_1) : Env := [(1, .ptr 0 []), (4, .int .i64 s.v0)]
def OX_ref26_Check_12_1 (s : X_ref26_Check_12_1) : List SObj := [.cells none (.agg [(.vslc (.st [(.sl (.int .i64)), .str, (.int .u64), .str]) s.v1.1 s.v1.2.1 s.v1.2.2.1 s.v1.2.2.2.1 s.v1.2.2.2.2), (.int .i64 s.v2), (.vslc (.int .i64) s.v3.1 s.v3.2.1 s.v3.2.2.1 s.v3.2.2.2.1 s.v3.2.2.2.2)])]
abbrev X_ref26_Check_12 := X_ref26_Check_12_0 ⊕ X_ref26_Check_12_1
def EX_ref26_Check_12 : X_ref26_Check_12 → Env
  | .inl x => EX_ref26_Check_12_0 x
  | .inr x => EX_ref26_Check_12_1 x
def OX_ref26_Check_12 : X_ref26_Check_12 → List SObj
  | .inl x => OX_ref26_Check_12_0 x
  | .inr x => OX_ref26_Check_12_1 x
def xx_ref26_Check_12 : X_ref26_Check_12 → SX
  | .inl _ => .ret
  | .inr _ => (.exit 2)
abbrev SgL_ref26_Check_12 (α : Type) := S_ref26_Check_12 → (X_ref26_Check_12_0 → R α) → (X_ref26_Check_12_1 → R α) → R α
def dL_ref26_Check_12 {α : Type} (kn : S_ref26_Check_12 → R α) (k0 : X_ref26_Check_12_0 → R α) (k1 : X_ref26_Check_12_1 → R α) : KC α := fun x env σ => match x with
  | .norm => decT env 1 fun u1 => decP 0 u1 <| decT env 4 fun u2 => decI .i64 u2 fun v0 => decT env 6 fun u3 => decI .i64 u3 fun v1 => decO σ 0 fun u4 => (match u4 with | .agg [u5, u6, u7] => decV_st_sl_int_i64_str_int_u64_str u5 fun v2 => decI .i64 u6 fun v3 => decV_int_i64 u7 fun v4 => kn ⟨v0, v1, v2, v3, v4⟩ | _ => none)
  | .ret => decT env 2 fun u1 => decI .i64 u1 fun v0 => decT env 3 fun u2 => decI .i64 u2 fun v1 => decO σ 0 fun u3 => (match u3 with | .agg [u4, u5, u6] => decV_st_sl_int_i64_str_int_u64_str u4 fun v2 => decI .i64 u5 fun v3 => decV_int_i64 u6 fun v4 => k0 ⟨v0, v1, v2, v3, v4⟩ | _ => none)
  | .exit i => bif Nat.beq i 2 then (decT env 1 fun u1 => decP 0 u1 <| decT env 4 fun u2 => decI .i64 u2 fun v0 => decO σ 0 fun u3 => (match u3 with | .agg [u4, u5, u6] => decV_st_sl_int_i64_str_int_u64_str u4 fun v1 => decI .i64 u5 fun v2 => decV_int_i64 u6 fun v3 => k1 ⟨v0, v1, v2, v3⟩ | _ => none)) else none
theorem dL_ref26_Check_12_spec {α : Type} {kn : S_ref26_Check_12 → R α} {k0 : X_ref26_Check_12_0 → R α} {k1 : X_ref26_Check_12_1 → R α} {x : SX} {env : Env} {σ : Heap} {r : α} (h : dL_ref26_Check_12 kn k0 k1 x env σ = some r) : (x = .norm ∧ ∃ s, (∀ t v, getE (E_ref26_Check_12 s) t = some v → Ids (· < 1) v ∧ getE env t = some v) ∧ (∀ y ∈ enumO 0 (OS_ref26_Check_12 s), σ.get y.1 = some y.2) ∧ kn s = some r) ∨ (x = .ret ∧ ∃ s, (∀ t v, getE (EX_ref26_Check_12_0 s) t = some v → Ids (· < 1) v ∧ getE env t = some v) ∧ (∀ y ∈ enumO 0 (OX_ref26_Check_12_0 s), σ.get y.1 = some y.2) ∧ k0 s = some r) ∨ (x = (.exit 2) ∧ ∃ s, (∀ t v, getE (EX_ref26_Check_12_1 s) t = some v → Ids (· < 1) v ∧ getE env t = some v) ∧ (∀ y ∈ enumO 0 (OX_ref26_Check_12_1 s), σ.get y.1 = some y.2) ∧ k1 s = some r) := by
  unfold dL_ref26_Check_12 at h
  split at h
  · skip
    obtain ⟨w1, w2, w3⟩ := decT_spec h
    obtain ⟨rfl, w4⟩ := decP_spec w3
    obtain ⟨w5, w6, w7⟩ := decT_spec w4
    obtain ⟨v0, rfl, w8⟩ := decI_spec w7
    obtain ⟨w9, w10, w11⟩ := decT_spec w8
    obtain ⟨v1, rfl, w12⟩ := decI_spec w11
    obtain ⟨w13, w14, w15⟩ := decO_spec w12
    split at w15 <;> try (cases w15; done)
    obtain ⟨v2, rfl, w16⟩ := decV_st_sl_int_i64_str_int_u64_str_spec w15
    obtain ⟨v3, rfl, w17⟩ := decI_spec w16
    obtain ⟨v4, rfl, w18⟩ := decV_int_i64_spec w17
    exact .inl (⟨rfl, ⟨v0, v1, v2, v3, v4⟩, env_all ⟨⟨by simp [Ids, Idss], w2⟩, ⟨by simp [Ids, Idss], w6⟩, ⟨by simp [Ids, Idss], w10⟩, trivial⟩, enum_all ⟨w14, trivial⟩, w18⟩)
  · skip
    obtain ⟨w1, w2, w3⟩ := decT_spec h
    obtain ⟨v0, rfl, w4⟩ := decI_spec w3
    obtain ⟨w5, w6, w7⟩ := decT_spec w4
    obtain ⟨v1, rfl, w8⟩ := decI_spec w7
    obtain ⟨w9, w10, w11⟩ := decO_spec w8
    split at w11 <;> try (cases w11; done)
    obtain ⟨v2, rfl, w12⟩ := decV_st_sl_int_i64_str_int_u64_str_spec w11
    obtain ⟨v3, rfl, w13⟩ := decI_spec w12
    obtain ⟨v4, rfl, w14⟩ := decV_int_i64_spec w13
    exact .inr (.inl (⟨rfl, ⟨v0, v1, v2, v3, v4⟩, env_all ⟨⟨by simp [Ids, Idss], w2⟩, ⟨by simp [Ids, Idss], w6⟩, trivial⟩, enum_all ⟨w10, trivial⟩, w14⟩))
  · rename_i i
    cases hi1 : Nat.beq i 2 <;> rw [hi1] at h <;> simp only [cond_true, cond_false] at h
    case true =>
      have e1 := Nat.eq_of_beq_eq_true hi1
      subst e1
      obtain ⟨w1, w2, w3⟩ := decT_spec h
      obtain ⟨rfl, w4⟩ := decP_spec w3
      obtain ⟨w5, w6, w7⟩ := decT_spec w4
      obtain ⟨v0, rfl, w8⟩ := decI_spec w7
      obtain ⟨w9, w10, w11⟩ := decO_spec w8
      split at w11 <;> try (cases w11; done)
      obtain ⟨v1, rfl, w12⟩ := decV_st_sl_int_i64_str_int_u64_str_spec w11
      obtain ⟨v2, rfl, w13⟩ := decI_spec w12
      obtain ⟨v3, rfl, w14⟩ := decV_int_i64_spec w13
      exact .inr (.inr ((⟨rfl, ⟨v0, v1, v2, v3⟩, env_all ⟨⟨by simp [Ids, Idss], w2⟩, ⟨by simp [Ids, Idss], w6⟩, trivial⟩, enum_all ⟨w10, trivial⟩, w14⟩)))
    cases h
def b_ref26_Check_12 {α : Type} (F_ref26_frames : Sg_ref26_frames α) (s : S_ref26_Check_12) (kn : S_ref26_Check_12 → R α) (k0 : X_ref26_Check_12_0 → R α) (k1 : X_ref26_Check_12_1 → R α) : R α :=
  let b1 : Bool := (ltB s.v1 s.v0)
  cond b1 (
  F_ref26_frames (GConfig.mk s.v2 s.v3 s.v4) s.v1 (fun r2 =>
  let b3 : Bool := (!r2)
  cond b3 (
  k0 ⟨s.v1, 241, s.v2, s.v3, s.v4⟩) (
  let t4 : Int := (IntKind.i64.wrap (s.v1 + 1))
  kn ⟨s.v0, t4, s.v2, s.v3, s.v4⟩))) (
  k1 ⟨s.v0, s.v2, s.v3, s.v4⟩)
def Lf_ref26_Check_12 {α : Type} (L : SgL_ref26_Check_12 α) : LF α := fun env σ k => bif allB (fun b => Nat.blt b σ.next) [0] then (decT env 1 fun u1 => decP 0 u1 <| decT env 4 fun u2 => decI .i64 u2 fun v0 => decT env 6 fun u3 => decI .i64 u3 fun v1 => decO σ 0 fun u4 => (match u4 with | .agg [u5, u6, u7] => decV_st_sl_int_i64_str_int_u64_str u5 fun v2 => decI .i64 u6 fun v3 => decV_int_i64 u7 fun v4 => L ⟨v0, v1, v2, v3, v4⟩ (fun x => k .ret [(2, .int .i64 x.v0), (3, .int .i64 x.v1)] ⟨σ.next, [(0, .cells none (.agg [(.vslc (.st [(.sl (.int .i64)), .str, (.int .u64), .str]) x.v2.1 x.v2.2.1 x.v2.2.2.1 x.v2.2.2.2.1 x.v2.2.2.2.2), (.int .i64 x.v3), (.vslc (.int .i64) x.v4.1 x.v4.2.1 x.v4.2.2.1 x.v4.2.2.2.1 x.v4.2.2.2.2)]))] ++ σ.blocks⟩) (fun x => k (.exit 2) [(1, .ptr 0 []), (4, .int .i64 x.v0)] ⟨σ.next, [(0, .cells none (.agg [(.vslc (.st [(.sl (.int .i64)), .str, (.int .u64), .str]) x.v1.1 x.v1.2.1 x.v1.2.2.1 x.v1.2.2.2.1 x.v1.2.2.2.2), (.int .i64 x.v2), (.vslc (.int .i64) x.v3.1 x.v3.2.1 x.v3.2.2.1 x.v3.2.2.2.1 x.v3.2.2.2.2)]))] ++ σ.blocks⟩) | _ => none)) else none
structure S_ref26_Check_17 where
  v0 : Int
  v1 : Int
  v2 : (Bool × Addr × Nat × Nat × (Nat → ((Bool × Addr × Nat × Nat × (Nat → Int)) × ByteArray × Int × ByteArray × Unit)))
  v3 : Int
  v4 : (Bool × Addr × Nat × Nat × (Nat → Int))
def E_ref26_Check_17 (s : S_ref26_Check_17) : Env := [(1, .ptr 0 []), (4, .int .i64 s.v0), (7, .int .i64 s.v1)]
def OS_ref26_Check_17 (s : S_ref26_Check_17) : List SObj := [.cells none (.agg [(.vslc (.st [(.sl (.int .i64)), .str, (.int .u64), .str]) s.v2.1 s.v2.2.1 s.v2.2.2.1 s.v2.2.2.2.1 s.v2.2.2.2.2), (.int .i64 s.v3), (.vslc (.int .i64) s.v4.1 s.v4.2.1 s.v4.2.2.1 s.v4.2.2.2.1 s.v4.2.2.2.2)])]
structure X_ref26_Check_17_0 where
  v0 : Int
  v1 : Int
  v2 : (Bool × Addr × Nat × Nat × (Nat → ((Bool × Addr × Nat × Nat × (Nat → Int)) × ByteArray × Int × ByteArray × Unit)))
  v3 : Int
  v4 : (Bool × Addr × Nat × Nat × (Nat → Int))
def EX_ref26_Check_17_0 (s : X_ref26_Check_17_0) : Env := [(2, .int .i64 s.v0), (3, .int .i64 s.v1)]
def OX_ref26_Check_17_0 (s : X_ref26_Check_17_0) : List SObj := [.cells none (.agg [(.vslc (.st [(.sl (.int .i64)), .str, (.int .u64), .str]) s.v2.1 s.v2.2.1 s.v2.2.2.1 s.v2.2.2.2.1 s.v2.2.2.2.2), (.int .i64 s.v3), (.vslc (.int .i64) s.v4.1 s.v4.2.1 s.v4.2.2.1 s.v4.2.2.2.1 s.v4.2.2.2.2)])]
structure X_ref26_Check_17_1 where
  v0 : Int
  v1 : (Bool × Addr × Nat × Nat × (Nat → ((Bool × Addr × Nat × Nat × (Nat → Int)) × ByteArray × Int × ByteArray × Unit)))
  v2 : Int
  v3 : (Bool × Addr × Nat × Nat × (Nat → Int))
def EX_ref26_Check_17_1 (s : X_ref26_Check_17_1) : Env := [(1, .ptr 0 []), (4, .int .i64 s.v0)]
def OX_ref26_Check_17_1 (s : X_ref26_Check_17_1) : List SObj := [.cells none (.agg [(.vslc (.st [(.sl (.int .i64)), .str, (.int .u64), .str]) s.v1.1 s.v1.2.1 s.v1.2.2.1 s.v1.2.2.2.1 s.v1.2.2.2.2), (.int .i64 s.v2), (.vslc (.int .i64) s.v3.1 s.v3.2.1 s.v3.2.2.1 s.v3.2.2.2.1 s.v3.2.2.2.2)])]
abbrev X_ref26_Check_17 := X_ref26_Check_17_0 ⊕ X_ref26_Check_17_1
def EX_ref26_Check_17 : X_ref26_Check_17 → Env
  | .inl x => EX_ref26_Check_17_0 x
  | .inr x => EX_ref26_Check_17_1 x
def OX_ref26_Check_17 : X_ref26_Check_17 → List SObj
  | .inl x => OX_ref26_Check_17_0 x
  | .inr x => OX_ref26_Check_17_1 x
def xx_ref26_Check_17 : X_ref26_Check_17 → SX
  | .inl _ => .ret
  | .inr _ => (.exit 4)
abbrev SgL_ref26_Check_17 (α : Type) := S_ref26_Check_17 → (X_ref26_Check_17_0 → R α) → (X_ref26_Check_17_1 → R α) → R α
def dL_ref26_Check_17 {α : Type} (kn : S_ref26_Check_17 → R α) (k0 : X_ref26_Check_17_0 → R α) (k1 : X_ref26_Check_17_1 → R α) : KC α := fun x env σ => match x with
  | .norm => decT env 1 fun u1 => decP 0 u1 <| decT env 4 fun u2 => decI .i64 u2 fun v0 => decT env 7 fun u3 => decI .i64 u3 fun v1 => decO σ 0 fun u4 => (match u4 with | .agg [u5, u6, u7] => decV_st_sl_int_i64_str_int_u64_str u5 fun v2 => decI .i64 u6 fun v3 => decV_int_i64 u7 fun v4 => kn ⟨v0, v1, v2, v3, v4⟩ | _ => none)
  | .ret => decT env 2 fun u1 => decI .i64 u1 fun v0 => decT env 3 fun u2 => decI .i64 u2 fun v1 => decO σ 0 fun u3 => (match u3 with | .agg [u4, u5, u6] => decV_st_sl_int_i64_str_int_u64_str u4 fun v2 => decI .i64 u5 fun v3 => decV_int_i64 u6 fun v4 => k0 ⟨v0, v1, v2, v3, v4⟩ | _ => none)
  | .exit i => bif Nat.beq i 4 then (decT env 1 fun u1 => decP 0 u1 <| decT env 4 fun u2 => decI .i64 u2 fun v0 => decO σ 0 fun u3 => (match u3 with | .agg [u4, u5, u6] => decV_st_sl_int_i64_str_int_u64_str u4 fun v1 => decI .i64 u5 fun v2 => decV_int_i64 u6 fun v3 => k1 ⟨v0, v1, v2, v3⟩ | _ => none)) else none
theorem dL_ref26_Check_17_spec {α : Type} {kn : S_ref26_Check_17 → R α} {k0 : X_ref26_Check_17_0 → R α} {k1 : X_ref26_Check_17_1 → R α} {x : SX} {env : Env} {σ : Heap} {r : α} (h : dL_ref26_Check_17 kn k0 k1 x env σ = some r) : (x = .norm ∧ ∃ s, (∀ t v, getE (E_ref26_Check_17 s) t = some v → Ids (· < 1) v ∧ getE env t = some v) ∧ (∀ y ∈ enumO 0 (OS_ref26_Check_17 s), σ.get y.1 = some y.2) ∧ kn s = some r) ∨ (x = .ret ∧ ∃ s, (∀ t v, getE (EX_ref26_Check_17_0 s) t = some v → Ids (· < 1) v ∧ getE env t = some v) ∧ (∀ y ∈ enumO 0 (OX_ref26_Check_17_0 s), σ.get y.1 = some y.2) ∧ k0 s = some r) ∨ (x = (.exit 4) ∧ ∃ s, (∀ t v, getE (EX_ref26_Check_17_1 s) t = some v → Ids (· < 1) v ∧ getE env t = some v) ∧ (∀ y ∈ enumO 0 (OX_ref26_Check_17_1 s), σ.get y.1 = some y.2) ∧ k1 s = some r) := by
  unfold dL_ref26_Check_17 at h
  split at h
  · skip
    obtain ⟨w1, w2, w3⟩ := decT_spec h
    obtain ⟨rfl, w4⟩ := decP_spec w3
    obtain ⟨w5, w6, w7⟩ := decT_spec w4
    obtain ⟨v0, rfl, w8⟩ := decI_spec w7
    obtain ⟨w9, w10, w11⟩ := decT_spec w8
    obtain ⟨v1, rfl, w12⟩ := decI_spec w11
    obtain ⟨w13, w14, w15⟩ := decO_spec w12
    split at w15 <;> try (cases w15; done)
    obtain ⟨v2, rfl, w16⟩ := decV_st_sl_int_i64_str_int_u64_str_spec w15
    obtain ⟨v3, rfl, w17⟩ := decI_spec w16
    obtain ⟨v4, rfl, w18⟩ := decV_int_i64_spec w17
    exact .inl (⟨rfl, ⟨v0, v1, v2, v3, v4⟩, env_all ⟨⟨by simp [Ids, Idss], w2⟩, ⟨by simp [Ids, Idss], w6⟩, ⟨by simp [Ids, Idss], w10⟩, trivial⟩, enum_all ⟨w14, trivial⟩, w18⟩)
  · skip
    obtain ⟨w1, w2, w3⟩ := decT_spec h
    obtain ⟨v0, rfl, w4⟩ := decI_spec w3
    obtain ⟨w5, w6, w7⟩ := decT_spec w4
    obtain ⟨v1, rfl, w8⟩ := decI_spec w7
    obtain ⟨w9, w10, w11⟩ := decO_spec w8
    split at w11 <;> try (cases w11; done)
    obtain ⟨v2, rfl, w12⟩ := decV_st_sl_int_i64_str_int_u64_str_spec w11
    obtain ⟨v3, rfl, w13⟩ := decI_spec w12
    obtain ⟨v4, rfl, w14⟩ := decV_int_i64_spec w13
    exact .inr (.inl (⟨rfl, ⟨v0, v1, v2, v3, v4⟩, env_all ⟨⟨by simp [Ids, Idss], w2⟩, ⟨by simp [Ids, Idss], w6⟩, trivial⟩, enum_all ⟨w10, trivial⟩, w14⟩))
  · rename_i i
    cases hi1 : Nat.beq i 4 <;> rw [hi1] at h <;> simp only [cond_true, cond_false] at h
    case true =>
      have e1 := Nat.eq_of_beq_eq_true hi1
      subst e1
      obtain ⟨w1, w2, w3⟩ := decT_spec h
      obtain ⟨rfl, w4⟩ := decP_spec w3
      obtain ⟨w5, w6, w7⟩ := decT_spec w4
      obtain ⟨v0, rfl, w8⟩ := decI_spec w7
      obtain ⟨w9, w10, w11⟩ := decO_spec w8
      split at w11 <;> try (cases w11; done)
      obtain ⟨v1, rfl, w12⟩ := decV_st_sl_int_i64_str_int_u64_str_spec w11
      obtain ⟨v2, rfl, w13⟩ := decI_spec w12
      obtain ⟨v3, rfl, w14⟩ := decV_int_i64_spec w13
      exact .inr (.inr ((⟨rfl, ⟨v0, v1, v2, v3⟩, env_all ⟨⟨by simp [Ids, Idss], w2⟩, ⟨by simp [Ids, Idss], w6⟩, trivial⟩, enum_all ⟨w10, trivial⟩, w14⟩)))
    cases h
def b_ref26_Check_17 {α : Type} (F_ref26_isFrame : Sg_ref26_isFrame α) (F_ref26_in : Sg_ref26_in α) (s : S_ref26_Check_17) (kn : S_ref26_Check_17 → R α) (k0 : X_ref26_Check_17_0 → R α) (k1 : X_ref26_Check_17_1 → R α) : R α :=
  let b1 : Bool := (ltB s.v1 ((s.v4.2.2.1 : Nat) : Int))
  cond b1 (
  cond (decide (0 ≤ s.v1) && decide (s.v1 < ((s.v4.2.2.1 : Nat) : Int))) (
  F_ref26_isFrame (s.v4.2.2.2.2 (Int.toNat s.v1)) (fun r2 =>
  let b3 : Bool := (!r2)
  cond b3 (
  k0 ⟨0, 241, s.v2, s.v3, s.v4⟩) (
  cond (decide (0 ≤ s.v1) && decide (s.v1 ≤ ((s.v4.2.2.1 : Nat) : Int))) (
  cond (decide (0 ≤ 0) && decide (0 ≤ s.v1)) (
  cond (Nat.beq s.v4.2.2.2.1 0) (
  let l4 : (Bool × Addr × Nat × Nat × (Nat → Int)) := (s.v4.1, s.v4.2.1, (Int.toNat s.v1) - 0, s.v4.2.2.2.1 - 0, fun i => s.v4.2.2.2.2 (0 + i))
  cond (decide (0 ≤ s.v1) && decide (s.v1 < ((s.v4.2.2.1 : Nat) : Int))) (
  F_ref26_in l4 (s.v4.2.2.2.2 (Int.toNat s.v1)) (fun r5 =>
  cond r5 (
  k0 ⟨0, 241, s.v2, s.v3, s.v4⟩) (
  let t6 : Int := (IntKind.i64.wrap (s.v1 + 1))
  kn ⟨s.v0, t6, s.v2, s.v3, s.v4⟩))) none) (
  let l7 : (Bool × Addr × Nat × Nat × (Nat → Int)) := (s.v4.1, (Addr.add s.v4.2.1 (0 * 1)), (Int.toNat s.v1) - 0, s.v4.2.2.2.1 - 0, fun i => s.v4.2.2.2.2 (0 + i))
  cond (decide (0 ≤ s.v1) && decide (s.v1 < ((s.v4.2.2.1 : Nat) : Int))) (
  F_ref26_in l7 (s.v4.2.2.2.2 (Int.toNat s.v1)) (fun r8 =>
  cond r8 (
  k0 ⟨0, 241, s.v2, s.v3, s.v4⟩) (
  let t9 : Int := (IntKind.i64.wrap (s.v1 + 1))
  kn ⟨s.v0, t9, s.v2, s.v3, s.v4⟩))) none)) none) none))) none) (
  k1 ⟨s.v0, s.v2, s.v3, s.v4⟩)
def Lf_ref26_Check_17 {α : Type} (L : SgL_ref26_Check_17 α) : LF α := fun env σ k => bif allB (fun b => Nat.blt b σ.next) [0] then (decT env 1 fun u1 => decP 0 u1 <| decT env 4 fun u2 => decI .i64 u2 fun v0 => decT env 7 fun u3 => decI .i64 u3 fun v1 => decO σ 0 fun u4 => (match u4 with | .agg [u5, u6, u7] => decV_st_sl_int_i64_str_int_u64_str u5 fun v2 => decI .i64 u6 fun v3 => decV_int_i64 u7 fun v4 => L ⟨v0, v1, v2, v3, v4⟩ (fun x => k .ret [(2, .int .i64 x.v0), (3, .int .i64 x.v1)] ⟨σ.next, [(0, .cells none (.agg [(.vslc (.st [(.sl (.int .i64)), .str, (.int .u64), .str]) x.v2.1 x.v2.2.1 x.v2.2.2.1 x.v2.2.2.2.1 x.v2.2.2.2.2), (.int .i64 x.v3), (.vslc (.int .i64) x.v4.1 x.v4.2.1 x.v4.2.2.1 x.v4.2.2.2.1 x.v4.2.2.2.2)]))] ++ σ.blocks⟩) (fun x => k (.exit 4) [(1, .ptr 0 []), (4, .int .i64 x.v0)] ⟨σ.next, [(0, .cells none (.agg [(.vslc (.st [(.sl (.int .i64)), .str, (.int .u64), .str]) x.v1.1 x.v1.2.1 x.v1.2.2.1 x.v1.2.2.2.1 x.v1.2.2.2.2), (.int .i64 x.v2), (.vslc (.int .i64) x.v3.1 x.v3.2.1 x.v3.2.2.1 x.v3.2.2.2.1 x.v3.2.2.2.2)]))] ++ σ.blocks⟩) | _ => none)) else none
structure S_ref26_Check_22 where
  v0 : Int
  v1 : Int
  v2 : (Bool × Addr × Nat × Nat × (Nat → ((Bool × Addr × Nat × Nat × (Nat → Int)) × ByteArray × Int × ByteArray × Unit)))
  v3 : Int
  v4 : (Bool × Addr × Nat × Nat × (Nat → Int))
def E_ref26_Check_22 (s : S_ref26_Check_22) : Env := [(1, .ptr 0 []), (4, .int .i64 s.v0), (8, .int .i64 s.v1)]
def OS_ref26_Check_22 (s : S_ref26_Check_22) : List SObj := [.cells none (.agg [(.vslc (.st [(.sl (.int .i64)), .str, (.int .u64), .str]) s.v2.1 s.v2.2.1 s.v2.2.2.1 s.v2.2.2.2.1 s.v2.2.2.2.2), (.int .i64 s.v3), (.vslc (.int .i64) s.v4.1 s.v4.2.1 s.v4.2.2.1 s.v4.2.2.2.1 s.v4.2.2.2.2)])]
structure X_ref26_Check_22_0 where
  v0 : Int
  v1 : Int
  v2 : (Bool × Addr × Nat × Nat × (Nat → ((Bool × Addr × Nat × Nat × (Nat → Int)) × ByteArray × Int × ByteArray × Unit)))
  v3 : Int
  v4 : (Bool × Addr × Nat × Nat × (Nat → Int))
def EX_ref26_Check_22_0 (s : X_ref26_Check_22_0) : Env := [(2, .int .i64 s.v0), (3, .int .i64 s.v1)]
def OX_ref26_Check_22_0 (s : X_ref26_Check_22_0) : List SObj := [.cells none (.agg [(.vslc (.st [(.sl (.int .i64)), .str, (.int .u64), .str]) s.v2.1 s.v2.2.1 s.v2.2.2.1 s.v2.2.2.2.1 s.v2.2.2.2.2), (.int .i64 s.v3), (.vslc (.int .i64) s.v4.1 s.v4.2.1 s.v4.2.2.1 s.v4.2.2.2.1 s.v4.2.2.2.2)])]
structure X_ref26_Check_22_1 where
  v0 : (Bool × Addr × Nat × Nat × (Nat → ((Bool × Addr × Nat × Nat × (Nat → Int)) × ByteArray × Int × ByteArray × Unit)))
  v1 : Int
  v2 : (Bool × Addr × Nat × Nat × (Nat → Int))
def EX_ref26_Check_22_1 (s : X_ref26_Check_22_1) : Env := []
def OX_ref26_Check_22_1 (s : X_ref26_Check_22_1) : List SObj := [.cells none (.agg [(.vslc (.st [(.sl (.int .i64)), .str, (.int .u64), .str]) s.v0.1 s.v0.2.1 s.v0.2.2.1 s.v0.2.2.2.1 s.v0.2.2.2.2), (.int .i64 s.v1), (.vslc (.int .i64) s.v2.1 s.v2.2.1 s.v2.2.2.1 s.v2.2.2.2.1 s.v2.2.2.2.2)])]
abbrev X_ref26_Check_22 := X_ref26_Check_22_0 ⊕ X_ref26_Check_22_1
def EX_ref26_Check_22 : X_ref26_Check_22 → Env
  | .inl x => EX_ref26_Check_22_0 x
  | .inr x => EX_ref26_Check_22_1 x
def OX_ref26_Check_22 : X_ref26_Check_22 → List SObj
  | .inl x => OX_ref26_Check_22_0 x
  | .inr x => OX_ref26_Check_22_1 x
def xx_ref26_Check_22 : X_ref26_Check_22 → SX
  | .inl _ => .ret
  | .inr _ => (.exit 6)
abbrev SgL_ref26_Check_22 (α : Type) := S_ref26_Check_22 → (X_ref26_Check_22_0 → R α) → (X_ref26_Check_22_1 → R α) → R α
def dL_ref26_Check_22 {α : Type} (kn : S_ref26_Check_22 → R α) (k0 : X_ref26_Check_22_0 → R α) (k1 : X_ref26_Check_22_1 → R α) : KC α := fun x env σ => match x with
  | .norm => decT env 1 fun u1 => decP 0 u1 <| decT env 4 fun u2 => decI .i64 u2 fun v0 => decT env 8 fun u3 => decI .i64 u3 fun v1 => decO σ 0 fun u4 => (match u4 with | .agg [u5, u6, u7] => decV_st_sl_int_i64_str_int_u64_str u5 fun v2 => decI .i64 u6 fun v3 => decV_int_i64 u7 fun v4 => kn ⟨v0, v1, v2, v3, v4⟩ | _ => none)
  | .ret => decT env 2 fun u1 => decI .i64 u1 fun v0 => decT env 3 fun u2 => decI .i64 u2 fun v1 => decO σ 0 fun u3 => (match u3 with | .agg [u4, u5, u6] => decV_st_sl_int_i64_str_int_u64_str u4 fun v2 => decI .i64 u5 fun v3 => decV_int_i64 u6 fun v4 => k0 ⟨v0, v1, v2, v3, v4⟩ | _ => none)
  | .exit i => bif Nat.beq i 6 then (decO σ 0 fun u1 => (match u1 with | .agg [u2, u3, u4] => decV_st_sl_int_i64_str_int_u64_str u2 fun v0 => decI .i64 u3 fun v1 => decV_int_i64 u4 fun v2 => k1 ⟨v0, v1, v2⟩ | _ => none)) else none
theorem dL_ref26_Check_22_spec {α : Type} {kn : S_ref26_Check_22 → R α} {k0 : X_ref26_Check_22_0 → R α} {k1 : X_ref26_Check_22_1 → R α} {x : SX} {env : Env} {σ : Heap} {r : α} (h : dL_ref26_Check_22 kn k0 k1 x env σ = some r) : (x = .norm ∧ ∃ s, (∀ t v, getE (E_ref26_Check_22 s) t = some v → Ids (· < 1) v ∧ getE env t = some v) ∧ (∀ y ∈ enumO 0 (OS_ref26_Check_22 s), σ.get y.1 = some y.2) ∧ kn s = some r) ∨ (x = .ret ∧ ∃ s, (∀ t v, getE (EX_ref26_Check_22_0 s) t = some v → Ids (· < 1) v ∧ getE env t = some v) ∧ (∀ y ∈ enumO 0 (OX_ref26_Check_22_0 s), σ.get y.1 = some y.2) ∧ k0 s = some r) ∨ (x = (.exit 6) ∧ ∃ s, (∀ t v, getE (EX_ref26_Check_22_1 s) t = some v → Ids (· < 1) v ∧ getE env t = some v) ∧ (∀ y ∈ enumO 0 (OX_ref26_Check_22_1 s), σ.get y.1 = some y.2) ∧ k1 s = some r) := by
  unfold dL_ref26_Check_22 at h
  split at h
  · skip
    obtain ⟨w1, w2, w3⟩ := decT_spec h
    obtain ⟨rfl, w4⟩ := decP_spec w3
    obtain ⟨w5, w6, w7⟩ := decT_spec w4
    obtain ⟨v0, rfl, w8⟩ := decI_spec w7
    obtain ⟨w9, w10, w11⟩ := decT_spec w8
    obtain ⟨v1, rfl, w12⟩ := decI_spec w11
    obtain ⟨w13, w14, w15⟩ := decO_spec w12
    split at w15 <;> try (cases w15; done)
    obtain ⟨v2, rfl, w16⟩ := decV_st_sl_int_i64_str_int_u64_str_spec w15
    obtain ⟨v3, rfl, w17⟩ := decI_spec w16
    obtain ⟨v4, rfl, w18⟩ := decV_int_i64_spec w17
    exact .inl (⟨rfl, ⟨v0, v1, v2, v3, v4⟩, env_all ⟨⟨by simp [Ids, Idss], w2⟩, ⟨by simp [Ids, Idss], w6⟩, ⟨by simp [Ids, Idss], w10⟩, trivial⟩, enum_all ⟨w14, trivial⟩, w18⟩)
  · skip
    obtain ⟨w1, w2, w3⟩ := decT_spec h
    obtain ⟨v0, rfl, w4⟩ := decI_spec w3
    obtain ⟨w5, w6, w7⟩ := decT_spec w4
    obtain ⟨v1, rfl, w8⟩ := decI_spec w7
    obtain ⟨w9, w10, w11⟩ := decO_spec w8
    split at w11 <;> try (cases w11; done)
    obtain ⟨v2, rfl, w12⟩ := decV_st_sl_int_i64_str_int_u64_str_spec w11
    obtain ⟨v3, rfl, w13⟩ := decI_spec w12
    obtain ⟨v4, rfl, w14⟩ := decV_int_i64_spec w13
    exact .inr (.inl (⟨rfl, ⟨v0, v1, v2, v3, v4⟩, env_all ⟨⟨by simp [Ids, Idss], w2⟩, ⟨by simp [Ids, Idss], w6⟩, trivial⟩, enum_all ⟨w10, trivial⟩, w14⟩))
  · rename_i i
    cases hi1 : Nat.beq i 6 <;> rw [hi1] at h <;> simp only [cond_true, cond_false] at h
    case true =>
      have e1 := Nat.eq_of_beq_eq_true hi1
      subst e1
      obtain ⟨w1, w2, w3⟩ := decO_spec h
      split at w3 <;> try (cases w3; done)
      obtain ⟨v0, rfl, w4⟩ := decV_st_sl_int_i64_str_int_u64_str_spec w3
      obtain ⟨v1, rfl, w5⟩ := decI_spec w4
      obtain ⟨v2, rfl, w6⟩ := decV_int_i64_spec w5
      exact .inr (.inr ((⟨rfl, ⟨v0, v1, v2⟩, (fun t v ht => by simp [EX_ref26_Check_22_1, getE] at ht), enum_all ⟨w2, trivial⟩, w6⟩)))
    cases h
def b_ref26_Check_22 {α : Type} (F_ref26_Window : Sg_ref26_Window α) (s : S_ref26_Check_22) (kn : S_ref26_Check_22 → R α) (k0 : X_ref26_Check_22_0 → R α) (k1 : X_ref26_Check_22_1 → R α) : R α :=
  let b1 : Bool := (ltB s.v1 s.v0)
  cond b1 (
  cond (decide (0 ≤ s.v1) && decide (s.v1 < ((s.v2.2.2.1 : Nat) : Int))) (
  F_ref26_Window (GGuest.mk (s.v2.2.2.2.2 (Int.toNat s.v1)).1 (s.v2.2.2.2.2 (Int.toNat s.v1)).2.1 (s.v2.2.2.2.2 (Int.toNat s.v1)).2.2.1 (s.v2.2.2.2.2 (Int.toNat s.v1)).2.2.2.1) (fun r2 =>
  let t3 : Int := ((ByteArray.size (s.v2.2.2.2.2 (Int.toNat s.v1)).2.1 : Nat) : Int)
  let b4 : Bool := (ltB r2 t3)
  cond b4 (
  k0 ⟨s.v1, 242, s.v2, s.v3, s.v4⟩) (
  let t5 : Int := (Int.tmod (s.v2.2.2.2.2 (Int.toNat s.v1)).2.2.1 4)
  let b6 : Bool := (t5 != 0)
  cond b6 (
  k0 ⟨s.v1, 242, s.v2, s.v3, s.v4⟩) (
  let t7 : Int := (IntKind.u64.wrap r2)
  let b8 : Bool := (leB t7 (s.v2.2.2.2.2 (Int.toNat s.v1)).2.2.1)
  cond b8 (
  k0 ⟨s.v1, 242, s.v2, s.v3, s.v4⟩) (
  let t9 : Int := ((ByteArray.size (s.v2.2.2.2.2 (Int.toNat s.v1)).2.2.2.1 : Nat) : Int)
  let b10 : Bool := (ltB 64 t9)
  cond b10 (
  k0 ⟨s.v1, 242, s.v2, s.v3, s.v4⟩) (
  let t11 : Int := (IntKind.i64.wrap (s.v1 + 1))
  kn ⟨s.v0, t11, s.v2, s.v3, s.v4⟩)))))) none) (
  k1 ⟨s.v2, s.v3, s.v4⟩)
def Lf_ref26_Check_22 {α : Type} (L : SgL_ref26_Check_22 α) : LF α := fun env σ k => bif allB (fun b => Nat.blt b σ.next) [0] then (decT env 1 fun u1 => decP 0 u1 <| decT env 4 fun u2 => decI .i64 u2 fun v0 => decT env 8 fun u3 => decI .i64 u3 fun v1 => decO σ 0 fun u4 => (match u4 with | .agg [u5, u6, u7] => decV_st_sl_int_i64_str_int_u64_str u5 fun v2 => decI .i64 u6 fun v3 => decV_int_i64 u7 fun v4 => L ⟨v0, v1, v2, v3, v4⟩ (fun x => k .ret [(2, .int .i64 x.v0), (3, .int .i64 x.v1)] ⟨σ.next, [(0, .cells none (.agg [(.vslc (.st [(.sl (.int .i64)), .str, (.int .u64), .str]) x.v2.1 x.v2.2.1 x.v2.2.2.1 x.v2.2.2.2.1 x.v2.2.2.2.2), (.int .i64 x.v3), (.vslc (.int .i64) x.v4.1 x.v4.2.1 x.v4.2.2.1 x.v4.2.2.2.1 x.v4.2.2.2.2)]))] ++ σ.blocks⟩) (fun x => k (.exit 6) [] ⟨σ.next, [(0, .cells none (.agg [(.vslc (.st [(.sl (.int .i64)), .str, (.int .u64), .str]) x.v0.1 x.v0.2.1 x.v0.2.2.1 x.v0.2.2.2.1 x.v0.2.2.2.2), (.int .i64 x.v1), (.vslc (.int .i64) x.v2.1 x.v2.2.1 x.v2.2.2.1 x.v2.2.2.2.1 x.v2.2.2.2.2)]))] ++ σ.blocks⟩) | _ => none)) else none
abbrev Sg_ref26_Check (α : Type) := GConfig → (Int → Int → R α) → R α
def ad_ref26_Check {α : Type} (F : Sg_ref26_Check α) : FP α := fun args k => match args with
  | [a0] => GConfig.dec a0 fun x0 => F x0 (fun r0 r1 => k (.tuple [(.int .i64 r0), (.int .i64 r1)]))
  | _ => none
def dR_ref26_Check {α : Type} (v : SV) (k : Int → Int → R α) : R α := match v with
  | .tuple [a0, a1] => decI .i64 a0 fun x0 => decI .i64 a1 fun x1 => k x0 x1
  | _ => none
theorem dR_ref26_Check_spec {α : Type} {v : SV} {k : Int → Int → R α} {r : α} (h : dR_ref26_Check v k = some r) : ∃ x0 x1, v = (.tuple [(.int .i64 x0), (.int .i64 x1)]) ∧ k x0 x1 = some r := by
  unfold dR_ref26_Check at h
  split at h <;> try (cases h; done)
  obtain ⟨x0, rfl, h0⟩ := decI_spec h
  obtain ⟨x1, rfl, h1⟩ := decI_spec h0
  exact ⟨x0, x1, rfl, h1⟩
def p_ref26_Check {α : Type} (L_ref26_Check_5 : SgL_ref26_Check_5 α) (L_ref26_Check_12 : SgL_ref26_Check_12 α) (L_ref26_Check_17 : SgL_ref26_Check_17 α) (L_ref26_Check_22 : SgL_ref26_Check_22 α) (x0 : GConfig) (k : Int → Int → R α) : R α :=
  let b1 : Bool := (ltB ((x0.Guests.2.2.1 : Nat) : Int) 1)
  cond b1 (
  k 0 240) (
  let b2 : Bool := (ltB 4 ((x0.Guests.2.2.1 : Nat) : Int))
  cond b2 (
  k 0 240) (
  let t3 : Int := (IntKind.i64.wrap (2 * ((x0.Guests.2.2.1 : Nat) : Int)))
  let b4 : Bool := (((x0.Tables.2.2.1 : Nat) : Int) != t3)
  cond b4 (
  k 0 240) (
  L_ref26_Check_5 ⟨((x0.Guests.2.2.1 : Nat) : Int), 0, x0.Guests, x0.Quantum, x0.Tables⟩ (fun x5 =>
  k x5.v0 x5.v1) (fun x6 =>
  let b7 : Bool := (ltB x6.v2 1)
  cond b7 (
  k 0 243) (
  let b8 : Bool := (ltB 1000 x6.v2)
  cond b8 (
  k 0 243) (
  L_ref26_Check_12 ⟨x6.v0, 0, x6.v1, x6.v2, x6.v3⟩ (fun x9 =>
  k x9.v0 x9.v1) (fun x10 =>
  L_ref26_Check_17 ⟨x10.v0, 0, x10.v1, x10.v2, x10.v3⟩ (fun x11 =>
  k x11.v0 x11.v1) (fun x12 =>
  L_ref26_Check_22 ⟨x12.v0, 0, x12.v1, x12.v2, x12.v3⟩ (fun x13 =>
  k x13.v0 x13.v1) (fun x14 =>
  k 0 0)))))))))
theorem le_ref26_Check {α : Type} {F F' : Sg_ref26_Check α} (h : ∀ x0 k r, F' x0 k = some r → F x0 k = some r) {args : List SV} {k : SV → R α} {r : α} (hk : ad_ref26_Check F' args k = some r) : ad_ref26_Check F args k = some r := by
  unfold ad_ref26_Check at hk
  split at hk <;> try (cases hk; done)
  obtain ⟨x0, rfl, hk0⟩ := GConfig.dec_spec hk
  have hkz := hk0
  exact h x0 _ _ hkz
structure S_slices_IndexFuncGuests_2 where
  v0 : (Bool × Addr × Nat × Nat × (Nat → ((Bool × Addr × Nat × Nat × (Nat → Int)) × ByteArray × Int × ByteArray × Unit)))
  v1 : Int
  v2 : Int
  v3 : Int
def E_slices_IndexFuncGuests_2 (s : S_slices_IndexFuncGuests_2) : Env := [(0, .vslc (.st [(.sl (.int .i64)), .str, (.int .u64), .str]) s.v0.1 s.v0.2.1 s.v0.2.2.1 s.v0.2.2.2.1 s.v0.2.2.2.2), (1, .fn (.func 22) [] [.ptr 0 []]), (7, .int .i64 s.v1), (8, .int .i64 s.v2)]
def OS_slices_IndexFuncGuests_2 (s : S_slices_IndexFuncGuests_2) : List SObj := [.cells none (.int .i64 s.v3)]
structure X_slices_IndexFuncGuests_2_0 where
  v0 : Int
  v1 : Int
def EX_slices_IndexFuncGuests_2_0 (s : X_slices_IndexFuncGuests_2_0) : Env := [(4, .int .i64 s.v0)]
def OX_slices_IndexFuncGuests_2_0 (s : X_slices_IndexFuncGuests_2_0) : List SObj := [.cells none (.int .i64 s.v1)]
structure X_slices_IndexFuncGuests_2_1 where
  v0 : Int
def EX_slices_IndexFuncGuests_2_1 (s : X_slices_IndexFuncGuests_2_1) : Env := []
def OX_slices_IndexFuncGuests_2_1 (s : X_slices_IndexFuncGuests_2_1) : List SObj := [.cells none (.int .i64 s.v0)]
abbrev X_slices_IndexFuncGuests_2 := X_slices_IndexFuncGuests_2_0 ⊕ X_slices_IndexFuncGuests_2_1
def EX_slices_IndexFuncGuests_2 : X_slices_IndexFuncGuests_2 → Env
  | .inl x => EX_slices_IndexFuncGuests_2_0 x
  | .inr x => EX_slices_IndexFuncGuests_2_1 x
def OX_slices_IndexFuncGuests_2 : X_slices_IndexFuncGuests_2 → List SObj
  | .inl x => OX_slices_IndexFuncGuests_2_0 x
  | .inr x => OX_slices_IndexFuncGuests_2_1 x
def xx_slices_IndexFuncGuests_2 : X_slices_IndexFuncGuests_2 → SX
  | .inl _ => .ret
  | .inr _ => (.exit 0)
abbrev SgL_slices_IndexFuncGuests_2 (α : Type) := S_slices_IndexFuncGuests_2 → (X_slices_IndexFuncGuests_2_0 → R α) → (X_slices_IndexFuncGuests_2_1 → R α) → R α
def dL_slices_IndexFuncGuests_2 {α : Type} (kn : S_slices_IndexFuncGuests_2 → R α) (k0 : X_slices_IndexFuncGuests_2_0 → R α) (k1 : X_slices_IndexFuncGuests_2_1 → R α) : KC α := fun x env σ => match x with
  | .norm => decT env 0 fun u1 => decV_st_sl_int_i64_str_int_u64_str u1 fun v0 => decT env 1 fun u2 => decFn 22 0 u2 <| decT env 7 fun u3 => decI .i64 u3 fun v1 => decT env 8 fun u4 => decI .i64 u4 fun v2 => decO σ 0 fun u5 => decI .i64 u5 fun v3 => kn ⟨v0, v1, v2, v3⟩
  | .ret => decT env 4 fun u1 => decI .i64 u1 fun v0 => decO σ 0 fun u2 => decI .i64 u2 fun v1 => k0 ⟨v0, v1⟩
  | .exit i => bif Nat.beq i 0 then (decO σ 0 fun u1 => decI .i64 u1 fun v0 => k1 ⟨v0⟩) else none
theorem dL_slices_IndexFuncGuests_2_spec {α : Type} {kn : S_slices_IndexFuncGuests_2 → R α} {k0 : X_slices_IndexFuncGuests_2_0 → R α} {k1 : X_slices_IndexFuncGuests_2_1 → R α} {x : SX} {env : Env} {σ : Heap} {r : α} (h : dL_slices_IndexFuncGuests_2 kn k0 k1 x env σ = some r) : (x = .norm ∧ ∃ s, (∀ t v, getE (E_slices_IndexFuncGuests_2 s) t = some v → Ids (· < 1) v ∧ getE env t = some v) ∧ (∀ y ∈ enumO 0 (OS_slices_IndexFuncGuests_2 s), σ.get y.1 = some y.2) ∧ kn s = some r) ∨ (x = .ret ∧ ∃ s, (∀ t v, getE (EX_slices_IndexFuncGuests_2_0 s) t = some v → Ids (· < 1) v ∧ getE env t = some v) ∧ (∀ y ∈ enumO 0 (OX_slices_IndexFuncGuests_2_0 s), σ.get y.1 = some y.2) ∧ k0 s = some r) ∨ (x = (.exit 0) ∧ ∃ s, (∀ t v, getE (EX_slices_IndexFuncGuests_2_1 s) t = some v → Ids (· < 1) v ∧ getE env t = some v) ∧ (∀ y ∈ enumO 0 (OX_slices_IndexFuncGuests_2_1 s), σ.get y.1 = some y.2) ∧ k1 s = some r) := by
  unfold dL_slices_IndexFuncGuests_2 at h
  split at h
  · skip
    obtain ⟨w1, w2, w3⟩ := decT_spec h
    obtain ⟨v0, rfl, w4⟩ := decV_st_sl_int_i64_str_int_u64_str_spec w3
    obtain ⟨w5, w6, w7⟩ := decT_spec w4
    obtain ⟨rfl, w8⟩ := decFn_spec w7
    obtain ⟨w9, w10, w11⟩ := decT_spec w8
    obtain ⟨v1, rfl, w12⟩ := decI_spec w11
    obtain ⟨w13, w14, w15⟩ := decT_spec w12
    obtain ⟨v2, rfl, w16⟩ := decI_spec w15
    obtain ⟨w17, w18, w19⟩ := decO_spec w16
    obtain ⟨v3, rfl, w20⟩ := decI_spec w19
    exact .inl (⟨rfl, ⟨v0, v1, v2, v3⟩, env_all ⟨⟨by simp [Ids, Idss], w2⟩, ⟨by simp [Ids, Idss], w6⟩, ⟨by simp [Ids, Idss], w10⟩, ⟨by simp [Ids, Idss], w14⟩, trivial⟩, enum_all ⟨w18, trivial⟩, w20⟩)
  · skip
    obtain ⟨w1, w2, w3⟩ := decT_spec h
    obtain ⟨v0, rfl, w4⟩ := decI_spec w3
    obtain ⟨w5, w6, w7⟩ := decO_spec w4
    obtain ⟨v1, rfl, w8⟩ := decI_spec w7
    exact .inr (.inl (⟨rfl, ⟨v0, v1⟩, env_all ⟨⟨by simp [Ids, Idss], w2⟩, trivial⟩, enum_all ⟨w6, trivial⟩, w8⟩))
  · rename_i i
    cases hi1 : Nat.beq i 0 <;> rw [hi1] at h <;> simp only [cond_true, cond_false] at h
    case true =>
      have e1 := Nat.eq_of_beq_eq_true hi1
      subst e1
      obtain ⟨w1, w2, w3⟩ := decO_spec h
      obtain ⟨v0, rfl, w4⟩ := decI_spec w3
      exact .inr (.inr ((⟨rfl, ⟨v0⟩, (fun t v ht => by simp [EX_slices_IndexFuncGuests_2_1, getE] at ht), enum_all ⟨w2, trivial⟩, w4⟩)))
    cases h
def b_slices_IndexFuncGuests_2 {α : Type} (F_slices_ContainsInts : Sg_slices_ContainsInts α) (s : S_slices_IndexFuncGuests_2) (kn : S_slices_IndexFuncGuests_2 → R α) (k0 : X_slices_IndexFuncGuests_2_0 → R α) (k1 : X_slices_IndexFuncGuests_2_1 → R α) : R α :=
  let b1 : Bool := (ltB s.v2 s.v1)
  cond b1 (
  cond (decide (0 ≤ s.v2) && decide (s.v2 < ((s.v0.2.2.1 : Nat) : Int))) (
  F_slices_ContainsInts (s.v0.2.2.2.2 (Int.toNat s.v2)).1 s.v3 (fun r2 =>
  cond r2 (
  k0 ⟨s.v2, s.v3⟩) (
  let t3 : Int := (IntKind.i64.wrap (s.v2 + 1))
  kn ⟨s.v0, s.v1, t3, s.v3⟩))) none) (
  k1 ⟨s.v3⟩)
def Lf_slices_IndexFuncGuests_2 {α : Type} (L : SgL_slices_IndexFuncGuests_2 α) : LF α := fun env σ k => bif allB (fun b => Nat.blt b σ.next) [0] then (decT env 0 fun u1 => decV_st_sl_int_i64_str_int_u64_str u1 fun v0 => decT env 1 fun u2 => decFn 22 0 u2 <| decT env 7 fun u3 => decI .i64 u3 fun v1 => decT env 8 fun u4 => decI .i64 u4 fun v2 => decO σ 0 fun u5 => decI .i64 u5 fun v3 => L ⟨v0, v1, v2, v3⟩ (fun x => k .ret [(4, .int .i64 x.v0)] ⟨σ.next, [(0, .cells none (.int .i64 x.v1))] ++ σ.blocks⟩) (fun x => k (.exit 0) [] ⟨σ.next, [(0, .cells none (.int .i64 x.v0))] ++ σ.blocks⟩)) else none
abbrev Sg_slices_IndexFuncGuests (α : Type) := (Bool × Addr × Nat × Nat × (Nat → ((Bool × Addr × Nat × Nat × (Nat → Int)) × ByteArray × Int × ByteArray × Unit))) → Int → (Int → Int → R α) → R α
def ad_slices_IndexFuncGuests {α : Type} (F : Sg_slices_IndexFuncGuests α) : FF α := fun args σ k => match args with
  | [a0, .fn (.func 22) [] [.ptr b []]] => (match σ.get b with | some (.cells none (.int .i64 x1)) => decV_st_sl_int_i64_str_int_u64_str a0 fun x0 => F x0 x1 (fun r0 r1 => k (.int .i64 r0) ⟨σ.next, [(b, .cells none (.int .i64 r1))] ++ σ.blocks⟩) | _ => none)
  | _ => none
def dR_slices_IndexFuncGuests {α : Type} (v : SV) (σ1 : Heap) (k : Option Nat → Int → Int → R α) : R α := bif keptX 1 0 σ1 then (decI .i64 v fun r0 => nowCell σ1 0 fun g u => decI .i64 u fun r1 => k g r0 r1) else none
def p_slices_IndexFuncGuests {α : Type} (L_slices_IndexFuncGuests_2 : SgL_slices_IndexFuncGuests_2 α) (x0 : (Bool × Addr × Nat × Nat × (Nat → ((Bool × Addr × Nat × Nat × (Nat → Int)) × ByteArray × Int × ByteArray × Unit)))) (x1 : Int) (k : Int → Int → R α) : R α :=
  L_slices_IndexFuncGuests_2 ⟨x0, ((x0.2.2.1 : Nat) : Int), 0, x1⟩ (fun x1 =>
  k x1.v0 x1.v1) (fun x2 =>
  k (-1) x2.v0)
theorem le_slices_IndexFuncGuests {α : Type} {F F' : Sg_slices_IndexFuncGuests α} (h : ∀ x0 x1 k r, F' x0 x1 k = some r → F x0 x1 k = some r) {args : List SV} {σ : Heap} {k : SV → Heap → R α} {r : α} (hk : ad_slices_IndexFuncGuests F' args σ k = some r) : ad_slices_IndexFuncGuests F args σ k = some r := by
  unfold ad_slices_IndexFuncGuests at hk
  split at hk <;> try (cases hk; done)
  rename_i a0 b
  split at hk <;> try (cases hk; done)
  rename_i x1 hx
  obtain ⟨x0, rfl, hk0⟩ := decV_st_sl_int_i64_str_int_u64_str_spec hk
  unfold ad_slices_IndexFuncGuests
  simp only [hx]
  exact h _ _ _ _ hk0
abbrev Sg_config_Owner (α : Type) := GConfig → Int → (Int → R α) → R α
def ad_config_Owner {α : Type} (F : Sg_config_Owner α) : FP α := fun args k => match args with
  | [a0, a1] => GConfig.dec a0 fun x0 => decI .i64 a1 fun x1 => F x0 x1 (fun r0 => k (.int .i64 r0))
  | _ => none
def dR_config_Owner {α : Type} (a0 : SV) (k : Int → R α) : R α := decI .i64 a0 fun x0 => k x0
theorem dR_config_Owner_spec {α : Type} {v : SV} {k : Int → R α} {r : α} (h : dR_config_Owner v k = some r) : ∃ x0, v = (.int .i64 x0) ∧ k x0 = some r := by
  unfold dR_config_Owner at h
  obtain ⟨x0, rfl, h0⟩ := decI_spec h
  exact ⟨x0, rfl, h0⟩
def p_config_Owner {α : Type} (F_slices_IndexFuncGuests : Sg_slices_IndexFuncGuests α) (x0 : GConfig) (x1 : Int) (k : Int → R α) : R α :=
  F_slices_IndexFuncGuests x0.Guests x1 (fun r1 c2 =>
  k r1)
theorem le_config_Owner {α : Type} {F F' : Sg_config_Owner α} (h : ∀ x0 x1 k r, F' x0 x1 k = some r → F x0 x1 k = some r) {args : List SV} {k : SV → R α} {r : α} (hk : ad_config_Owner F' args k = some r) : ad_config_Owner F args k = some r := by
  unfold ad_config_Owner at hk
  split at hk <;> try (cases hk; done)
  obtain ⟨x0, rfl, hk0⟩ := GConfig.dec_spec hk
  obtain ⟨x1, rfl, hk1⟩ := decI_spec hk0
  have hkz := hk1
  exact h x0 x1 _ _ hkz
structure S_law24_ConfigTells_12 where
  v0 : Int
  v1 : Int
  v2 : Int
  v3 : Int
  v4 : Int
  v5 : Int
  v6 : Int
  v7 : Int
  v8 : (Bool × Addr × Nat × Nat × (Nat → ((Bool × Addr × Nat × Nat × (Nat → Int)) × ByteArray × Int × ByteArray × Unit)))
  v9 : Int
  v10 : (Bool × Addr × Nat × Nat × (Nat → Int))
def E_law24_ConfigTells_12 (s : S_law24_ConfigTells_12) : Env := [(1, .int .i64 s.v0), (2, .ptr 0 []), (5, .int .i64 s.v1), (6, .int .i64 s.v2), (7, .int .i64 s.v3), (8, .int .i64 s.v4), (9, .int .i64 s.v5), (10, .int .i64 s.v6), (11, .int .i64 s.v7)]
def OS_law24_ConfigTells_12 (s : S_law24_ConfigTells_12) : List SObj := [.cells none (.agg [(.vslc (.st [(.sl (.int .i64)), .str, (.int .u64), .str]) s.v8.1 s.v8.2.1 s.v8.2.2.1 s.v8.2.2.2.1 s.v8.2.2.2.2), (.int .i64 s.v9), (.vslc (.int .i64) s.v10.1 s.v10.2.1 s.v10.2.2.1 s.v10.2.2.2.1 s.v10.2.2.2.2)])]
structure X_law24_ConfigTells_12_0 where
  v0 : Int
  v1 : Int
  v2 : Int
  v3 : Int
  v4 : Int
  v5 : Int
  v6 : Int
  v7 : (Bool × Addr × Nat × Nat × (Nat → ((Bool × Addr × Nat × Nat × (Nat → Int)) × ByteArray × Int × ByteArray × Unit)))
  v8 : Int
  v9 : (Bool × Addr × Nat × Nat × (Nat → Int))
def EX_law24_ConfigTells_12_0 (s : X_law24_ConfigTells_12_0) : Env := [(1, .int .i64 s.v0), (2, .ptr 0 []), (5, .int .i64 s.v1), (6, .int .i64 s.v2), (7, .int .i64 s.v3), (8, .int .i64 s.v4), (9, .int .i64 s.v5), (10, .int .i64 s.v6)]
def OX_law24_ConfigTells_12_0 (s : X_law24_ConfigTells_12_0) : List SObj := [.cells none (.agg [(.vslc (.st [(.sl (.int .i64)), .str, (.int .u64), .str]) s.v7.1 s.v7.2.1 s.v7.2.2.1 s.v7.2.2.2.1 s.v7.2.2.2.2), (.int .i64 s.v8), (.vslc (.int .i64) s.v9.1 s.v9.2.1 s.v9.2.2.1 s.v9.2.2.2.1 s.v9.2.2.2.2)])]
abbrev X_law24_ConfigTells_12 := X_law24_ConfigTells_12_0
def EX_law24_ConfigTells_12 (x : X_law24_ConfigTells_12) : Env := EX_law24_ConfigTells_12_0 x
def OX_law24_ConfigTells_12 (x : X_law24_ConfigTells_12) : List SObj := OX_law24_ConfigTells_12_0 x
def xx_law24_ConfigTells_12 (_ : X_law24_ConfigTells_12) : SX := (.exit 2)
abbrev SgL_law24_ConfigTells_12 (α : Type) := S_law24_ConfigTells_12 → (X_law24_ConfigTells_12_0 → R α) → R α
def dL_law24_ConfigTells_12 {α : Type} (kn : S_law24_ConfigTells_12 → R α) (k0 : X_law24_ConfigTells_12_0 → R α) : KC α := fun x env σ => match x with
  | .norm => decT env 1 fun u1 => decI .i64 u1 fun v0 => decT env 2 fun u2 => decP 0 u2 <| decT env 5 fun u3 => decI .i64 u3 fun v1 => decT env 6 fun u4 => decI .i64 u4 fun v2 => decT env 7 fun u5 => decI .i64 u5 fun v3 => decT env 8 fun u6 => decI .i64 u6 fun v4 => decT env 9 fun u7 => decI .i64 u7 fun v5 => decT env 10 fun u8 => decI .i64 u8 fun v6 => decT env 11 fun u9 => decI .i64 u9 fun v7 => decO σ 0 fun u10 => (match u10 with | .agg [u11, u12, u13] => decV_st_sl_int_i64_str_int_u64_str u11 fun v8 => decI .i64 u12 fun v9 => decV_int_i64 u13 fun v10 => kn ⟨v0, v1, v2, v3, v4, v5, v6, v7, v8, v9, v10⟩ | _ => none)
  | .ret => none
  | .exit i => bif Nat.beq i 2 then (decT env 1 fun u1 => decI .i64 u1 fun v0 => decT env 2 fun u2 => decP 0 u2 <| decT env 5 fun u3 => decI .i64 u3 fun v1 => decT env 6 fun u4 => decI .i64 u4 fun v2 => decT env 7 fun u5 => decI .i64 u5 fun v3 => decT env 8 fun u6 => decI .i64 u6 fun v4 => decT env 9 fun u7 => decI .i64 u7 fun v5 => decT env 10 fun u8 => decI .i64 u8 fun v6 => decO σ 0 fun u9 => (match u9 with | .agg [u10, u11, u12] => decV_st_sl_int_i64_str_int_u64_str u10 fun v7 => decI .i64 u11 fun v8 => decV_int_i64 u12 fun v9 => k0 ⟨v0, v1, v2, v3, v4, v5, v6, v7, v8, v9⟩ | _ => none)) else none
theorem dL_law24_ConfigTells_12_spec {α : Type} {kn : S_law24_ConfigTells_12 → R α} {k0 : X_law24_ConfigTells_12_0 → R α} {x : SX} {env : Env} {σ : Heap} {r : α} (h : dL_law24_ConfigTells_12 kn k0 x env σ = some r) : (x = .norm ∧ ∃ s, (∀ t v, getE (E_law24_ConfigTells_12 s) t = some v → Ids (· < 1) v ∧ getE env t = some v) ∧ (∀ y ∈ enumO 0 (OS_law24_ConfigTells_12 s), σ.get y.1 = some y.2) ∧ kn s = some r) ∨ (x = (.exit 2) ∧ ∃ s, (∀ t v, getE (EX_law24_ConfigTells_12_0 s) t = some v → Ids (· < 1) v ∧ getE env t = some v) ∧ (∀ y ∈ enumO 0 (OX_law24_ConfigTells_12_0 s), σ.get y.1 = some y.2) ∧ k0 s = some r) := by
  unfold dL_law24_ConfigTells_12 at h
  split at h
  · skip
    obtain ⟨w1, w2, w3⟩ := decT_spec h
    obtain ⟨v0, rfl, w4⟩ := decI_spec w3
    obtain ⟨w5, w6, w7⟩ := decT_spec w4
    obtain ⟨rfl, w8⟩ := decP_spec w7
    obtain ⟨w9, w10, w11⟩ := decT_spec w8
    obtain ⟨v1, rfl, w12⟩ := decI_spec w11
    obtain ⟨w13, w14, w15⟩ := decT_spec w12
    obtain ⟨v2, rfl, w16⟩ := decI_spec w15
    obtain ⟨w17, w18, w19⟩ := decT_spec w16
    obtain ⟨v3, rfl, w20⟩ := decI_spec w19
    obtain ⟨w21, w22, w23⟩ := decT_spec w20
    obtain ⟨v4, rfl, w24⟩ := decI_spec w23
    obtain ⟨w25, w26, w27⟩ := decT_spec w24
    obtain ⟨v5, rfl, w28⟩ := decI_spec w27
    obtain ⟨w29, w30, w31⟩ := decT_spec w28
    obtain ⟨v6, rfl, w32⟩ := decI_spec w31
    obtain ⟨w33, w34, w35⟩ := decT_spec w32
    obtain ⟨v7, rfl, w36⟩ := decI_spec w35
    obtain ⟨w37, w38, w39⟩ := decO_spec w36
    split at w39 <;> try (cases w39; done)
    obtain ⟨v8, rfl, w40⟩ := decV_st_sl_int_i64_str_int_u64_str_spec w39
    obtain ⟨v9, rfl, w41⟩ := decI_spec w40
    obtain ⟨v10, rfl, w42⟩ := decV_int_i64_spec w41
    exact .inl (⟨rfl, ⟨v0, v1, v2, v3, v4, v5, v6, v7, v8, v9, v10⟩, env_all ⟨⟨by simp [Ids, Idss], w2⟩, ⟨by simp [Ids, Idss], w6⟩, ⟨by simp [Ids, Idss], w10⟩, ⟨by simp [Ids, Idss], w14⟩, ⟨by simp [Ids, Idss], w18⟩, ⟨by simp [Ids, Idss], w22⟩, ⟨by simp [Ids, Idss], w26⟩, ⟨by simp [Ids, Idss], w30⟩, ⟨by simp [Ids, Idss], w34⟩, trivial⟩, enum_all ⟨w38, trivial⟩, w42⟩)
  · cases h
  · rename_i i
    cases hi0 : Nat.beq i 2 <;> rw [hi0] at h <;> simp only [cond_true, cond_false] at h
    case true =>
      have e0 := Nat.eq_of_beq_eq_true hi0
      subst e0
      obtain ⟨w1, w2, w3⟩ := decT_spec h
      obtain ⟨v0, rfl, w4⟩ := decI_spec w3
      obtain ⟨w5, w6, w7⟩ := decT_spec w4
      obtain ⟨rfl, w8⟩ := decP_spec w7
      obtain ⟨w9, w10, w11⟩ := decT_spec w8
      obtain ⟨v1, rfl, w12⟩ := decI_spec w11
      obtain ⟨w13, w14, w15⟩ := decT_spec w12
      obtain ⟨v2, rfl, w16⟩ := decI_spec w15
      obtain ⟨w17, w18, w19⟩ := decT_spec w16
      obtain ⟨v3, rfl, w20⟩ := decI_spec w19
      obtain ⟨w21, w22, w23⟩ := decT_spec w20
      obtain ⟨v4, rfl, w24⟩ := decI_spec w23
      obtain ⟨w25, w26, w27⟩ := decT_spec w24
      obtain ⟨v5, rfl, w28⟩ := decI_spec w27
      obtain ⟨w29, w30, w31⟩ := decT_spec w28
      obtain ⟨v6, rfl, w32⟩ := decI_spec w31
      obtain ⟨w33, w34, w35⟩ := decO_spec w32
      split at w35 <;> try (cases w35; done)
      obtain ⟨v7, rfl, w36⟩ := decV_st_sl_int_i64_str_int_u64_str_spec w35
      obtain ⟨v8, rfl, w37⟩ := decI_spec w36
      obtain ⟨v9, rfl, w38⟩ := decV_int_i64_spec w37
      exact .inr ((⟨rfl, ⟨v0, v1, v2, v3, v4, v5, v6, v7, v8, v9⟩, env_all ⟨⟨by simp [Ids, Idss], w2⟩, ⟨by simp [Ids, Idss], w6⟩, ⟨by simp [Ids, Idss], w10⟩, ⟨by simp [Ids, Idss], w14⟩, ⟨by simp [Ids, Idss], w18⟩, ⟨by simp [Ids, Idss], w22⟩, ⟨by simp [Ids, Idss], w26⟩, ⟨by simp [Ids, Idss], w30⟩, trivial⟩, enum_all ⟨w34, trivial⟩, w38⟩))
    cases h
def b_law24_ConfigTells_12 {α : Type}  (s : S_law24_ConfigTells_12) (kn : S_law24_ConfigTells_12 → R α) (k0 : X_law24_ConfigTells_12_0 → R α) : R α :=
  cond (decide (0 ≤ s.v6) && decide (s.v6 < ((s.v8.2.2.1 : Nat) : Int))) (
  let b1 : Bool := (ltB s.v7 (((s.v8.2.2.2.2 (Int.toNat s.v6)).1.2.2.1 : Nat) : Int))
  cond b1 (
  cond (decide (0 ≤ s.v6) && decide (s.v6 < ((s.v8.2.2.1 : Nat) : Int))) (
  cond (decide (0 ≤ s.v7) && decide (s.v7 < (((s.v8.2.2.2.2 (Int.toNat s.v6)).1.2.2.1 : Nat) : Int))) (
  let b2 : Bool := (((s.v8.2.2.2.2 (Int.toNat s.v6)).1.2.2.2.2 (Int.toNat s.v7)) == s.v0)
  cond b2 (
  let t3 : Int := (IntKind.i64.wrap (s.v7 + 1))
  kn ⟨s.v0, s.v1, s.v2, s.v3, s.v4, s.v6, s.v6, t3, s.v8, s.v9, s.v10⟩) (
  let t4 : Int := (IntKind.i64.wrap (s.v7 + 1))
  kn ⟨s.v0, s.v1, s.v2, s.v3, s.v4, s.v5, s.v6, t4, s.v8, s.v9, s.v10⟩)) none) none) (
  k0 ⟨s.v0, s.v1, s.v2, s.v3, s.v4, s.v5, s.v6, s.v8, s.v9, s.v10⟩)) none
def Lf_law24_ConfigTells_12 {α : Type} (L : SgL_law24_ConfigTells_12 α) : LF α := fun env σ k => bif allB (fun b => Nat.blt b σ.next) [0] then (decT env 1 fun u1 => decI .i64 u1 fun v0 => decT env 2 fun u2 => decP 0 u2 <| decT env 5 fun u3 => decI .i64 u3 fun v1 => decT env 6 fun u4 => decI .i64 u4 fun v2 => decT env 7 fun u5 => decI .i64 u5 fun v3 => decT env 8 fun u6 => decI .i64 u6 fun v4 => decT env 9 fun u7 => decI .i64 u7 fun v5 => decT env 10 fun u8 => decI .i64 u8 fun v6 => decT env 11 fun u9 => decI .i64 u9 fun v7 => decO σ 0 fun u10 => (match u10 with | .agg [u11, u12, u13] => decV_st_sl_int_i64_str_int_u64_str u11 fun v8 => decI .i64 u12 fun v9 => decV_int_i64 u13 fun v10 => L ⟨v0, v1, v2, v3, v4, v5, v6, v7, v8, v9, v10⟩ (fun x => k (.exit 2) [(1, .int .i64 x.v0), (2, .ptr 0 []), (5, .int .i64 x.v1), (6, .int .i64 x.v2), (7, .int .i64 x.v3), (8, .int .i64 x.v4), (9, .int .i64 x.v5), (10, .int .i64 x.v6)] ⟨σ.next, [(0, .cells none (.agg [(.vslc (.st [(.sl (.int .i64)), .str, (.int .u64), .str]) x.v7.1 x.v7.2.1 x.v7.2.2.1 x.v7.2.2.2.1 x.v7.2.2.2.2), (.int .i64 x.v8), (.vslc (.int .i64) x.v9.1 x.v9.2.1 x.v9.2.2.1 x.v9.2.2.2.1 x.v9.2.2.2.2)]))] ++ σ.blocks⟩) | _ => none)) else none
structure S_law24_ConfigTells_9 where
  v0 : Int
  v1 : Int
  v2 : Int
  v3 : Int
  v4 : Int
  v5 : Int
  v6 : Int
  v7 : (Bool × Addr × Nat × Nat × (Nat → ((Bool × Addr × Nat × Nat × (Nat → Int)) × ByteArray × Int × ByteArray × Unit)))
  v8 : Int
  v9 : (Bool × Addr × Nat × Nat × (Nat → Int))
def E_law24_ConfigTells_9 (s : S_law24_ConfigTells_9) : Env := [(1, .int .i64 s.v0), (2, .ptr 0 []), (5, .int .i64 s.v1), (6, .int .i64 s.v2), (7, .int .i64 s.v3), (8, .int .i64 s.v4), (9, .int .i64 s.v5), (10, .int .i64 s.v6)]
def OS_law24_ConfigTells_9 (s : S_law24_ConfigTells_9) : List SObj := [.cells none (.agg [(.vslc (.st [(.sl (.int .i64)), .str, (.int .u64), .str]) s.v7.1 s.v7.2.1 s.v7.2.2.1 s.v7.2.2.2.1 s.v7.2.2.2.2), (.int .i64 s.v8), (.vslc (.int .i64) s.v9.1 s.v9.2.1 s.v9.2.2.1 s.v9.2.2.2.1 s.v9.2.2.2.2)])]
structure X_law24_ConfigTells_9_0 where
  v0 : Bool
  v1 : (Bool × Addr × Nat × Nat × (Nat → ((Bool × Addr × Nat × Nat × (Nat → Int)) × ByteArray × Int × ByteArray × Unit)))
  v2 : Int
  v3 : (Bool × Addr × Nat × Nat × (Nat → Int))
def EX_law24_ConfigTells_9_0 (s : X_law24_ConfigTells_9_0) : Env := [(4, .bool s.v0)]
def OX_law24_ConfigTells_9_0 (s : X_law24_ConfigTells_9_0) : List SObj := [.cells none (.agg [(.vslc (.st [(.sl (.int .i64)), .str, (.int .u64), .str]) s.v1.1 s.v1.2.1 s.v1.2.2.1 s.v1.2.2.2.1 s.v1.2.2.2.2), (.int .i64 s.v2), (.vslc (.int .i64) s.v3.1 s.v3.2.1 s.v3.2.2.1 s.v3.2.2.2.1 s.v3.2.2.2.2)])]
structure X_law24_ConfigTells_9_1 where
  v0 : Int
  v1 : Int
  v2 : Int
  v3 : Int
  v4 : Int
  v5 : Int
  v6 : (Bool × Addr × Nat × Nat × (Nat → ((Bool × Addr × Nat × Nat × (Nat → Int)) × ByteArray × Int × ByteArray × Unit)))
  v7 : Int
  v8 : (Bool × Addr × Nat × Nat × (Nat → Int))
def EX_law24_ConfigTells_9_1 (s : X_law24_ConfigTells_9_1) : Env := [(1, .int .i64 s.v0), (2, .ptr 0 []), (5, .int .i64 s.v1), (6, .int .i64 s.v2), (7, .int .i64 s.v3), (8, .int .i64 s.v4), (9, .int .i64 s.v5)]
def OX_law24_ConfigTells_9_1 (s : X_law24_ConfigTells_9_1) : List SObj := [.cells none (.agg [(.vslc (.st [(.sl (.int .i64)), .str, (.int .u64), .str]) s.v6.1 s.v6.2.1 s.v6.2.2.1 s.v6.2.2.2.1 s.v6.2.2.2.2), (.int .i64 s.v7), (.vslc (.int .i64) s.v8.1 s.v8.2.1 s.v8.2.2.1 s.v8.2.2.2.1 s.v8.2.2.2.2)])]
abbrev X_law24_ConfigTells_9 := X_law24_ConfigTells_9_0 ⊕ X_law24_ConfigTells_9_1
def EX_law24_ConfigTells_9 : X_law24_ConfigTells_9 → Env
  | .inl x => EX_law24_ConfigTells_9_0 x
  | .inr x => EX_law24_ConfigTells_9_1 x
def OX_law24_ConfigTells_9 : X_law24_ConfigTells_9 → List SObj
  | .inl x => OX_law24_ConfigTells_9_0 x
  | .inr x => OX_law24_ConfigTells_9_1 x
def xx_law24_ConfigTells_9 : X_law24_ConfigTells_9 → SX
  | .inl _ => .ret
  | .inr _ => (.exit 0)
abbrev SgL_law24_ConfigTells_9 (α : Type) := S_law24_ConfigTells_9 → (X_law24_ConfigTells_9_0 → R α) → (X_law24_ConfigTells_9_1 → R α) → R α
def dL_law24_ConfigTells_9 {α : Type} (kn : S_law24_ConfigTells_9 → R α) (k0 : X_law24_ConfigTells_9_0 → R α) (k1 : X_law24_ConfigTells_9_1 → R α) : KC α := fun x env σ => match x with
  | .norm => decT env 1 fun u1 => decI .i64 u1 fun v0 => decT env 2 fun u2 => decP 0 u2 <| decT env 5 fun u3 => decI .i64 u3 fun v1 => decT env 6 fun u4 => decI .i64 u4 fun v2 => decT env 7 fun u5 => decI .i64 u5 fun v3 => decT env 8 fun u6 => decI .i64 u6 fun v4 => decT env 9 fun u7 => decI .i64 u7 fun v5 => decT env 10 fun u8 => decI .i64 u8 fun v6 => decO σ 0 fun u9 => (match u9 with | .agg [u10, u11, u12] => decV_st_sl_int_i64_str_int_u64_str u10 fun v7 => decI .i64 u11 fun v8 => decV_int_i64 u12 fun v9 => kn ⟨v0, v1, v2, v3, v4, v5, v6, v7, v8, v9⟩ | _ => none)
  | .ret => decT env 4 fun u1 => decB u1 fun v0 => decO σ 0 fun u2 => (match u2 with | .agg [u3, u4, u5] => decV_st_sl_int_i64_str_int_u64_str u3 fun v1 => decI .i64 u4 fun v2 => decV_int_i64 u5 fun v3 => k0 ⟨v0, v1, v2, v3⟩ | _ => none)
  | .exit i => bif Nat.beq i 0 then (decT env 1 fun u1 => decI .i64 u1 fun v0 => decT env 2 fun u2 => decP 0 u2 <| decT env 5 fun u3 => decI .i64 u3 fun v1 => decT env 6 fun u4 => decI .i64 u4 fun v2 => decT env 7 fun u5 => decI .i64 u5 fun v3 => decT env 8 fun u6 => decI .i64 u6 fun v4 => decT env 9 fun u7 => decI .i64 u7 fun v5 => decO σ 0 fun u8 => (match u8 with | .agg [u9, u10, u11] => decV_st_sl_int_i64_str_int_u64_str u9 fun v6 => decI .i64 u10 fun v7 => decV_int_i64 u11 fun v8 => k1 ⟨v0, v1, v2, v3, v4, v5, v6, v7, v8⟩ | _ => none)) else none
theorem dL_law24_ConfigTells_9_spec {α : Type} {kn : S_law24_ConfigTells_9 → R α} {k0 : X_law24_ConfigTells_9_0 → R α} {k1 : X_law24_ConfigTells_9_1 → R α} {x : SX} {env : Env} {σ : Heap} {r : α} (h : dL_law24_ConfigTells_9 kn k0 k1 x env σ = some r) : (x = .norm ∧ ∃ s, (∀ t v, getE (E_law24_ConfigTells_9 s) t = some v → Ids (· < 1) v ∧ getE env t = some v) ∧ (∀ y ∈ enumO 0 (OS_law24_ConfigTells_9 s), σ.get y.1 = some y.2) ∧ kn s = some r) ∨ (x = .ret ∧ ∃ s, (∀ t v, getE (EX_law24_ConfigTells_9_0 s) t = some v → Ids (· < 1) v ∧ getE env t = some v) ∧ (∀ y ∈ enumO 0 (OX_law24_ConfigTells_9_0 s), σ.get y.1 = some y.2) ∧ k0 s = some r) ∨ (x = (.exit 0) ∧ ∃ s, (∀ t v, getE (EX_law24_ConfigTells_9_1 s) t = some v → Ids (· < 1) v ∧ getE env t = some v) ∧ (∀ y ∈ enumO 0 (OX_law24_ConfigTells_9_1 s), σ.get y.1 = some y.2) ∧ k1 s = some r) := by
  unfold dL_law24_ConfigTells_9 at h
  split at h
  · skip
    obtain ⟨w1, w2, w3⟩ := decT_spec h
    obtain ⟨v0, rfl, w4⟩ := decI_spec w3
    obtain ⟨w5, w6, w7⟩ := decT_spec w4
    obtain ⟨rfl, w8⟩ := decP_spec w7
    obtain ⟨w9, w10, w11⟩ := decT_spec w8
    obtain ⟨v1, rfl, w12⟩ := decI_spec w11
    obtain ⟨w13, w14, w15⟩ := decT_spec w12
    obtain ⟨v2, rfl, w16⟩ := decI_spec w15
    obtain ⟨w17, w18, w19⟩ := decT_spec w16
    obtain ⟨v3, rfl, w20⟩ := decI_spec w19
    obtain ⟨w21, w22, w23⟩ := decT_spec w20
    obtain ⟨v4, rfl, w24⟩ := decI_spec w23
    obtain ⟨w25, w26, w27⟩ := decT_spec w24
    obtain ⟨v5, rfl, w28⟩ := decI_spec w27
    obtain ⟨w29, w30, w31⟩ := decT_spec w28
    obtain ⟨v6, rfl, w32⟩ := decI_spec w31
    obtain ⟨w33, w34, w35⟩ := decO_spec w32
    split at w35 <;> try (cases w35; done)
    obtain ⟨v7, rfl, w36⟩ := decV_st_sl_int_i64_str_int_u64_str_spec w35
    obtain ⟨v8, rfl, w37⟩ := decI_spec w36
    obtain ⟨v9, rfl, w38⟩ := decV_int_i64_spec w37
    exact .inl (⟨rfl, ⟨v0, v1, v2, v3, v4, v5, v6, v7, v8, v9⟩, env_all ⟨⟨by simp [Ids, Idss], w2⟩, ⟨by simp [Ids, Idss], w6⟩, ⟨by simp [Ids, Idss], w10⟩, ⟨by simp [Ids, Idss], w14⟩, ⟨by simp [Ids, Idss], w18⟩, ⟨by simp [Ids, Idss], w22⟩, ⟨by simp [Ids, Idss], w26⟩, ⟨by simp [Ids, Idss], w30⟩, trivial⟩, enum_all ⟨w34, trivial⟩, w38⟩)
  · skip
    obtain ⟨w1, w2, w3⟩ := decT_spec h
    obtain ⟨v0, rfl, w4⟩ := decB_spec w3
    obtain ⟨w5, w6, w7⟩ := decO_spec w4
    split at w7 <;> try (cases w7; done)
    obtain ⟨v1, rfl, w8⟩ := decV_st_sl_int_i64_str_int_u64_str_spec w7
    obtain ⟨v2, rfl, w9⟩ := decI_spec w8
    obtain ⟨v3, rfl, w10⟩ := decV_int_i64_spec w9
    exact .inr (.inl (⟨rfl, ⟨v0, v1, v2, v3⟩, env_all ⟨⟨by simp [Ids, Idss], w2⟩, trivial⟩, enum_all ⟨w6, trivial⟩, w10⟩))
  · rename_i i
    cases hi1 : Nat.beq i 0 <;> rw [hi1] at h <;> simp only [cond_true, cond_false] at h
    case true =>
      have e1 := Nat.eq_of_beq_eq_true hi1
      subst e1
      obtain ⟨w1, w2, w3⟩ := decT_spec h
      obtain ⟨v0, rfl, w4⟩ := decI_spec w3
      obtain ⟨w5, w6, w7⟩ := decT_spec w4
      obtain ⟨rfl, w8⟩ := decP_spec w7
      obtain ⟨w9, w10, w11⟩ := decT_spec w8
      obtain ⟨v1, rfl, w12⟩ := decI_spec w11
      obtain ⟨w13, w14, w15⟩ := decT_spec w12
      obtain ⟨v2, rfl, w16⟩ := decI_spec w15
      obtain ⟨w17, w18, w19⟩ := decT_spec w16
      obtain ⟨v3, rfl, w20⟩ := decI_spec w19
      obtain ⟨w21, w22, w23⟩ := decT_spec w20
      obtain ⟨v4, rfl, w24⟩ := decI_spec w23
      obtain ⟨w25, w26, w27⟩ := decT_spec w24
      obtain ⟨v5, rfl, w28⟩ := decI_spec w27
      obtain ⟨w29, w30, w31⟩ := decO_spec w28
      split at w31 <;> try (cases w31; done)
      obtain ⟨v6, rfl, w32⟩ := decV_st_sl_int_i64_str_int_u64_str_spec w31
      obtain ⟨v7, rfl, w33⟩ := decI_spec w32
      obtain ⟨v8, rfl, w34⟩ := decV_int_i64_spec w33
      exact .inr (.inr ((⟨rfl, ⟨v0, v1, v2, v3, v4, v5, v6, v7, v8⟩, env_all ⟨⟨by simp [Ids, Idss], w2⟩, ⟨by simp [Ids, Idss], w6⟩, ⟨by simp [Ids, Idss], w10⟩, ⟨by simp [Ids, Idss], w14⟩, ⟨by simp [Ids, Idss], w18⟩, ⟨by simp [Ids, Idss], w22⟩, ⟨by simp [Ids, Idss], w26⟩, trivial⟩, enum_all ⟨w30, trivial⟩, w34⟩)))
    cases h
def b_law24_ConfigTells_9 {α : Type} (F_config_Window : Sg_config_Window α) (L_law24_ConfigTells_12 : SgL_law24_ConfigTells_12 α) (s : S_law24_ConfigTells_9) (kn : S_law24_ConfigTells_9 → R α) (k0 : X_law24_ConfigTells_9_0 → R α) (k1 : X_law24_ConfigTells_9_1 → R α) : R α :=
  let b1 : Bool := (leB 0 s.v6)
  cond b1 (
  L_law24_ConfigTells_12 ⟨s.v0, s.v1, s.v2, s.v3, s.v4, s.v5, s.v6, 0, s.v7, s.v8, s.v9⟩ (fun x2 =>
  cond (decide (0 ≤ x2.v6) && decide (x2.v6 < ((x2.v7.2.2.1 : Nat) : Int))) (
  F_config_Window (GGuest.mk (x2.v7.2.2.2.2 (Int.toNat x2.v6)).1 (x2.v7.2.2.2.2 (Int.toNat x2.v6)).2.1 (x2.v7.2.2.2.2 (Int.toNat x2.v6)).2.2.1 (x2.v7.2.2.2.2 (Int.toNat x2.v6)).2.2.2.1) (fun r3 =>
  cond (decide (0 ≤ x2.v6) && decide (x2.v6 < ((x2.v7.2.2.1 : Nat) : Int))) (
  let t4 : Int := (IntKind.i64.wrap (256 * (((x2.v7.2.2.2.2 (Int.toNat x2.v6)).1.2.2.1 : Nat) : Int)))
  let b5 : Bool := (r3 != t4)
  cond b5 (
  k0 ⟨false, x2.v7, x2.v8, x2.v9⟩) (
  let t6 : Int := (IntKind.i64.wrap (x2.v6 - 1))
  kn ⟨x2.v0, x2.v1, x2.v2, x2.v3, x2.v4, x2.v5, t6, x2.v7, x2.v8, x2.v9⟩)) none)) none)) (
  k1 ⟨s.v0, s.v1, s.v2, s.v3, s.v4, s.v5, s.v7, s.v8, s.v9⟩)
def Lf_law24_ConfigTells_9 {α : Type} (L : SgL_law24_ConfigTells_9 α) : LF α := fun env σ k => bif allB (fun b => Nat.blt b σ.next) [0] then (decT env 1 fun u1 => decI .i64 u1 fun v0 => decT env 2 fun u2 => decP 0 u2 <| decT env 5 fun u3 => decI .i64 u3 fun v1 => decT env 6 fun u4 => decI .i64 u4 fun v2 => decT env 7 fun u5 => decI .i64 u5 fun v3 => decT env 8 fun u6 => decI .i64 u6 fun v4 => decT env 9 fun u7 => decI .i64 u7 fun v5 => decT env 10 fun u8 => decI .i64 u8 fun v6 => decO σ 0 fun u9 => (match u9 with | .agg [u10, u11, u12] => decV_st_sl_int_i64_str_int_u64_str u10 fun v7 => decI .i64 u11 fun v8 => decV_int_i64 u12 fun v9 => L ⟨v0, v1, v2, v3, v4, v5, v6, v7, v8, v9⟩ (fun x => k .ret [(4, .bool x.v0)] ⟨σ.next, [(0, .cells none (.agg [(.vslc (.st [(.sl (.int .i64)), .str, (.int .u64), .str]) x.v1.1 x.v1.2.1 x.v1.2.2.1 x.v1.2.2.2.1 x.v1.2.2.2.2), (.int .i64 x.v2), (.vslc (.int .i64) x.v3.1 x.v3.2.1 x.v3.2.2.1 x.v3.2.2.2.1 x.v3.2.2.2.2)]))] ++ σ.blocks⟩) (fun x => k (.exit 0) [(1, .int .i64 x.v0), (2, .ptr 0 []), (5, .int .i64 x.v1), (6, .int .i64 x.v2), (7, .int .i64 x.v3), (8, .int .i64 x.v4), (9, .int .i64 x.v5)] ⟨σ.next, [(0, .cells none (.agg [(.vslc (.st [(.sl (.int .i64)), .str, (.int .u64), .str]) x.v6.1 x.v6.2.1 x.v6.2.2.1 x.v6.2.2.2.1 x.v6.2.2.2.2), (.int .i64 x.v7), (.vslc (.int .i64) x.v8.1 x.v8.2.1 x.v8.2.2.1 x.v8.2.2.2.1 x.v8.2.2.2.2)]))] ++ σ.blocks⟩) | _ => none)) else none
abbrev Sg_law24_ConfigTells (α : Type) := GConfig → Int → (Bool → R α) → R α
def ad_law24_ConfigTells {α : Type} (F : Sg_law24_ConfigTells α) : FP α := fun args k => match args with
  | [a0, a1] => GConfig.dec a0 fun x0 => decI .i64 a1 fun x1 => F x0 x1 (fun r0 => k (.bool r0))
  | _ => none
def dR_law24_ConfigTells {α : Type} (a0 : SV) (k : Bool → R α) : R α := decB a0 fun x0 => k x0
theorem dR_law24_ConfigTells_spec {α : Type} {v : SV} {k : Bool → R α} {r : α} (h : dR_law24_ConfigTells v k = some r) : ∃ x0, v = (.bool x0) ∧ k x0 = some r := by
  unfold dR_law24_ConfigTells at h
  obtain ⟨x0, rfl, h0⟩ := decB_spec h
  exact ⟨x0, rfl, h0⟩
def p_law24_ConfigTells {α : Type} (F_law24_known : Sg_law24_known α) (F_law24_few : Sg_law24_few α) (F_config_Check : Sg_config_Check α) (F_ref26_Check : Sg_ref26_Check α) (F_config_Owner : Sg_config_Owner α) (L_law24_ConfigTells_9 : SgL_law24_ConfigTells_9 α) (x0 : GConfig) (x1 : Int) (k : Bool → R α) : R α :=
  F_law24_known  (fun r1 =>
  let b2 : Bool := (!r1)
  cond b2 (
  k false) (
  F_law24_few x0 (fun r3 =>
  let b4 : Bool := (!r3)
  cond b4 (
  k true) (
  F_config_Check x0 (fun r5 r6 =>
  F_ref26_Check x0 (fun r7 r8 =>
  let t9 : Int := (IntKind.i64.wrap (((x0.Guests.2.2.1 : Nat) : Int) - 1))
  L_law24_ConfigTells_9 ⟨x1, r5, r6, r7, r8, (-1), t9, x0.Guests, x0.Quantum, x0.Tables⟩ (fun x10 =>
  k x10.v0) (fun x11 =>
  let b12 : Bool := (x11.v1 == x11.v3)
  cond b12 (
  let b13 : Bool := (x11.v2 == x11.v4)
  cond b13 (
  F_config_Owner (GConfig.mk x11.v6 x11.v7 x11.v8) x11.v0 (fun r14 =>
  let b15 : Bool := (r14 == x11.v5)
  k b15)) (
  k false)) (
  k false))))))))
theorem le_law24_ConfigTells {α : Type} {F F' : Sg_law24_ConfigTells α} (h : ∀ x0 x1 k r, F' x0 x1 k = some r → F x0 x1 k = some r) {args : List SV} {k : SV → R α} {r : α} (hk : ad_law24_ConfigTells F' args k = some r) : ad_law24_ConfigTells F args k = some r := by
  unfold ad_law24_ConfigTells at hk
  split at hk <;> try (cases hk; done)
  obtain ⟨x0, rfl, hk0⟩ := GConfig.dec_spec hk
  obtain ⟨x1, rfl, hk1⟩ := decI_spec hk0
  have hkz := hk1
  exact h x0 x1 _ _ hkz
end Go.Sh
