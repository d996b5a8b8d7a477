/-
  Partitions (printed by wip/pr/pr.py): what the functions come to, told without the program.
-/
import Derived.Test.YtgagmgcljkhboaaSkC
set_option linter.unusedSimpArgs false
set_option linter.unusedVariables false
namespace Go.Sh
open Go
set_option linter.unusedVariables false
def decV_int_i64 {α : Type} (v : SV) (k : (Bool × Addr × Nat × Nat × (Nat → Int)) → R α) : R α := match v with
  | .vslc (.int .i64) nl a len cap f => k (nl, a, len, cap, f)
  | _ => none
theorem decV_int_i64_spec {α : Type} {v : SV} {k : (Bool × Addr × Nat × Nat × (Nat → Int)) → R α} {r : α} (h : decV_int_i64 v k = some r) : ∃ x : (Bool × Addr × Nat × Nat × (Nat → Int)), v = (.vslc (.int .i64) x.1 x.2.1 x.2.2.1 x.2.2.2.1 x.2.2.2.2) ∧ k x = some r := by
  unfold decV_int_i64 at h
  split at h <;> try (cases h; done)
  exact ⟨_, rfl, h⟩
def decV_st_sl_int_i64_str_int_u64_str {α : Type} (v : SV) (k : (Bool × Addr × Nat × Nat × (Nat → ((Bool × Addr × Nat × Nat × (Nat → Int)) × ByteArray × Int × ByteArray × Unit))) → R α) : R α := match v with
  | .vslc (.st [(.sl (.int .i64)), .str, (.int .u64), .str]) nl a len cap f => k (nl, a, len, cap, f)
  | _ => none
theorem decV_st_sl_int_i64_str_int_u64_str_spec {α : Type} {v : SV} {k : (Bool × Addr × Nat × Nat × (Nat → ((Bool × Addr × Nat × Nat × (Nat → Int)) × ByteArray × Int × ByteArray × Unit))) → R α} {r : α} (h : decV_st_sl_int_i64_str_int_u64_str v k = some r) : ∃ x : (Bool × Addr × Nat × Nat × (Nat → ((Bool × Addr × Nat × Nat × (Nat → Int)) × ByteArray × Int × ByteArray × Unit))), v = (.vslc (.st [(.sl (.int .i64)), .str, (.int .u64), .str]) x.1 x.2.1 x.2.2.1 x.2.2.2.1 x.2.2.2.2) ∧ k x = some r := by
  unfold decV_st_sl_int_i64_str_int_u64_str at h
  split at h <;> try (cases h; done)
  exact ⟨_, rfl, h⟩
structure GConfig where
  Guests : (Bool × Addr × Nat × Nat × (Nat → ((Bool × Addr × Nat × Nat × (Nat → Int)) × ByteArray × Int × ByteArray × Unit)))
  Quantum : Int
  Tables : (Bool × Addr × Nat × Nat × (Nat → Int))
abbrev GConfig.sv (t : GConfig) : SV := .agg [.vslc (.st [(.sl (.int .i64)), .str, (.int .u64), .str]) t.Guests.1 t.Guests.2.1 t.Guests.2.2.1 t.Guests.2.2.2.1 t.Guests.2.2.2.2, .int .i64 t.Quantum, .vslc (.int .i64) t.Tables.1 t.Tables.2.1 t.Tables.2.2.1 t.Tables.2.2.2.1 t.Tables.2.2.2.2]
def GConfig.dec {α : Type} (v : SV) (k : GConfig → R α) : R α := match v with
  | .agg [a0, a1, a2] => decV_st_sl_int_i64_str_int_u64_str a0 fun x0 => decI .i64 a1 fun x1 => decV_int_i64 a2 fun x2 => k ⟨x0, x1, x2⟩
  | _ => none
theorem GConfig.dec_spec {α : Type} {v : SV} {k : GConfig → R α} {r : α} (h : GConfig.dec v k = some r) : ∃ t : GConfig, v = t.sv ∧ k t = some r := by
  unfold GConfig.dec at h
  split at h <;> try (cases h; done)
  obtain ⟨x0, rfl, h0⟩ := decV_st_sl_int_i64_str_int_u64_str_spec h
  obtain ⟨x1, rfl, h1⟩ := decI_spec h0
  obtain ⟨x2, rfl, h2⟩ := decV_int_i64_spec h1
  exact ⟨⟨x0, x1, x2⟩, rfl, h2⟩
theorem GConfig.ids (t : GConfig) {p : Nat → Prop} : Ids p t.sv := by simp [Ids, Idss]
structure GGuest where
  Frames : (Bool × Addr × Nat × Nat × (Nat → Int))
  Image : ByteArray
  Start : Int
  Input : ByteArray
abbrev GGuest.sv (t : GGuest) : SV := .agg [.vslc (.int .i64) t.Frames.1 t.Frames.2.1 t.Frames.2.2.1 t.Frames.2.2.2.1 t.Frames.2.2.2.2, .str t.Image, .int .u64 t.Start, .str t.Input]
def GGuest.dec {α : Type} (v : SV) (k : GGuest → R α) : R α := match v with
  | .agg [a0, a1, a2, a3] => decV_int_i64 a0 fun x0 => decS a1 fun x1 => decI .u64 a2 fun x2 => decS a3 fun x3 => k ⟨x0, x1, x2, x3⟩
  | _ => none
theorem GGuest.dec_spec {α : Type} {v : SV} {k : GGuest → R α} {r : α} (h : GGuest.dec v k = some r) : ∃ t : GGuest, v = t.sv ∧ k t = some r := by
  unfold GGuest.dec at h
  split at h <;> try (cases h; done)
  obtain ⟨x0, rfl, h0⟩ := decV_int_i64_spec h
  obtain ⟨x1, rfl, h1⟩ := decS_spec h0
  obtain ⟨x2, rfl, h2⟩ := decI_spec h1
  obtain ⟨x3, rfl, h3⟩ := decS_spec h2
  exact ⟨⟨x0, x1, x2, x3⟩, rfl, h3⟩
theorem GGuest.ids (t : GGuest) {p : Nat → Prop} : Ids p t.sv := by simp [Ids, Idss]
abbrev Sg_law24_known (α : Type) := (Bool → R α) → R α
def ad_law24_known {α : Type} (F : Sg_law24_known α) : FP α := fun args k => match args with
  | [] =>  F  (fun r0 => k (.bool r0))
  | _ => none
def dR_law24_known {α : Type} (a0 : SV) (k : Bool → R α) : R α := decB a0 fun x0 => k x0
theorem dR_law24_known_spec {α : Type} {v : SV} {k : Bool → R α} {r : α} (h : dR_law24_known v k = some r) : ∃ x0, v = (.bool x0) ∧ k x0 = some r := by
  unfold dR_law24_known at h
  obtain ⟨x0, rfl, h0⟩ := decB_spec h
  exact ⟨x0, rfl, h0⟩
theorem le_law24_known {α : Type} {F F' : Sg_law24_known α} (h : ∀  k r, F'  k = some r → F  k = some r) {args : List SV} {k : SV → R α} {r : α} (hk : ad_law24_known F' args k = some r) : ad_law24_known F args k = some r := by
  unfold ad_law24_known at hk
  split at hk <;> try (cases hk; done)
  have hkz := hk
  exact h  _ _ hkz
structure S_law24_few_2 where
  v0 : Int
  v1 : (Bool × Addr × Nat × Nat × (Nat → ((Bool × Addr × Nat × Nat × (Nat → Int)) × ByteArray × Int × ByteArray × Unit)))
  v2 : Int
  v3 : (Bool × Addr × Nat × Nat × (Nat → Int))
def E_law24_few_2 (s : S_law24_few_2) : Env := [(1, .ptr 0 []), (3, .int .i64 s.v0)]
def OS_law24_few_2 (s : S_law24_few_2) : List SObj := [.cells none (.agg [(.vslc (.st [(.sl (.int .i64)), .str, (.int .u64), .str]) s.v1.1 s.v1.2.1 s.v1.2.2.1 s.v1.2.2.2.1 s.v1.2.2.2.2), (.int .i64 s.v2), (.vslc (.int .i64) s.v3.1 s.v3.2.1 s.v3.2.2.1 s.v3.2.2.2.1 s.v3.2.2.2.2)])]
structure X_law24_few_2_0 where
  v0 : Bool
  v1 : (Bool × Addr × Nat × Nat × (Nat → ((Bool × Addr × Nat × Nat × (Nat → Int)) × ByteArray × Int × ByteArray × Unit)))
  v2 : Int
  v3 : (Bool × Addr × Nat × Nat × (Nat → Int))
def EX_law24_few_2_0 (s : X_law24_few_2_0) : Env := [(2, .bool s.v0)]
def OX_law24_few_2_0 (s : X_law24_few_2_0) : List SObj := [.cells none (.agg [(.vslc (.st [(.sl (.int .i64)), .str, (.int .u64), .str]) s.v1.1 s.v1.2.1 s.v1.2.2.1 s.v1.2.2.2.1 s.v1.2.2.2.2), (.int .i64 s.v2), (.vslc (.int .i64) s.v3.1 s.v3.2.1 s.v3.2.2.1 s.v3.2.2.2.1 s.v3.2.2.2.2)])]
structure X_law24_few_2_1 where
  v0 : (Bool × Addr × Nat × Nat × (Nat → ((Bool × Addr × Nat × Nat × (Nat → Int)) × ByteArray × Int × ByteArray × Unit)))
  v1 : Int
  v2 : (Bool × Addr × Nat × Nat × (Nat → Int))
def EX_law24_few_2_1 (s : X_law24_few_2_1) : Env := [(1, .ptr 0 [])]
def OX_law24_few_2_1 (s : X_law24_few_2_1) : List SObj := [.cells none (.agg [(.vslc (.st [(.sl (.int .i64)), .str, (.int .u64), .str]) s.v0.1 s.v0.2.1 s.v0.2.2.1 s.v0.2.2.2.1 s.v0.2.2.2.2), (.int .i64 s.v1), (.vslc (.int .i64) s.v2.1 s.v2.2.1 s.v2.2.2.1 s.v2.2.2.2.1 s.v2.2.2.2.2)])]
abbrev X_law24_few_2 := X_law24_few_2_0 ⊕ X_law24_few_2_1
def EX_law24_few_2 : X_law24_few_2 → Env
  | .inl x => EX_law24_few_2_0 x
  | .inr x => EX_law24_few_2_1 x
def OX_law24_few_2 : X_law24_few_2 → List SObj
  | .inl x => OX_law24_few_2_0 x
  | .inr x => OX_law24_few_2_1 x
def xx_law24_few_2 : X_law24_few_2 → SX
  | .inl _ => .ret
  | .inr _ => (.exit 0)
abbrev SgL_law24_few_2 (α : Type) := S_law24_few_2 → (X_law24_few_2_0 → R α) → (X_law24_few_2_1 → R α) → R α
def dL_law24_few_2 {α : Type} (kn : S_law24_few_2 → R α) (k0 : X_law24_few_2_0 → R α) (k1 : X_law24_few_2_1 → R α) : KC α := fun x env σ => match x with
  | .norm => decT env 1 fun u1 => decP 0 u1 <| decT env 3 fun u2 => decI .i64 u2 fun v0 => decO σ 0 fun u3 => (match u3 with | .agg [u4, u5, u6] => decV_st_sl_int_i64_str_int_u64_str u4 fun v1 => decI .i64 u5 fun v2 => decV_int_i64 u6 fun v3 => kn ⟨v0, v1, v2, v3⟩ | _ => none)
  | .ret => decT env 2 fun u1 => decB u1 fun v0 => decO σ 0 fun u2 => (match u2 with | .agg [u3, u4, u5] => decV_st_sl_int_i64_str_int_u64_str u3 fun v1 => decI .i64 u4 fun v2 => decV_int_i64 u5 fun v3 => k0 ⟨v0, v1, v2, v3⟩ | _ => none)
  | .exit i => bif Nat.beq i 0 then (decT env 1 fun u1 => decP 0 u1 <| decO σ 0 fun u2 => (match u2 with | .agg [u3, u4, u5] => decV_st_sl_int_i64_str_int_u64_str u3 fun v0 => decI .i64 u4 fun v1 => decV_int_i64 u5 fun v2 => k1 ⟨v0, v1, v2⟩ | _ => none)) else none
theorem dL_law24_few_2_spec {α : Type} {kn : S_law24_few_2 → R α} {k0 : X_law24_few_2_0 → R α} {k1 : X_law24_few_2_1 → R α} {x : SX} {env : Env} {σ : Heap} {r : α} (h : dL_law24_few_2 kn k0 k1 x env σ = some r) : (x = .norm ∧ ∃ s, (∀ t v, getE (E_law24_few_2 s) t = some v → Ids (· < 1) v ∧ getE env t = some v) ∧ (∀ y ∈ enumO 0 (OS_law24_few_2 s), σ.get y.1 = some y.2) ∧ kn s = some r) ∨ (x = .ret ∧ ∃ s, (∀ t v, getE (EX_law24_few_2_0 s) t = some v → Ids (· < 1) v ∧ getE env t = some v) ∧ (∀ y ∈ enumO 0 (OX_law24_few_2_0 s), σ.get y.1 = some y.2) ∧ k0 s = some r) ∨ (x = (.exit 0) ∧ ∃ s, (∀ t v, getE (EX_law24_few_2_1 s) t = some v → Ids (· < 1) v ∧ getE env t = some v) ∧ (∀ y ∈ enumO 0 (OX_law24_few_2_1 s), σ.get y.1 = some y.2) ∧ k1 s = some r) := by
  unfold dL_law24_few_2 at h
  split at h
  · skip
    obtain ⟨w1, w2, w3⟩ := decT_spec h
    obtain ⟨rfl, w4⟩ := decP_spec w3
    obtain ⟨w5, w6, w7⟩ := decT_spec w4
    obtain ⟨v0, rfl, w8⟩ := decI_spec w7
    obtain ⟨w9, w10, w11⟩ := decO_spec w8
    split at w11 <;> try (cases w11; done)
    obtain ⟨v1, rfl, w12⟩ := decV_st_sl_int_i64_str_int_u64_str_spec w11
    obtain ⟨v2, rfl, w13⟩ := decI_spec w12
    obtain ⟨v3, rfl, w14⟩ := decV_int_i64_spec w13
    exact .inl (⟨rfl, ⟨v0, v1, v2, v3⟩, env_all ⟨⟨by simp [Ids, Idss], w2⟩, ⟨by simp [Ids, Idss], w6⟩, trivial⟩, enum_all ⟨w10, trivial⟩, w14⟩)
  · skip
    obtain ⟨w1, w2, w3⟩ := decT_spec h
    obtain ⟨v0, rfl, w4⟩ := decB_spec w3
    obtain ⟨w5, w6, w7⟩ := decO_spec w4
    split at w7 <;> try (cases w7; done)
    obtain ⟨v1, rfl, w8⟩ := decV_st_sl_int_i64_str_int_u64_str_spec w7
    obtain ⟨v2, rfl, w9⟩ := decI_spec w8
    obtain ⟨v3, rfl, w10⟩ := decV_int_i64_spec w9
    exact .inr (.inl (⟨rfl, ⟨v0, v1, v2, v3⟩, env_all ⟨⟨by simp [Ids, Idss], w2⟩, trivial⟩, enum_all ⟨w6, trivial⟩, w10⟩))
  · rename_i i
    cases hi1 : Nat.beq i 0 <;> rw [hi1] at h <;> simp only [cond_true, cond_false] at h
    case true =>
      have e1 := Nat.eq_of_beq_eq_true hi1
      subst e1
      obtain ⟨w1, w2, w3⟩ := decT_spec h
      obtain ⟨rfl, w4⟩ := decP_spec w3
      obtain ⟨w5, w6, w7⟩ := decO_spec w4
      split at w7 <;> try (cases w7; done)
      obtain ⟨v0, rfl, w8⟩ := decV_st_sl_int_i64_str_int_u64_str_spec w7
      obtain ⟨v1, rfl, w9⟩ := decI_spec w8
      obtain ⟨v2, rfl, w10⟩ := decV_int_i64_spec w9
      exact .inr (.inr ((⟨rfl, ⟨v0, v1, v2⟩, env_all ⟨⟨by simp [Ids, Idss], w2⟩, trivial⟩, enum_all ⟨w6, trivial⟩, w10⟩)))
    cases h
def b_law24_few_2 {α : Type}  (s : S_law24_few_2) (kn : S_law24_few_2 → R α) (k0 : X_law24_few_2_0 → R α) (k1 : X_law24_few_2_1 → R α) : R α :=
  let b1 : Bool := (ltB s.v0 ((s.v1.2.2.1 : Nat) : Int))
  cond b1 (
  cond (decide (0 ≤ s.v0) && decide (s.v0 < ((s.v1.2.2.1 : Nat) : Int))) (
  let b2 : Bool := (ltB 20 (((s.v1.2.2.2.2 (Int.toNat s.v0)).1.2.2.1 : Nat) : Int))
  cond b2 (
  k0 ⟨false, s.v1, s.v2, s.v3⟩) (
  cond (decide (0 ≤ s.v0) && decide (s.v0 < ((s.v1.2.2.1 : Nat) : Int))) (
  let t3 : Int := ((ByteArray.size (s.v1.2.2.2.2 (Int.toNat s.v0)).2.1 : Nat) : Int)
  let b4 : Bool := (ltB 5000 t3)
  cond b4 (
  k0 ⟨false, s.v1, s.v2, s.v3⟩) (
  cond (decide (0 ≤ s.v0) && decide (s.v0 < ((s.v1.2.2.1 : Nat) : Int))) (
  let t5 : Int := ((ByteArray.size (s.v1.2.2.2.2 (Int.toNat s.v0)).2.2.2.1 : Nat) : Int)
  let b6 : Bool := (ltB 100 t5)
  cond b6 (
  k0 ⟨false, s.v1, s.v2, s.v3⟩) (
  let t7 : Int := (IntKind.i64.wrap (s.v0 + 1))
  kn ⟨t7, s.v1, s.v2, s.v3⟩)) none)) none)) none) (
  k1 ⟨s.v1, s.v2, s.v3⟩)
def Lf_law24_few_2 {α : Type} (L : SgL_law24_few_2 α) : LF α := fun env σ k => bif allB (fun b => Nat.blt b σ.next) [0] then (decT env 1 fun u1 => decP 0 u1 <| decT env 3 fun u2 => decI .i64 u2 fun v0 => decO σ 0 fun u3 => (match u3 with | .agg [u4, u5, u6] => decV_st_sl_int_i64_str_int_u64_str u4 fun v1 => decI .i64 u5 fun v2 => decV_int_i64 u6 fun v3 => L ⟨v0, v1, v2, v3⟩ (fun x => k .ret [(2, .bool x.v0)] ⟨σ.next, [(0, .cells none (.agg [(.vslc (.st [(.sl (.int .i64)), .str, (.int .u64), .str]) x.v1.1 x.v1.2.1 x.v1.2.2.1 x.v1.2.2.2.1 x.v1.2.2.2.2), (.int .i64 x.v2), (.vslc (.int .i64) x.v3.1 x.v3.2.1 x.v3.2.2.1 x.v3.2.2.2.1 x.v3.2.2.2.2)]))] ++ σ.blocks⟩) (fun x => k (.exit 0) [(1, .ptr 0 [])] ⟨σ.next, [(0, .cells none (.agg [(.vslc (.st [(.sl (.int .i64)), .str, (.int .u64), .str]) x.v0.1 x.v0.2.1 x.v0.2.2.1 x.v0.2.2.2.1 x.v0.2.2.2.2), (.int .i64 x.v1), (.vslc (.int .i64) x.v2.1 x.v2.2.1 x.v2.2.2.1 x.v2.2.2.2.1 x.v2.2.2.2.2)]))] ++ σ.blocks⟩) | _ => none)) else none
abbrev Sg_law24_few (α : Type) := GConfig → (Bool → R α) → R α
def ad_law24_few {α : Type} (F : Sg_law24_few α) : FP α := fun args k => match args with
  | [a0] => GConfig.dec a0 fun x0 => F x0 (fun r0 => k (.bool r0))
  | _ => none
def dR_law24_few {α : Type} (a0 : SV) (k : Bool → R α) : R α := decB a0 fun x0 => k x0
theorem dR_law24_few_spec {α : Type} {v : SV} {k : Bool → R α} {r : α} (h : dR_law24_few v k = some r) : ∃ x0, v = (.bool x0) ∧ k x0 = some r := by
  unfold dR_law24_few at h
  obtain ⟨x0, rfl, h0⟩ := decB_spec h
  exact ⟨x0, rfl, h0⟩
def p_law24_few {α : Type} (L_law24_few_2 : SgL_law24_few_2 α) (x0 : GConfig) (k : Bool → R α) : R α :=
  L_law24_few_2 ⟨0, x0.Guests, x0.Quantum, x0.Tables⟩ (fun x1 =>
  k x1.v0) (fun x2 =>
  let b3 : Bool := (leB ((x2.v0.2.2.1 : Nat) : Int) 6)
  cond b3 (
  let b4 : Bool := (leB ((x2.v2.2.2.1 : Nat) : Int) 20)
  k b4) (
  k false))
theorem le_law24_few {α : Type} {F F' : Sg_law24_few α} (h : ∀ x0 k r, F' x0 k = some r → F x0 k = some r) {args : List SV} {k : SV → R α} {r : α} (hk : ad_law24_few F' args k = some r) : ad_law24_few F args k = some r := by
  unfold ad_law24_few at hk
  split at hk <;> try (cases hk; done)
  obtain ⟨x0, rfl, hk0⟩ := GConfig.dec_spec hk
  have hkz := hk0
  exact h x0 _ _ hkz
abbrev Sg_config_within (α : Type) := Int → Int → Int → (Bool → R α) → R α
def ad_config_within {α : Type} (F : Sg_config_within α) : FP α := fun args k => match args with
  | [a0, a1, a2] => decI .i64 a0 fun x0 => decI .i64 a1 fun x1 => decI .i64 a2 fun x2 => F x0 x1 x2 (fun r0 => k (.bool r0))
  | _ => none
def dR_config_within {α : Type} (a0 : SV) (k : Bool → R α) : R α := decB a0 fun x0 => k x0
theorem dR_config_within_spec {α : Type} {v : SV} {k : Bool → R α} {r : α} (h : dR_config_within v k = some r) : ∃ x0, v = (.bool x0) ∧ k x0 = some r := by
  unfold dR_config_within at h
  obtain ⟨x0, rfl, h0⟩ := decB_spec h
  exact ⟨x0, rfl, h0⟩
def p_config_within {α : Type}  (x0 : Int) (x1 : Int) (x2 : Int) (k : Bool → R α) : R α :=
  let b1 : Bool := (leB x1 x0)
  cond b1 (
  let b2 : Bool := (leB x0 x2)
  k b2) (
  k false)
theorem le_config_within {α : Type} {F F' : Sg_config_within α} (h : ∀ x0 x1 x2 k r, F' x0 x1 x2 k = some r → F x0 x1 x2 k = some r) {args : List SV} {k : SV → R α} {r : α} (hk : ad_config_within F' args k = some r) : ad_config_within F args k = some r := by
  unfold ad_config_within at hk
  split at hk <;> try (cases hk; done)
  obtain ⟨x0, rfl, hk0⟩ := decI_spec hk
  obtain ⟨x1, rfl, hk1⟩ := decI_spec hk0
  obtain ⟨x2, rfl, hk2⟩ := decI_spec hk1
  have hkz := hk2
  exact h x0 x1 x2 _ _ hkz
structure S_slices_IndexInts_2 where
  v0 : (Bool × Addr × Nat × Nat × (Nat → Int))
  v1 : Int
  v2 : Int
  v3 : Int
def E_slices_IndexInts_2 (s : S_slices_IndexInts_2) : Env := [(0, .vslc (.int .i64) s.v0.1 s.v0.2.1 s.v0.2.2.1 s.v0.2.2.2.1 s.v0.2.2.2.2), (1, .int .i64 s.v1), (7, .int .i64 s.v2), (8, .int .i64 s.v3)]
def OS_slices_IndexInts_2 (s : S_slices_IndexInts_2) : List SObj := []
structure X_slices_IndexInts_2_0 where
  v0 : Int
def EX_slices_IndexInts_2_0 (s : X_slices_IndexInts_2_0) : Env := [(4, .int .i64 s.v0)]
def OX_slices_IndexInts_2_0 (s : X_slices_IndexInts_2_0) : List SObj := []
structure X_slices_IndexInts_2_1 where
  mk ::
def EX_slices_IndexInts_2_1 (s : X_slices_IndexInts_2_1) : Env := []
def OX_slices_IndexInts_2_1 (s : X_slices_IndexInts_2_1) : List SObj := []
abbrev X_slices_IndexInts_2 := X_slices_IndexInts_2_0 ⊕ X_slices_IndexInts_2_1
def EX_slices_IndexInts_2 : X_slices_IndexInts_2 → Env
  | .inl x => EX_slices_IndexInts_2_0 x
  | .inr x => EX_slices_IndexInts_2_1 x
def OX_slices_IndexInts_2 : X_slices_IndexInts_2 → List SObj
  | .inl x => OX_slices_IndexInts_2_0 x
  | .inr x => OX_slices_IndexInts_2_1 x
def xx_slices_IndexInts_2 : X_slices_IndexInts_2 → SX
  | .inl _ => .ret
  | .inr _ => (.exit 0)
abbrev SgL_slices_IndexInts_2 (α : Type) := S_slices_IndexInts_2 → (X_slices_IndexInts_2_0 → R α) → (X_slices_IndexInts_2_1 → R α) → R α
def dL_slices_IndexInts_2 {α : Type} (kn : S_slices_IndexInts_2 → R α) (k0 : X_slices_IndexInts_2_0 → R α) (k1 : X_slices_IndexInts_2_1 → R α) : KC α := fun x env σ => match x with
  | .norm => decT env 0 fun u1 => decV_int_i64 u1 fun v0 => decT env 1 fun u2 => decI .i64 u2 fun v1 => decT env 7 fun u3 => decI .i64 u3 fun v2 => decT env 8 fun u4 => decI .i64 u4 fun v3 => kn ⟨v0, v1, v2, v3⟩
  | .ret => decT env 4 fun u1 => decI .i64 u1 fun v0 => k0 ⟨v0⟩
  | .exit i => bif Nat.beq i 0 then (k1 ⟨⟩) else none
theorem dL_slices_IndexInts_2_spec {α : Type} {kn : S_slices_IndexInts_2 → R α} {k0 : X_slices_IndexInts_2_0 → R α} {k1 : X_slices_IndexInts_2_1 → R α} {x : SX} {env : Env} {σ : Heap} {r : α} (h : dL_slices_IndexInts_2 kn k0 k1 x env σ = some r) : (x = .norm ∧ ∃ s, (∀ t v, getE (E_slices_IndexInts_2 s) t = some v → Ids (· < 0) v ∧ getE env t = some v) ∧ (∀ y ∈ enumO 0 (OS_slices_IndexInts_2 s), σ.get y.1 = some y.2) ∧ kn s = some r) ∨ (x = .ret ∧ ∃ s, (∀ t v, getE (EX_slices_IndexInts_2_0 s) t = some v → Ids (· < 0) v ∧ getE env t = some v) ∧ (∀ y ∈ enumO 0 (OX_slices_IndexInts_2_0 s), σ.get y.1 = some y.2) ∧ k0 s = some r) ∨ (x = (.exit 0) ∧ ∃ s, (∀ t v, getE (EX_slices_IndexInts_2_1 s) t = some v → Ids (· < 0) v ∧ getE env t = some v) ∧ (∀ y ∈ enumO 0 (OX_slices_IndexInts_2_1 s), σ.get y.1 = some y.2) ∧ k1 s = some r) := by
  unfold dL_slices_IndexInts_2 at h
  split at h
  · skip
    obtain ⟨w1, w2, w3⟩ := decT_spec h
    obtain ⟨v0, rfl, w4⟩ := decV_int_i64_spec w3
    obtain ⟨w5, w6, w7⟩ := decT_spec w4
    obtain ⟨v1, rfl, w8⟩ := decI_spec w7
    obtain ⟨w9, w10, w11⟩ := decT_spec w8
    obtain ⟨v2, rfl, w12⟩ := decI_spec w11
    obtain ⟨w13, w14, w15⟩ := decT_spec w12
    obtain ⟨v3, rfl, w16⟩ := decI_spec w15
    exact .inl (⟨rfl, ⟨v0, v1, v2, v3⟩, env_all ⟨⟨by simp [Ids, Idss], w2⟩, ⟨by simp [Ids, Idss], w6⟩, ⟨by simp [Ids, Idss], w10⟩, ⟨by simp [Ids, Idss], w14⟩, trivial⟩, enum_all trivial, w16⟩)
  · skip
    obtain ⟨w1, w2, w3⟩ := decT_spec h
    obtain ⟨v0, rfl, w4⟩ := decI_spec w3
    exact .inr (.inl (⟨rfl, ⟨v0⟩, env_all ⟨⟨by simp [Ids, Idss], w2⟩, trivial⟩, enum_all trivial, w4⟩))
  · rename_i i
    cases hi1 : Nat.beq i 0 <;> rw [hi1] at h <;> simp only [cond_true, cond_false] at h
    case true =>
      have e1 := Nat.eq_of_beq_eq_true hi1
      subst e1
      exact .inr (.inr ((⟨rfl, ⟨⟩, (fun t v ht => by simp [EX_slices_IndexInts_2_1, getE] at ht), enum_all trivial, h⟩)))
    cases h
def b_slices_IndexInts_2 {α : Type}  (s : S_slices_IndexInts_2) (kn : S_slices_IndexInts_2 → R α) (k0 : X_slices_IndexInts_2_0 → R α) (k1 : X_slices_IndexInts_2_1 → R α) : R α :=
  let b1 : Bool := (ltB s.v3 s.v2)
  cond b1 (
  cond (decide (0 ≤ s.v3) && decide (s.v3 < ((s.v0.2.2.1 : Nat) : Int))) (
  let b2 : Bool := (s.v1 == (s.v0.2.2.2.2 (Int.toNat s.v3)))
  cond b2 (
  k0 ⟨s.v3⟩) (
  let t3 : Int := (IntKind.i64.wrap (s.v3 + 1))
  kn ⟨s.v0, s.v1, s.v2, t3⟩)) none) (
  k1 ⟨⟩)
def Lf_slices_IndexInts_2 {α : Type} (L : SgL_slices_IndexInts_2 α) : LF α := fun env σ k => bif allB (fun b => Nat.blt b σ.next) [] then (decT env 0 fun u1 => decV_int_i64 u1 fun v0 => decT env 1 fun u2 => decI .i64 u2 fun v1 => decT env 7 fun u3 => decI .i64 u3 fun v2 => decT env 8 fun u4 => decI .i64 u4 fun v3 => L ⟨v0, v1, v2, v3⟩ (fun x => k .ret [(4, .int .i64 x.v0)] ⟨σ.next, [] ++ σ.blocks⟩) (fun x => k (.exit 0) [] ⟨σ.next, [] ++ σ.blocks⟩)) else none
abbrev Sg_slices_IndexInts (α : Type) := (Bool × Addr × Nat × Nat × (Nat → Int)) → Int → (Int → R α) → R α
def ad_slices_IndexInts {α : Type} (F : Sg_slices_IndexInts α) : FP α := fun args k => match args with
  | [a0, a1] => decV_int_i64 a0 fun x0 => decI .i64 a1 fun x1 => F x0 x1 (fun r0 => k (.int .i64 r0))
  | _ => none
def dR_slices_IndexInts {α : Type} (a0 : SV) (k : Int → R α) : R α := decI .i64 a0 fun x0 => k x0
theorem dR_slices_IndexInts_spec {α : Type} {v : SV} {k : Int → R α} {r : α} (h : dR_slices_IndexInts v k = some r) : ∃ x0, v = (.int .i64 x0) ∧ k x0 = some r := by
  unfold dR_slices_IndexInts at h
  obtain ⟨x0, rfl, h0⟩ := decI_spec h
  exact ⟨x0, rfl, h0⟩
def p_slices_IndexInts {α : Type} (L_slices_IndexInts_2 : SgL_slices_IndexInts_2 α) (x0 : (Bool × Addr × Nat × Nat × (Nat → Int))) (x1 : Int) (k : Int → R α) : R α :=
  L_slices_IndexInts_2 ⟨x0, x1, ((x0.2.2.1 : Nat) : Int), 0⟩ (fun x1 =>
  k x1.v0) (fun x2 =>
  k (-1))
theorem le_slices_IndexInts {α : Type} {F F' : Sg_slices_IndexInts α} (h : ∀ x0 x1 k r, F' x0 x1 k = some r → F x0 x1 k = some r) {args : List SV} {k : SV → R α} {r : α} (hk : ad_slices_IndexInts F' args k = some r) : ad_slices_IndexInts F args k = some r := by
  unfold ad_slices_IndexInts at hk
  split at hk <;> try (cases hk; done)
  obtain ⟨x0, rfl, hk0⟩ := decV_int_i64_spec hk
  obtain ⟨x1, rfl, hk1⟩ := decI_spec hk0
  have hkz := hk1
  exact h x0 x1 _ _ hkz
abbrev Sg_slices_ContainsInts (α : Type) := (Bool × Addr × Nat × Nat × (Nat → Int)) → Int → (Bool → R α) → R α
def ad_slices_ContainsInts {α : Type} (F : Sg_slices_ContainsInts α) : FP α := fun args k => match args with
  | [a0, a1] => decV_int_i64 a0 fun x0 => decI .i64 a1 fun x1 => F x0 x1 (fun r0 => k (.bool r0))
  | _ => none
def dR_slices_ContainsInts {α : Type} (a0 : SV) (k : Bool → R α) : R α := decB a0 fun x0 => k x0
theorem dR_slices_ContainsInts_spec {α : Type} {v : SV} {k : Bool → R α} {r : α} (h : dR_slices_ContainsInts v k = some r) : ∃ x0, v = (.bool x0) ∧ k x0 = some r := by
  unfold dR_slices_ContainsInts at h
  obtain ⟨x0, rfl, h0⟩ := decB_spec h
  exact ⟨x0, rfl, h0⟩
def p_slices_ContainsInts {α : Type} (F_slices_IndexInts : Sg_slices_IndexInts α) (x0 : (Bool × Addr × Nat × Nat × (Nat → Int))) (x1 : Int) (k : Bool → R α) : R α :=
  F_slices_IndexInts x0 x1 (fun r1 =>
  let b2 : Bool := (leB 0 r1)
  k b2)
theorem le_slices_ContainsInts {α : Type} {F F' : Sg_slices_ContainsInts α} (h : ∀ x0 x1 k r, F' x0 x1 k = some r → F x0 x1 k = some r) {args : List SV} {k : SV → R α} {r : α} (hk : ad_slices_ContainsInts F' args k = some r) : ad_slices_ContainsInts F args k = some r := by
  unfold ad_slices_ContainsInts at hk
  split at hk <;> try (cases hk; done)
  obtain ⟨x0, rfl, hk0⟩ := decV_int_i64_spec hk
  obtain ⟨x1, rfl, hk1⟩ := decI_spec hk0
  have hkz := hk1
  exact h x0 x1 _ _ hkz
structure S_config_frames_7 where
  v0 : Int
  v1 : (Bool × Addr × Nat × Nat × (Nat → ((Bool × Addr × Nat × Nat × (Nat → Int)) × ByteArray × Int × ByteArray × Unit)))
  v2 : Int
  v3 : Int
  v4 : (Bool × Addr × Nat × Nat × (Nat → Int))
  v5 : Int
  v6 : Int
  v7 : (Bool × Addr × Nat × Nat × (Nat → ((Bool × Addr × Nat × Nat × (Nat → Int)) × ByteArray × Int × ByteArray × Unit)))
  v8 : Int
  v9 : (Bool × Addr × Nat × Nat × (Nat → Int))
  v10 : (Nat → Bool)
  v11 : (Bool × Addr × Nat × Nat × (Nat → Int))
  v12 : ByteArray
  v13 : Int
  v14 : ByteArray
def E_config_frames_7 (s : S_config_frames_7) : Env := [(1, .ptr 0 []), (5, .fn (.func 26) [] [.ptr 1 []]), (6, .int .i64 s.v0), (7, .ptr 2 []), (14, .vslc (.st [(.sl (.int .i64)), .str, (.int .u64), .str]) s.v1.1 s.v1.2.1 s.v1.2.2.1 s.v1.2.2.2.1 s.v1.2.2.2.2), (15, .int .i64 s.v2), (16, .int .i64 s.v3), (22, .vslc (.int .i64) s.v4.1 s.v4.2.1 s.v4.2.2.1 s.v4.2.2.2.1 s.v4.2.2.2.2), (23, .int .i64 s.v5), (24, .int .i64 s.v6)]
def OS_config_frames_7 (s : S_config_frames_7) : List SObj := [.cells none (.agg [(.vslc (.st [(.sl (.int .i64)), .str, (.int .u64), .str]) s.v7.1 s.v7.2.1 s.v7.2.2.1 s.v7.2.2.2.1 s.v7.2.2.2.2), (.int .i64 s.v8), (.vslc (.int .i64) s.v9.1 s.v9.2.1 s.v9.2.2.1 s.v9.2.2.2.1 s.v9.2.2.2.2)]), .cells none (.bools 128 s.v10), .cells none (.agg [(.vslc (.int .i64) s.v11.1 s.v11.2.1 s.v11.2.2.1 s.v11.2.2.2.1 s.v11.2.2.2.2), (.str s.v12), (.int .u64 s.v13), (.str s.v14)])]
structure X_config_frames_7_0 where
  v0 : Int
  v1 : Bool
  v2 : (Bool × Addr × Nat × Nat × (Nat → ((Bool × Addr × Nat × Nat × (Nat → Int)) × ByteArray × Int × ByteArray × Unit)))
  v3 : Int
  v4 : (Bool × Addr × Nat × Nat × (Nat → Int))
  v5 : (Nat → Bool)
  v6 : (Bool × Addr × Nat × Nat × (Nat → Int))
  v7 : ByteArray
  v8 : Int
  v9 : ByteArray
def EX_config_frames_7_0 (s : X_config_frames_7_0) : Env := [(2, .int .i64 s.v0), (3, .bool s.v1)]
def OX_config_frames_7_0 (s : X_config_frames_7_0) : List SObj := [.cells none (.agg [(.vslc (.st [(.sl (.int .i64)), .str, (.int .u64), .str]) s.v2.1 s.v2.2.1 s.v2.2.2.1 s.v2.2.2.2.1 s.v2.2.2.2.2), (.int .i64 s.v3), (.vslc (.int .i64) s.v4.1 s.v4.2.1 s.v4.2.2.1 s.v4.2.2.2.1 s.v4.2.2.2.2)]), .cells none (.bools 128 s.v5), .cells none (.agg [(.vslc (.int .i64) s.v6.1 s.v6.2.1 s.v6.2.2.1 s.v6.2.2.2.1 s.v6.2.2.2.2), (.str s.v7), (.int .u64 s.v8), (.str s.v9)])]
structure X_config_frames_7_1 where
  v0 : (Bool × Addr × Nat × Nat × (Nat → ((Bool × Addr × Nat × Nat × (Nat → Int)) × ByteArray × Int × ByteArray × Unit)))
  v1 : Int
  v2 : Int
  v3 : (Bool × Addr × Nat × Nat × (Nat → ((Bool × Addr × Nat × Nat × (Nat → Int)) × ByteArray × Int × ByteArray × Unit)))
  v4 : Int
  v5 : (Bool × Addr × Nat × Nat × (Nat → Int))
  v6 : (Nat → Bool)
  v7 : (Bool × Addr × Nat × Nat × (Nat → Int))
  v8 : ByteArray
  v9 : Int
  v10 : ByteArray
def EX_config_frames_7_1 (s : X_config_frames_7_1) : Env := [(1, .ptr 0 []), (5, .fn (.func 26) [] [.ptr 1 []]), (14, .vslc (.st [(.sl (.int .i64)), .str, (.int .u64), .str]) s.v0.1 s.v0.2.1 s.v0.2.2.1 s.v0.2.2.2.1 s.v0.2.2.2.2), (15, .int .i64 s.v1), (16, .int .i64 s.v2)]
def OX_config_frames_7_1 (s : X_config_frames_7_1) : List SObj := [.cells none (.agg [(.vslc (.st [(.sl (.int .i64)), .str, (.int .u64), .str]) s.v3.1 s.v3.2.1 s.v3.2.2.1 s.v3.2.2.2.1 s.v3.2.2.2.2), (.int .i64 s.v4), (.vslc (.int .i64) s.v5.1 s.v5.2.1 s.v5.2.2.1 s.v5.2.2.2.1 s.v5.2.2.2.2)]), .cells none (.bools 128 s.v6), .cells none (.agg [(.vslc (.int .i64) s.v7.1 s.v7.2.1 s.v7.2.2.1 s.v7.2.2.2.1 s.v7.2.2.2.2), (.str s.v8), (.int .u64 s.v9), (.str s.v10)])]
structure X_config_frames_7_2 where
  v0 : (Bool × Addr × Nat × Nat × (Nat → ((Bool × Addr × Nat × Nat × (Nat → Int)) × ByteArray × Int × ByteArray × Unit)))
  v1 : Int
  v2 : Int
  v3 : (Bool × Addr × Nat × Nat × (Nat → ((Bool × Addr × Nat × Nat × (Nat → Int)) × ByteArray × Int × ByteArray × Unit)))
  v4 : Int
  v5 : (Bool × Addr × Nat × Nat × (Nat → Int))
  v6 : (Nat → Bool)
  v7 : (Bool × Addr × Nat × Nat × (Nat → Int))
  v8 : ByteArray
  v9 : Int
  v10 : ByteArray
def EX_config_frames_7_2 (s : X_config_frames_7_2) : Env := [(1, .ptr 0 []), (5, .fn (.func 26) [] [.ptr 1 []]), (14, .vslc (.st [(.sl (.int .i64)), .str, (.int .u64), .str]) s.v0.1 s.v0.2.1 s.v0.2.2.1 s.v0.2.2.2.1 s.v0.2.2.2.2), (15, .int .i64 s.v1), (16, .int .i64 s.v2)]
def OX_config_frames_7_2 (s : X_config_frames_7_2) : List SObj := [.cells none (.agg [(.vslc (.st [(.sl (.int .i64)), .str, (.int .u64), .str]) s.v3.1 s.v3.2.1 s.v3.2.2.1 s.v3.2.2.2.1 s.v3.2.2.2.2), (.int .i64 s.v4), (.vslc (.int .i64) s.v5.1 s.v5.2.1 s.v5.2.2.1 s.v5.2.2.2.1 s.v5.2.2.2.2)]), .cells none (.bools 128 s.v6), .cells none (.agg [(.vslc (.int .i64) s.v7.1 s.v7.2.1 s.v7.2.2.1 s.v7.2.2.2.1 s.v7.2.2.2.2), (.str s.v8), (.int .u64 s.v9), (.str s.v10)])]
abbrev X_config_frames_7 := X_config_frames_7_0 ⊕ X_config_frames_7_1 ⊕ X_config_frames_7_2
def EX_config_frames_7 : X_config_frames_7 → Env
  | .inl x => EX_config_frames_7_0 x
  | .inr (.inl x) => EX_config_frames_7_1 x
  | .inr (.inr x) => EX_config_frames_7_2 x
def OX_config_frames_7 : X_config_frames_7 → List SObj
  | .inl x => OX_config_frames_7_0 x
  | .inr (.inl x) => OX_config_frames_7_1 x
  | .inr (.inr x) => OX_config_frames_7_2 x
def xx_config_frames_7 : X_config_frames_7 → SX
  | .inl _ => .ret
  | .inr (.inl _) => (.exit 1)
  | .inr (.inr _) => (.exit 2)
abbrev SgL_config_frames_7 (α : Type) := S_config_frames_7 → (X_config_frames_7_0 → R α) → (X_config_frames_7_1 → R α) → (X_config_frames_7_2 → R α) → R α
def dL_config_frames_7 {α : Type} (kn : S_config_frames_7 → R α) (k0 : X_config_frames_7_0 → R α) (k1 : X_config_frames_7_1 → R α) (k2 : X_config_frames_7_2 → R α) : KC α := fun x env σ => match x with
  | .norm => decT env 1 fun u1 => decP 0 u1 <| decT env 5 fun u2 => decFn 26 1 u2 <| decT env 6 fun u3 => decI .i64 u3 fun v0 => decT env 7 fun u4 => decP 2 u4 <| decT env 14 fun u5 => decV_st_sl_int_i64_str_int_u64_str u5 fun v1 => decT env 15 fun u6 => decI .i64 u6 fun v2 => decT env 16 fun u7 => decI .i64 u7 fun v3 => decT env 22 fun u8 => decV_int_i64 u8 fun v4 => decT env 23 fun u9 => decI .i64 u9 fun v5 => decT env 24 fun u10 => decI .i64 u10 fun v6 => decO σ 0 fun u11 => (match u11 with | .agg [u12, u13, u14] => decV_st_sl_int_i64_str_int_u64_str u12 fun v7 => decI .i64 u13 fun v8 => decV_int_i64 u14 fun v9 => decO σ 1 fun u15 => decAB 128 u15 fun v10 => decO σ 2 fun u16 => (match u16 with | .agg [u17, u18, u19, u20] => decV_int_i64 u17 fun v11 => decS u18 fun v12 => decI .u64 u19 fun v13 => decS u20 fun v14 => kn ⟨v0, v1, v2, v3, v4, v5, v6, v7, v8, v9, v10, v11, v12, v13, v14⟩ | _ => none) | _ => none)
  | .ret => decT env 2 fun u1 => decI .i64 u1 fun v0 => decT env 3 fun u2 => decB u2 fun v1 => decO σ 0 fun u3 => (match u3 with | .agg [u4, u5, u6] => decV_st_sl_int_i64_str_int_u64_str u4 fun v2 => decI .i64 u5 fun v3 => decV_int_i64 u6 fun v4 => decO σ 1 fun u7 => decAB 128 u7 fun v5 => decO σ 2 fun u8 => (match u8 with | .agg [u9, u10, u11, u12] => decV_int_i64 u9 fun v6 => decS u10 fun v7 => decI .u64 u11 fun v8 => decS u12 fun v9 => k0 ⟨v0, v1, v2, v3, v4, v5, v6, v7, v8, v9⟩ | _ => none) | _ => none)
  | .exit i => bif Nat.beq i 1 then (decT env 1 fun u1 => decP 0 u1 <| decT env 5 fun u2 => decFn 26 1 u2 <| decT env 14 fun u3 => decV_st_sl_int_i64_str_int_u64_str u3 fun v0 => decT env 15 fun u4 => decI .i64 u4 fun v1 => decT env 16 fun u5 => decI .i64 u5 fun v2 => decO σ 0 fun u6 => (match u6 with | .agg [u7, u8, u9] => decV_st_sl_int_i64_str_int_u64_str u7 fun v3 => decI .i64 u8 fun v4 => decV_int_i64 u9 fun v5 => decO σ 1 fun u10 => decAB 128 u10 fun v6 => decO σ 2 fun u11 => (match u11 with | .agg [u12, u13, u14, u15] => decV_int_i64 u12 fun v7 => decS u13 fun v8 => decI .u64 u14 fun v9 => decS u15 fun v10 => k1 ⟨v0, v1, v2, v3, v4, v5, v6, v7, v8, v9, v10⟩ | _ => none) | _ => none)) else bif Nat.beq i 2 then (decT env 1 fun u1 => decP 0 u1 <| decT env 5 fun u2 => decFn 26 1 u2 <| decT env 14 fun u3 => decV_st_sl_int_i64_str_int_u64_str u3 fun v0 => decT env 15 fun u4 => decI .i64 u4 fun v1 => decT env 16 fun u5 => decI .i64 u5 fun v2 => decO σ 0 fun u6 => (match u6 with | .agg [u7, u8, u9] => decV_st_sl_int_i64_str_int_u64_str u7 fun v3 => decI .i64 u8 fun v4 => decV_int_i64 u9 fun v5 => decO σ 1 fun u10 => decAB 128 u10 fun v6 => decO σ 2 fun u11 => (match u11 with | .agg [u12, u13, u14, u15] => decV_int_i64 u12 fun v7 => decS u13 fun v8 => decI .u64 u14 fun v9 => decS u15 fun v10 => k2 ⟨v0, v1, v2, v3, v4, v5, v6, v7, v8, v9, v10⟩ | _ => none) | _ => none)) else none
theorem dL_config_frames_7_spec {α : Type} {kn : S_config_frames_7 → R α} {k0 : X_config_frames_7_0 → R α} {k1 : X_config_frames_7_1 → R α} {k2 : X_config_frames_7_2 → R α} {x : SX} {env : Env} {σ : Heap} {r : α} (h : dL_config_frames_7 kn k0 k1 k2 x env σ = some r) : (x = .norm ∧ ∃ s, (∀ t v, getE (E_config_frames_7 s) t = some v → Ids (· < 3) v ∧ getE env t = some v) ∧ (∀ y ∈ enumO 0 (OS_config_frames_7 s), σ.get y.1 = some y.2) ∧ kn s = some r) ∨ (x = .ret ∧ ∃ s, (∀ t v, getE (EX_config_frames_7_0 s) t = some v → Ids (· < 3) v ∧ getE env t = some v) ∧ (∀ y ∈ enumO 0 (OX_config_frames_7_0 s), σ.get y.1 = some y.2) ∧ k0 s = some r) ∨ (x = (.exit 1) ∧ ∃ s, (∀ t v, getE (EX_config_frames_7_1 s) t = some v → Ids (· < 3) v ∧ getE env t = some v) ∧ (∀ y ∈ enumO 0 (OX_config_frames_7_1 s), σ.get y.1 = some y.2) ∧ k1 s = some r) ∨ (x = (.exit 2) ∧ ∃ s, (∀ t v, getE (EX_config_frames_7_2 s) t = some v → Ids (· < 3) v ∧ getE env t = some v) ∧ (∀ y ∈ enumO 0 (OX_config_frames_7_2 s), σ.get y.1 = some y.2) ∧ k2 s = some r) := by
  unfold dL_config_frames_7 at h
  split at h
  · skip
    obtain ⟨w1, w2, w3⟩ := decT_spec h
    obtain ⟨rfl, w4⟩ := decP_spec w3
    obtain ⟨w5, w6, w7⟩ := decT_spec w4
    obtain ⟨rfl, w8⟩ := decFn_spec w7
    obtain ⟨w9, w10, w11⟩ := decT_spec w8
    obtain ⟨v0, rfl, w12⟩ := decI_spec w11
    obtain ⟨w13, w14, w15⟩ := decT_spec w12
    obtain ⟨rfl, w16⟩ := decP_spec w15
    obtain ⟨w17, w18, w19⟩ := decT_spec w16
    obtain ⟨v1, rfl, w20⟩ := decV_st_sl_int_i64_str_int_u64_str_spec w19
    obtain ⟨w21, w22, w23⟩ := decT_spec w20
    obtain ⟨v2, rfl, w24⟩ := decI_spec w23
    obtain ⟨w25, w26, w27⟩ := decT_spec w24
    obtain ⟨v3, rfl, w28⟩ := decI_spec w27
    obtain ⟨w29, w30, w31⟩ := decT_spec w28
    obtain ⟨v4, rfl, w32⟩ := decV_int_i64_spec w31
    obtain ⟨w33, w34, w35⟩ := decT_spec w32
    obtain ⟨v5, rfl, w36⟩ := decI_spec w35
    obtain ⟨w37, w38, w39⟩ := decT_spec w36
    obtain ⟨v6, rfl, w40⟩ := decI_spec w39
    obtain ⟨w41, w42, w43⟩ := decO_spec w40
    split at w43 <;> try (cases w43; done)
    obtain ⟨v7, rfl, w44⟩ := decV_st_sl_int_i64_str_int_u64_str_spec w43
    obtain ⟨v8, rfl, w45⟩ := decI_spec w44
    obtain ⟨v9, rfl, w46⟩ := decV_int_i64_spec w45
    obtain ⟨w47, w48, w49⟩ := decO_spec w46
    obtain ⟨v10, rfl, w50⟩ := decAB_spec w49
    obtain ⟨w51, w52, w53⟩ := decO_spec w50
    split at w53 <;> try (cases w53; done)
    obtain ⟨v11, rfl, w54⟩ := decV_int_i64_spec w53
    obtain ⟨v12, rfl, w55⟩ := decS_spec w54
    obtain ⟨v13, rfl, w56⟩ := decI_spec w55
    obtain ⟨v14, rfl, w57⟩ := decS_spec w56
    exact .inl (⟨rfl, ⟨v0, v1, v2, v3, v4, v5, v6, v7, v8, v9, v10, v11, v12, v13, v14⟩, env_all ⟨⟨by simp [Ids, Idss], w2⟩, ⟨by simp [Ids, Idss], w6⟩, ⟨by simp [Ids, Idss], w10⟩, ⟨by simp [Ids, Idss], w14⟩, ⟨by simp [Ids, Idss], w18⟩, ⟨by simp [Ids, Idss], w22⟩, ⟨by simp [Ids, Idss], w26⟩, ⟨by simp [Ids, Idss], w30⟩, ⟨by simp [Ids, Idss], w34⟩, ⟨by simp [Ids, Idss], w38⟩, trivial⟩, enum_all ⟨w42, w48, w52, trivial⟩, w57⟩)
  · skip
    obtain ⟨w1, w2, w3⟩ := decT_spec h
    obtain ⟨v0, rfl, w4⟩ := decI_spec w3
    obtain ⟨w5, w6, w7⟩ := decT_spec w4
    obtain ⟨v1, rfl, w8⟩ := decB_spec w7
    obtain ⟨w9, w10, w11⟩ := decO_spec w8
    split at w11 <;> try (cases w11; done)
    obtain ⟨v2, rfl, w12⟩ := decV_st_sl_int_i64_str_int_u64_str_spec w11
    obtain ⟨v3, rfl, w13⟩ := decI_spec w12
    obtain ⟨v4, rfl, w14⟩ := decV_int_i64_spec w13
    obtain ⟨w15, w16, w17⟩ := decO_spec w14
    obtain ⟨v5, rfl, w18⟩ := decAB_spec w17
    obtain ⟨w19, w20, w21⟩ := decO_spec w18
    split at w21 <;> try (cases w21; done)
    obtain ⟨v6, rfl, w22⟩ := decV_int_i64_spec w21
    obtain ⟨v7, rfl, w23⟩ := decS_spec w22
    obtain ⟨v8, rfl, w24⟩ := decI_spec w23
    obtain ⟨v9, rfl, w25⟩ := decS_spec w24
    exact .inr (.inl (⟨rfl, ⟨v0, v1, v2, v3, v4, v5, v6, v7, v8, v9⟩, env_all ⟨⟨by simp [Ids, Idss], w2⟩, ⟨by simp [Ids, Idss], w6⟩, trivial⟩, enum_all ⟨w10, w16, w20, trivial⟩, w25⟩))
  · rename_i i
    cases hi1 : Nat.beq i 1 <;> rw [hi1] at h <;> simp only [cond_true, cond_false] at h
    case true =>
      have e1 := Nat.eq_of_beq_eq_true hi1
      subst e1
      obtain ⟨w1, w2, w3⟩ := decT_spec h
      obtain ⟨rfl, w4⟩ := decP_spec w3
      obtain ⟨w5, w6, w7⟩ := decT_spec w4
      obtain ⟨rfl, w8⟩ := decFn_spec w7
      obtain ⟨w9, w10, w11⟩ := decT_spec w8
      obtain ⟨v0, rfl, w12⟩ := decV_st_sl_int_i64_str_int_u64_str_spec w11
      obtain ⟨w13, w14, w15⟩ := decT_spec w12
      obtain ⟨v1, rfl, w16⟩ := decI_spec w15
      obtain ⟨w17, w18, w19⟩ := decT_spec w16
      obtain ⟨v2, rfl, w20⟩ := decI_spec w19
      obtain ⟨w21, w22, w23⟩ := decO_spec w20
      split at w23 <;> try (cases w23; done)
      obtain ⟨v3, rfl, w24⟩ := decV_st_sl_int_i64_str_int_u64_str_spec w23
      obtain ⟨v4, rfl, w25⟩ := decI_spec w24
      obtain ⟨v5, rfl, w26⟩ := decV_int_i64_spec w25
      obtain ⟨w27, w28, w29⟩ := decO_spec w26
      obtain ⟨v6, rfl, w30⟩ := decAB_spec w29
      obtain ⟨w31, w32, w33⟩ := decO_spec w30
      split at w33 <;> try (cases w33; done)
      obtain ⟨v7, rfl, w34⟩ := decV_int_i64_spec w33
      obtain ⟨v8, rfl, w35⟩ := decS_spec w34
      obtain ⟨v9, rfl, w36⟩ := decI_spec w35
      obtain ⟨v10, rfl, w37⟩ := decS_spec w36
      exact .inr (.inr (.inl (⟨rfl, ⟨v0, v1, v2, v3, v4, v5, v6, v7, v8, v9, v10⟩, env_all ⟨⟨by simp [Ids, Idss], w2⟩, ⟨by simp [Ids, Idss], w6⟩, ⟨by simp [Ids, Idss], w10⟩, ⟨by simp [Ids, Idss], w14⟩, ⟨by simp [Ids, Idss], w18⟩, trivial⟩, enum_all ⟨w22, w28, w32, trivial⟩, w37⟩)))
    cases hi2 : Nat.beq i 2 <;> rw [hi2] at h <;> simp only [cond_true, cond_false] at h
    case true =>
      have e2 := Nat.eq_of_beq_eq_true hi2
      subst e2
      obtain ⟨w1, w2, w3⟩ := decT_spec h
      obtain ⟨rfl, w4⟩ := decP_spec w3
      obtain ⟨w5, w6, w7⟩ := decT_spec w4
      obtain ⟨rfl, w8⟩ := decFn_spec w7
      obtain ⟨w9, w10, w11⟩ := decT_spec w8
      obtain ⟨v0, rfl, w12⟩ := decV_st_sl_int_i64_str_int_u64_str_spec w11
      obtain ⟨w13, w14, w15⟩ := decT_spec w12
      obtain ⟨v1, rfl, w16⟩ := decI_spec w15
      obtain ⟨w17, w18, w19⟩ := decT_spec w16
      obtain ⟨v2, rfl, w20⟩ := decI_spec w19
      obtain ⟨w21, w22, w23⟩ := decO_spec w20
      split at w23 <;> try (cases w23; done)
      obtain ⟨v3, rfl, w24⟩ := decV_st_sl_int_i64_str_int_u64_str_spec w23
      obtain ⟨v4, rfl, w25⟩ := decI_spec w24
      obtain ⟨v5, rfl, w26⟩ := decV_int_i64_spec w25
      obtain ⟨w27, w28, w29⟩ := decO_spec w26
      obtain ⟨v6, rfl, w30⟩ := decAB_spec w29
      obtain ⟨w31, w32, w33⟩ := decO_spec w30
      split at w33 <;> try (cases w33; done)
      obtain ⟨v7, rfl, w34⟩ := decV_int_i64_spec w33
      obtain ⟨v8, rfl, w35⟩ := decS_spec w34
      obtain ⟨v9, rfl, w36⟩ := decI_spec w35
      obtain ⟨v10, rfl, w37⟩ := decS_spec w36
      exact .inr (.inr (.inr ((⟨rfl, ⟨v0, v1, v2, v3, v4, v5, v6, v7, v8, v9, v10⟩, env_all ⟨⟨by simp [Ids, Idss], w2⟩, ⟨by simp [Ids, Idss], w6⟩, ⟨by simp [Ids, Idss], w10⟩, ⟨by simp [Ids, Idss], w14⟩, ⟨by simp [Ids, Idss], w18⟩, trivial⟩, enum_all ⟨w22, w28, w32, trivial⟩, w37⟩))))
    cases h
def b_config_frames_7 {α : Type} (F_slices_ContainsInts : Sg_slices_ContainsInts α) (F_config_within : Sg_config_within α) (s : S_config_frames_7) (kn : S_config_frames_7 → R α) (k0 : X_config_frames_7_0 → R α) (k1 : X_config_frames_7_1 → R α) (k2 : X_config_frames_7_2 → R α) : R α :=
  let b1 : Bool := (ltB s.v6 s.v5)
  cond b1 (
  cond (decide (0 ≤ s.v6) && decide (s.v6 < ((s.v4.2.2.1 : Nat) : Int))) (
  F_slices_ContainsInts s.v9 (s.v4.2.2.2.2 (Int.toNat s.v6)) (fun r2 =>
  cond r2 (
  k0 ⟨s.v0, false, s.v7, s.v8, s.v9, s.v10, s.v11, s.v12, s.v13, s.v14⟩) (
  F_config_within (s.v4.2.2.2.2 (Int.toNat s.v6)) 0 127 (fun r3 =>
  let b4 : Bool := (!r3)
  cond b4 (
  k0 ⟨s.v0, false, s.v7, s.v8, s.v9, s.v10, s.v11, s.v12, s.v13, s.v14⟩) (
  cond (decide (0 ≤ (s.v4.2.2.2.2 (Int.toNat s.v6))) && decide ((s.v4.2.2.2.2 (Int.toNat s.v6)) < 128)) (
  cond (decide ((Int.toNat (s.v4.2.2.2.2 (Int.toNat s.v6))) < 128)) (
  cond (s.v10 (Int.toNat (s.v4.2.2.2.2 (Int.toNat s.v6)))) (
  k0 ⟨s.v0, false, s.v7, s.v8, s.v9, s.v10, s.v11, s.v12, s.v13, s.v14⟩) (
  cond (decide (0 ≤ (s.v4.2.2.2.2 (Int.toNat s.v6))) && decide ((s.v4.2.2.2.2 (Int.toNat s.v6)) < 128)) (
  cond (decide ((Int.toNat (s.v4.2.2.2.2 (Int.toNat s.v6))) < 128)) (
  let t5 : Int := (IntKind.i64.wrap (((s.v11.2.2.1 : Nat) : Int) - 1))
  let b6 : Bool := (s.v6 == t5)
  cond b6 (
  k1 ⟨s.v1, s.v2, s.v3, s.v7, s.v8, s.v9, (upd s.v10 (Int.toNat (s.v4.2.2.2.2 (Int.toNat s.v6))) true), s.v11, s.v12, s.v13, s.v14⟩) (
  let t7 : Int := (IntKind.i64.wrap (s.v6 + 1))
  kn ⟨s.v0, s.v1, s.v2, s.v3, s.v4, s.v5, t7, s.v7, s.v8, s.v9, (upd s.v10 (Int.toNat (s.v4.2.2.2.2 (Int.toNat s.v6))) true), s.v11, s.v12, s.v13, s.v14⟩)) none) none)) none) none))))) none) (
  k2 ⟨s.v1, s.v2, s.v3, s.v7, s.v8, s.v9, s.v10, s.v11, s.v12, s.v13, s.v14⟩)
def Lf_config_frames_7 {α : Type} (L : SgL_config_frames_7 α) : LF α := fun env σ k => bif allB (fun b => Nat.blt b σ.next) [0, 1, 2] then (decT env 1 fun u1 => decP 0 u1 <| decT env 5 fun u2 => decFn 26 1 u2 <| decT env 6 fun u3 => decI .i64 u3 fun v0 => decT env 7 fun u4 => decP 2 u4 <| decT env 14 fun u5 => decV_st_sl_int_i64_str_int_u64_str u5 fun v1 => decT env 15 fun u6 => decI .i64 u6 fun v2 => decT env 16 fun u7 => decI .i64 u7 fun v3 => decT env 22 fun u8 => decV_int_i64 u8 fun v4 => decT env 23 fun u9 => decI .i64 u9 fun v5 => decT env 24 fun u10 => decI .i64 u10 fun v6 => decO σ 0 fun u11 => (match u11 with | .agg [u12, u13, u14] => decV_st_sl_int_i64_str_int_u64_str u12 fun v7 => decI .i64 u13 fun v8 => decV_int_i64 u14 fun v9 => decO σ 1 fun u15 => decAB 128 u15 fun v10 => decO σ 2 fun u16 => (match u16 with | .agg [u17, u18, u19, u20] => decV_int_i64 u17 fun v11 => decS u18 fun v12 => decI .u64 u19 fun v13 => decS u20 fun v14 => L ⟨v0, v1, v2, v3, v4, v5, v6, v7, v8, v9, v10, v11, v12, v13, v14⟩ (fun x => k .ret [(2, .int .i64 x.v0), (3, .bool x.v1)] ⟨σ.next, [(0, .cells none (.agg [(.vslc (.st [(.sl (.int .i64)), .str, (.int .u64), .str]) x.v2.1 x.v2.2.1 x.v2.2.2.1 x.v2.2.2.2.1 x.v2.2.2.2.2), (.int .i64 x.v3), (.vslc (.int .i64) x.v4.1 x.v4.2.1 x.v4.2.2.1 x.v4.2.2.2.1 x.v4.2.2.2.2)])), (1, .cells none (.bools 128 x.v5)), (2, .cells none (.agg [(.vslc (.int .i64) x.v6.1 x.v6.2.1 x.v6.2.2.1 x.v6.2.2.2.1 x.v6.2.2.2.2), (.str x.v7), (.int .u64 x.v8), (.str x.v9)]))] ++ σ.blocks⟩) (fun x => k (.exit 1) [(1, .ptr 0 []), (5, .fn (.func 26) [] [.ptr 1 []]), (14, .vslc (.st [(.sl (.int .i64)), .str, (.int .u64), .str]) x.v0.1 x.v0.2.1 x.v0.2.2.1 x.v0.2.2.2.1 x.v0.2.2.2.2), (15, .int .i64 x.v1), (16, .int .i64 x.v2)] ⟨σ.next, [(0, .cells none (.agg [(.vslc (.st [(.sl (.int .i64)), .str, (.int .u64), .str]) x.v3.1 x.v3.2.1 x.v3.2.2.1 x.v3.2.2.2.1 x.v3.2.2.2.2), (.int .i64 x.v4), (.vslc (.int .i64) x.v5.1 x.v5.2.1 x.v5.2.2.1 x.v5.2.2.2.1 x.v5.2.2.2.2)])), (1, .cells none (.bools 128 x.v6)), (2, .cells none (.agg [(.vslc (.int .i64) x.v7.1 x.v7.2.1 x.v7.2.2.1 x.v7.2.2.2.1 x.v7.2.2.2.2), (.str x.v8), (.int .u64 x.v9), (.str x.v10)]))] ++ σ.blocks⟩) (fun x => k (.exit 2) [(1, .ptr 0 []), (5, .fn (.func 26) [] [.ptr 1 []]), (14, .vslc (.st [(.sl (.int .i64)), .str, (.int .u64), .str]) x.v0.1 x.v0.2.1 x.v0.2.2.1 x.v0.2.2.2.1 x.v0.2.2.2.2), (15, .int .i64 x.v1), (16, .int .i64 x.v2)] ⟨σ.next, [(0, .cells none (.agg [(.vslc (.st [(.sl (.int .i64)), .str, (.int .u64), .str]) x.v3.1 x.v3.2.1 x.v3.2.2.1 x.v3.2.2.2.1 x.v3.2.2.2.2), (.int .i64 x.v4), (.vslc (.int .i64) x.v5.1 x.v5.2.1 x.v5.2.2.1 x.v5.2.2.2.1 x.v5.2.2.2.2)])), (1, .cells none (.bools 128 x.v6)), (2, .cells none (.agg [(.vslc (.int .i64) x.v7.1 x.v7.2.1 x.v7.2.2.1 x.v7.2.2.2.1 x.v7.2.2.2.2), (.str x.v8), (.int .u64 x.v9), (.str x.v10)]))] ++ σ.blocks⟩) | _ => none) | _ => none)) else none
structure S_config_frames_4 where
  v0 : (Bool × Addr × Nat × Nat × (Nat → ((Bool × Addr × Nat × Nat × (Nat → Int)) × ByteArray × Int × ByteArray × Unit)))
  v1 : Int
  v2 : Int
  v3 : (Bool × Addr × Nat × Nat × (Nat → ((Bool × Addr × Nat × Nat × (Nat → Int)) × ByteArray × Int × ByteArray × Unit)))
  v4 : Int
  v5 : (Bool × Addr × Nat × Nat × (Nat → Int))
  v6 : (Nat → Bool)
def E_config_frames_4 (s : S_config_frames_4) : Env := [(1, .ptr 0 []), (5, .fn (.func 26) [] [.ptr 1 []]), (14, .vslc (.st [(.sl (.int .i64)), .str, (.int .u64), .str]) s.v0.1 s.v0.2.1 s.v0.2.2.1 s.v0.2.2.2.1 s.v0.2.2.2.2), (15, .int .i64 s.v1), (16, .int .i64 s.v2)]
def OS_config_frames_4 (s : S_config_frames_4) : List SObj := [.cells none (.agg [(.vslc (.st [(.sl (.int .i64)), .str, (.int .u64), .str]) s.v3.1 s.v3.2.1 s.v3.2.2.1 s.v3.2.2.2.1 s.v3.2.2.2.2), (.int .i64 s.v4), (.vslc (.int .i64) s.v5.1 s.v5.2.1 s.v5.2.2.1 s.v5.2.2.2.1 s.v5.2.2.2.2)]), .cells none (.bools 128 s.v6)]
structure X_config_frames_4_0 where
  v0 : Int
  v1 : Bool
  v2 : (Bool × Addr × Nat × Nat × (Nat → ((Bool × Addr × Nat × Nat × (Nat → Int)) × ByteArray × Int × ByteArray × Unit)))
  v3 : Int
  v4 : (Bool × Addr × Nat × Nat × (Nat → Int))
  v5 : (Nat → Bool)
def EX_config_frames_4_0 (s : X_config_frames_4_0) : Env := [(2, .int .i64 s.v0), (3, .bool s.v1)]
def OX_config_frames_4_0 (s : X_config_frames_4_0) : List SObj := [.cells none (.agg [(.vslc (.st [(.sl (.int .i64)), .str, (.int .u64), .str]) s.v2.1 s.v2.2.1 s.v2.2.2.1 s.v2.2.2.2.1 s.v2.2.2.2.2), (.int .i64 s.v3), (.vslc (.int .i64) s.v4.1 s.v4.2.1 s.v4.2.2.1 s.v4.2.2.2.1 s.v4.2.2.2.2)]), .cells none (.bools 128 s.v5)]
structure X_config_frames_4_1 where
  v0 : (Bool × Addr × Nat × Nat × (Nat → ((Bool × Addr × Nat × Nat × (Nat → Int)) × ByteArray × Int × ByteArray × Unit)))
  v1 : Int
  v2 : (Bool × Addr × Nat × Nat × (Nat → Int))
  v3 : (Nat → Bool)
def EX_config_frames_4_1 (s : X_config_frames_4_1) : Env := [(1, .ptr 0 []), (5, .fn (.func 26) [] [.ptr 1 []])]
def OX_config_frames_4_1 (s : X_config_frames_4_1) : List SObj := [.cells none (.agg [(.vslc (.st [(.sl (.int .i64)), .str, (.int .u64), .str]) s.v0.1 s.v0.2.1 s.v0.2.2.1 s.v0.2.2.2.1 s.v0.2.2.2.2), (.int .i64 s.v1), (.vslc (.int .i64) s.v2.1 s.v2.2.1 s.v2.2.2.1 s.v2.2.2.2.1 s.v2.2.2.2.2)]), .cells none (.bools 128 s.v3)]
abbrev X_config_frames_4 := X_config_frames_4_0 ⊕ X_config_frames_4_1
def EX_config_frames_4 : X_config_frames_4 → Env
  | .inl x => EX_config_frames_4_0 x
  | .inr x => EX_config_frames_4_1 x
def OX_config_frames_4 : X_config_frames_4 → List SObj
  | .inl x => OX_config_frames_4_0 x
  | .inr x => OX_config_frames_4_1 x
def xx_config_frames_4 : X_config_frames_4 → SX
  | .inl _ => .ret
  | .inr _ => (.exit 0)
abbrev SgL_config_frames_4 (α : Type) := S_config_frames_4 → (X_config_frames_4_0 → R α) → (X_config_frames_4_1 → R α) → R α
def dL_config_frames_4 {α : Type} (kn : S_config_frames_4 → R α) (k0 : X_config_frames_4_0 → R α) (k1 : X_config_frames_4_1 → R α) : KC α := fun x env σ => match x with
  | .norm => decT env 1 fun u1 => decP 0 u1 <| decT env 5 fun u2 => decFn 26 1 u2 <| decT env 14 fun u3 => decV_st_sl_int_i64_str_int_u64_str u3 fun v0 => decT env 15 fun u4 => decI .i64 u4 fun v1 => decT env 16 fun u5 => decI .i64 u5 fun v2 => decO σ 0 fun u6 => (match u6 with | .agg [u7, u8, u9] => decV_st_sl_int_i64_str_int_u64_str u7 fun v3 => decI .i64 u8 fun v4 => decV_int_i64 u9 fun v5 => decO σ 1 fun u10 => decAB 128 u10 fun v6 => kn ⟨v0, v1, v2, v3, v4, v5, v6⟩ | _ => none)
  | .ret => decT env 2 fun u1 => decI .i64 u1 fun v0 => decT env 3 fun u2 => decB u2 fun v1 => decO σ 0 fun u3 => (match u3 with | .agg [u4, u5, u6] => decV_st_sl_int_i64_str_int_u64_str u4 fun v2 => decI .i64 u5 fun v3 => decV_int_i64 u6 fun v4 => decO σ 1 fun u7 => decAB 128 u7 fun v5 => k0 ⟨v0, v1, v2, v3, v4, v5⟩ | _ => none)
  | .exit i => bif Nat.beq i 0 then (decT env 1 fun u1 => decP 0 u1 <| decT env 5 fun u2 => decFn 26 1 u2 <| decO σ 0 fun u3 => (match u3 with | .agg [u4, u5, u6] => decV_st_sl_int_i64_str_int_u64_str u4 fun v0 => decI .i64 u5 fun v1 => decV_int_i64 u6 fun v2 => decO σ 1 fun u7 => decAB 128 u7 fun v3 => k1 ⟨v0, v1, v2, v3⟩ | _ => none)) else none
theorem dL_config_frames_4_spec {α : Type} {kn : S_config_frames_4 → R α} {k0 : X_config_frames_4_0 → R α} {k1 : X_config_frames_4_1 → R α} {x : SX} {env : Env} {σ : Heap} {r : α} (h : dL_config_frames_4 kn k0 k1 x env σ = some r) : (x = .norm ∧ ∃ s, (∀ t v, getE (E_config_frames_4 s) t = some v → Ids (· < 2) v ∧ getE env t = some v) ∧ (∀ y ∈ enumO 0 (OS_config_frames_4 s), σ.get y.1 = some y.2) ∧ kn s = some r) ∨ (x = .ret ∧ ∃ s, (∀ t v, getE (EX_config_frames_4_0 s) t = some v → Ids (· < 2) v ∧ getE env t = some v) ∧ (∀ y ∈ enumO 0 (OX_config_frames_4_0 s), σ.get y.1 = some y.2) ∧ k0 s = some r) ∨ (x = (.exit 0) ∧ ∃ s, (∀ t v, getE (EX_config_frames_4_1 s) t = some v → Ids (· < 2) v ∧ getE env t = some v) ∧ (∀ y ∈ enumO 0 (OX_config_frames_4_1 s), σ.get y.1 = some y.2) ∧ k1 s = some r) := by
  unfold dL_config_frames_4 at h
  split at h
  · skip
    obtain ⟨w1, w2, w3⟩ := decT_spec h
    obtain ⟨rfl, w4⟩ := decP_spec w3
    obtain ⟨w5, w6, w7⟩ := decT_spec w4
    obtain ⟨rfl, w8⟩ := decFn_spec w7
    obtain ⟨w9, w10, w11⟩ := decT_spec w8
    obtain ⟨v0, rfl, w12⟩ := decV_st_sl_int_i64_str_int_u64_str_spec w11
    obtain ⟨w13, w14, w15⟩ := decT_spec w12
    obtain ⟨v1, rfl, w16⟩ := decI_spec w15
    obtain ⟨w17, w18, w19⟩ := decT_spec w16
    obtain ⟨v2, rfl, w20⟩ := decI_spec w19
    obtain ⟨w21, w22, w23⟩ := decO_spec w20
    split at w23 <;> try (cases w23; done)
    obtain ⟨v3, rfl, w24⟩ := decV_st_sl_int_i64_str_int_u64_str_spec w23
    obtain ⟨v4, rfl, w25⟩ := decI_spec w24
    obtain ⟨v5, rfl, w26⟩ := decV_int_i64_spec w25
    obtain ⟨w27, w28, w29⟩ := decO_spec w26
    obtain ⟨v6, rfl, w30⟩ := decAB_spec w29
    exact .inl (⟨rfl, ⟨v0, v1, v2, v3, v4, v5, v6⟩, env_all ⟨⟨by simp [Ids, Idss], w2⟩, ⟨by simp [Ids, Idss], w6⟩, ⟨by simp [Ids, Idss], w10⟩, ⟨by simp [Ids, Idss], w14⟩, ⟨by simp [Ids, Idss], w18⟩, trivial⟩, enum_all ⟨w22, w28, trivial⟩, w30⟩)
  · skip
    obtain ⟨w1, w2, w3⟩ := decT_spec h
    obtain ⟨v0, rfl, w4⟩ := decI_spec w3
    obtain ⟨w5, w6, w7⟩ := decT_spec w4
    obtain ⟨v1, rfl, w8⟩ := decB_spec w7
    obtain ⟨w9, w10, w11⟩ := decO_spec w8
    split at w11 <;> try (cases w11; done)
    obtain ⟨v2, rfl, w12⟩ := decV_st_sl_int_i64_str_int_u64_str_spec w11
    obtain ⟨v3, rfl, w13⟩ := decI_spec w12
    obtain ⟨v4, rfl, w14⟩ := decV_int_i64_spec w13
    obtain ⟨w15, w16, w17⟩ := decO_spec w14
    obtain ⟨v5, rfl, w18⟩ := decAB_spec w17
    exact .inr (.inl (⟨rfl, ⟨v0, v1, v2, v3, v4, v5⟩, env_all ⟨⟨by simp [Ids, Idss], w2⟩, ⟨by simp [Ids, Idss], w6⟩, trivial⟩, enum_all ⟨w10, w16, trivial⟩, w18⟩))
  · rename_i i
    cases hi1 : Nat.beq i 0 <;> rw [hi1] at h <;> simp only [cond_true, cond_false] at h
    case true =>
      have e1 := Nat.eq_of_beq_eq_true hi1
      subst e1
      obtain ⟨w1, w2, w3⟩ := decT_spec h
      obtain ⟨rfl, w4⟩ := decP_spec w3
      obtain ⟨w5, w6, w7⟩ := decT_spec w4
      obtain ⟨rfl, w8⟩ := decFn_spec w7
      obtain ⟨w9, w10, w11⟩ := decO_spec w8
      split at w11 <;> try (cases w11; done)
      obtain ⟨v0, rfl, w12⟩ := decV_st_sl_int_i64_str_int_u64_str_spec w11
      obtain ⟨v1, rfl, w13⟩ := decI_spec w12
      obtain ⟨v2, rfl, w14⟩ := decV_int_i64_spec w13
      obtain ⟨w15, w16, w17⟩ := decO_spec w14
      obtain ⟨v3, rfl, w18⟩ := decAB_spec w17
      exact .inr (.inr ((⟨rfl, ⟨v0, v1, v2, v3⟩, env_all ⟨⟨by simp [Ids, Idss], w2⟩, ⟨by simp [Ids, Idss], w6⟩, trivial⟩, enum_all ⟨w10, w16, trivial⟩, w18⟩)))
    cases h
def b_config_frames_4 {α : Type} (L_config_frames_7 : SgL_config_frames_7 α) (s : S_config_frames_4) (kn : S_config_frames_4 → R α) (k0 : X_config_frames_4_0 → R α) (k1 : X_config_frames_4_1 → R α) : R α :=
  let b1 : Bool := (ltB s.v2 s.v1)
  cond b1 (
  cond (decide (0 ≤ s.v2) && decide (s.v2 < ((s.v0.2.2.1 : Nat) : Int))) (
  L_config_frames_7 ⟨s.v2, s.v0, s.v1, s.v2, (s.v0.2.2.2.2 (Int.toNat s.v2)).1, (((s.v0.2.2.2.2 (Int.toNat s.v2)).1.2.2.1 : Nat) : Int), 0, s.v3, s.v4, s.v5, s.v6, (s.v0.2.2.2.2 (Int.toNat s.v2)).1, (s.v0.2.2.2.2 (Int.toNat s.v2)).2.1, (s.v0.2.2.2.2 (Int.toNat s.v2)).2.2.1, (s.v0.2.2.2.2 (Int.toNat s.v2)).2.2.2.1⟩ (fun x2 =>
  k0 ⟨x2.v0, x2.v1, x2.v2, x2.v3, x2.v4, x2.v5⟩) (fun x3 =>
  let t4 : Int := (IntKind.i64.wrap (x3.v2 + 1))
  kn ⟨x3.v0, x3.v1, t4, x3.v3, x3.v4, x3.v5, x3.v6⟩) (fun x5 =>
  let t6 : Int := (IntKind.i64.wrap (x5.v2 + 1))
  kn ⟨x5.v0, x5.v1, t6, x5.v3, x5.v4, x5.v5, x5.v6⟩)) none) (
  k1 ⟨s.v3, s.v4, s.v5, s.v6⟩)
def Lf_config_frames_4 {α : Type} (L : SgL_config_frames_4 α) : LF α := fun env σ k => bif allB (fun b => Nat.blt b σ.next) [0, 1] then (decT env 1 fun u1 => decP 0 u1 <| decT env 5 fun u2 => decFn 26 1 u2 <| decT env 14 fun u3 => decV_st_sl_int_i64_str_int_u64_str u3 fun v0 => decT env 15 fun u4 => decI .i64 u4 fun v1 => decT env 16 fun u5 => decI .i64 u5 fun v2 => decO σ 0 fun u6 => (match u6 with | .agg [u7, u8, u9] => decV_st_sl_int_i64_str_int_u64_str u7 fun v3 => decI .i64 u8 fun v4 => decV_int_i64 u9 fun v5 => decO σ 1 fun u10 => decAB 128 u10 fun v6 => L ⟨v0, v1, v2, v3, v4, v5, v6⟩ (fun x => k .ret [(2, .int .i64 x.v0), (3, .bool x.v1)] ⟨σ.next, [(0, .cells none (.agg [(.vslc (.st [(.sl (.int .i64)), .str, (.int .u64), .str]) x.v2.1 x.v2.2.1 x.v2.2.2.1 x.v2.2.2.2.1 x.v2.2.2.2.2), (.int .i64 x.v3), (.vslc (.int .i64) x.v4.1 x.v4.2.1 x.v4.2.2.1 x.v4.2.2.2.1 x.v4.2.2.2.2)])), (1, .cells none (.bools 128 x.v5))] ++ σ.blocks⟩) (fun x => k (.exit 0) [(1, .ptr 0 []), (5, .fn (.func 26) [] [.ptr 1 []])] ⟨σ.next, [(0, .cells none (.agg [(.vslc (.st [(.sl (.int .i64)), .str, (.int .u64), .str]) x.v0.1 x.v0.2.1 x.v0.2.2.1 x.v0.2.2.2.1 x.v0.2.2.2.2), (.int .i64 x.v1), (.vslc (.int .i64) x.v2.1 x.v2.2.1 x.v2.2.2.1 x.v2.2.2.2.1 x.v2.2.2.2.2)])), (1, .cells none (.bools 128 x.v3))] ++ σ.blocks⟩) | _ => none)) else none
structure S_config_frames_15 where
  v0 : (Bool × Addr × Nat × Nat × (Nat → Int))
  v1 : Int
  v2 : Int
  v3 : (Nat → Bool)
def E_config_frames_15 (s : S_config_frames_15) : Env := [(5, .fn (.func 26) [] [.ptr 0 []]), (49, .vslc (.int .i64) s.v0.1 s.v0.2.1 s.v0.2.2.1 s.v0.2.2.2.1 s.v0.2.2.2.2), (50, .int .i64 s.v1), (51, .int .i64 s.v2)]
def OS_config_frames_15 (s : S_config_frames_15) : List SObj := [.cells none (.bools 128 s.v3)]
structure X_config_frames_15_0 where
  v0 : Int
  v1 : Bool
  v2 : (Nat → Bool)
def EX_config_frames_15_0 (s : X_config_frames_15_0) : Env := [(2, .int .i64 s.v0), (3, .bool s.v1)]
def OX_config_frames_15_0 (s : X_config_frames_15_0) : List SObj := [.cells none (.bools 128 s.v2)]
structure X_config_frames_15_1 where
  v0 : (Nat → Bool)
def EX_config_frames_15_1 (s : X_config_frames_15_1) : Env := []
def OX_config_frames_15_1 (s : X_config_frames_15_1) : List SObj := [.cells none (.bools 128 s.v0)]
abbrev X_config_frames_15 := X_config_frames_15_0 ⊕ X_config_frames_15_1
def EX_config_frames_15 : X_config_frames_15 → Env
  | .inl x => EX_config_frames_15_0 x
  | .inr x => EX_config_frames_15_1 x
def OX_config_frames_15 : X_config_frames_15 → List SObj
  | .inl x => OX_config_frames_15_0 x
  | .inr x => OX_config_frames_15_1 x
def xx_config_frames_15 : X_config_frames_15 → SX
  | .inl _ => .ret
  | .inr _ => (.exit 4)
abbrev SgL_config_frames_15 (α : Type) := S_config_frames_15 → (X_config_frames_15_0 → R α) → (X_config_frames_15_1 → R α) → R α
def dL_config_frames_15 {α : Type} (kn : S_config_frames_15 → R α) (k0 : X_config_frames_15_0 → R α) (k1 : X_config_frames_15_1 → R α) : KC α := fun x env σ => match x with
  | .norm => decT env 5 fun u1 => decFn 26 0 u1 <| decT env 49 fun u2 => decV_int_i64 u2 fun v0 => decT env 50 fun u3 => decI .i64 u3 fun v1 => decT env 51 fun u4 => decI .i64 u4 fun v2 => decO σ 0 fun u5 => decAB 128 u5 fun v3 => kn ⟨v0, v1, v2, v3⟩
  | .ret => decT env 2 fun u1 => decI .i64 u1 fun v0 => decT env 3 fun u2 => decB u2 fun v1 => decO σ 0 fun u3 => decAB 128 u3 fun v2 => k0 ⟨v0, v1, v2⟩
  | .exit i => bif Nat.beq i 4 then (decO σ 0 fun u1 => decAB 128 u1 fun v0 => k1 ⟨v0⟩) else none
theorem dL_config_frames_15_spec {α : Type} {kn : S_config_frames_15 → R α} {k0 : X_config_frames_15_0 → R α} {k1 : X_config_frames_15_1 → R α} {x : SX} {env : Env} {σ : Heap} {r : α} (h : dL_config_frames_15 kn k0 k1 x env σ = some r) : (x = .norm ∧ ∃ s, (∀ t v, getE (E_config_frames_15 s) t = some v → Ids (· < 1) v ∧ getE env t = some v) ∧ (∀ y ∈ enumO 0 (OS_config_frames_15 s), σ.get y.1 = some y.2) ∧ kn s = some r) ∨ (x = .ret ∧ ∃ s, (∀ t v, getE (EX_config_frames_15_0 s) t = some v → Ids (· < 1) v ∧ getE env t = some v) ∧ (∀ y ∈ enumO 0 (OX_config_frames_15_0 s), σ.get y.1 = some y.2) ∧ k0 s = some r) ∨ (x = (.exit 4) ∧ ∃ s, (∀ t v, getE (EX_config_frames_15_1 s) t = some v → Ids (· < 1) v ∧ getE env t = some v) ∧ (∀ y ∈ enumO 0 (OX_config_frames_15_1 s), σ.get y.1 = some y.2) ∧ k1 s = some r) := by
  unfold dL_config_frames_15 at h
  split at h
  · skip
    obtain ⟨w1, w2, w3⟩ := decT_spec h
    obtain ⟨rfl, w4⟩ := decFn_spec w3
    obtain ⟨w5, w6, w7⟩ := decT_spec w4
    obtain ⟨v0, rfl, w8⟩ := decV_int_i64_spec w7
    obtain ⟨w9, w10, w11⟩ := decT_spec w8
    obtain ⟨v1, rfl, w12⟩ := decI_spec w11
    obtain ⟨w13, w14, w15⟩ := decT_spec w12
    obtain ⟨v2, rfl, w16⟩ := decI_spec w15
    obtain ⟨w17, w18, w19⟩ := decO_spec w16
    obtain ⟨v3, rfl, w20⟩ := decAB_spec w19
    exact .inl (⟨rfl, ⟨v0, v1, v2, v3⟩, env_all ⟨⟨by simp [Ids, Idss], w2⟩, ⟨by simp [Ids, Idss], w6⟩, ⟨by simp [Ids, Idss], w10⟩, ⟨by simp [Ids, Idss], w14⟩, trivial⟩, enum_all ⟨w18, trivial⟩, w20⟩)
  · skip
    obtain ⟨w1, w2, w3⟩ := decT_spec h
    obtain ⟨v0, rfl, w4⟩ := decI_spec w3
    obtain ⟨w5, w6, w7⟩ := decT_spec w4
    obtain ⟨v1, rfl, w8⟩ := decB_spec w7
    obtain ⟨w9, w10, w11⟩ := decO_spec w8
    obtain ⟨v2, rfl, w12⟩ := decAB_spec w11
    exact .inr (.inl (⟨rfl, ⟨v0, v1, v2⟩, env_all ⟨⟨by simp [Ids, Idss], w2⟩, ⟨by simp [Ids, Idss], w6⟩, trivial⟩, enum_all ⟨w10, trivial⟩, w12⟩))
  · rename_i i
    cases hi1 : Nat.beq i 4 <;> rw [hi1] at h <;> simp only [cond_true, cond_false] at h
    case true =>
      have e1 := Nat.eq_of_beq_eq_true hi1
      subst e1
      obtain ⟨w1, w2, w3⟩ := decO_spec h
      obtain ⟨v0, rfl, w4⟩ := decAB_spec w3
      exact .inr (.inr ((⟨rfl, ⟨v0⟩, (fun t v ht => by simp [EX_config_frames_15_1, getE] at ht), enum_all ⟨w2, trivial⟩, w4⟩)))
    cases h
def b_config_frames_15 {α : Type} (F_config_within : Sg_config_within α) (s : S_config_frames_15) (kn : S_config_frames_15 → R α) (k0 : X_config_frames_15_0 → R α) (k1 : X_config_frames_15_1 → R α) : R α :=
  let b1 : Bool := (ltB s.v2 s.v1)
  cond b1 (
  cond (decide (0 ≤ s.v2) && decide (s.v2 < ((s.v0.2.2.1 : Nat) : Int))) (
  F_config_within (s.v0.2.2.2.2 (Int.toNat s.v2)) 0 127 (fun r2 =>
  let b3 : Bool := (!r2)
  cond b3 (
  k0 ⟨0, false, s.v3⟩) (
  cond (decide (0 ≤ (s.v0.2.2.2.2 (Int.toNat s.v2))) && decide ((s.v0.2.2.2.2 (Int.toNat s.v2)) < 128)) (
  cond (decide ((Int.toNat (s.v0.2.2.2.2 (Int.toNat s.v2))) < 128)) (
  cond (s.v3 (Int.toNat (s.v0.2.2.2.2 (Int.toNat s.v2)))) (
  k0 ⟨0, false, s.v3⟩) (
  cond (decide (0 ≤ (s.v0.2.2.2.2 (Int.toNat s.v2))) && decide ((s.v0.2.2.2.2 (Int.toNat s.v2)) < 128)) (
  cond (decide ((Int.toNat (s.v0.2.2.2.2 (Int.toNat s.v2))) < 128)) (
  let t4 : Int := (IntKind.i64.wrap (s.v2 + 1))
  kn ⟨s.v0, s.v1, t4, (upd s.v3 (Int.toNat (s.v0.2.2.2.2 (Int.toNat s.v2))) true)⟩) none) none)) none) none))) none) (
  k1 ⟨s.v3⟩)
def Lf_config_frames_15 {α : Type} (L : SgL_config_frames_15 α) : LF α := fun env σ k => bif allB (fun b => Nat.blt b σ.next) [1] then (decT env 5 fun u1 => decFn 26 1 u1 <| decT env 49 fun u2 => decV_int_i64 u2 fun v0 => decT env 50 fun u3 => decI .i64 u3 fun v1 => decT env 51 fun u4 => decI .i64 u4 fun v2 => decO σ 1 fun u5 => decAB 128 u5 fun v3 => L ⟨v0, v1, v2, v3⟩ (fun x => k .ret [(2, .int .i64 x.v0), (3, .bool x.v1)] ⟨σ.next, [(1, .cells none (.bools 128 x.v2))] ++ σ.blocks⟩) (fun x => k (.exit 4) [] ⟨σ.next, [(1, .cells none (.bools 128 x.v0))] ++ σ.blocks⟩)) else none
abbrev Sg_config_frames (α : Type) := GConfig → (Int → Bool → R α) → R α
def ad_config_frames {α : Type} (F : Sg_config_frames α) : FP α := fun args k => match args with
  | [a0] => GConfig.dec a0 fun x0 => F x0 (fun r0 r1 => k (.tuple [(.int .i64 r0), (.bool r1)]))
  | _ => none
def dR_config_frames {α : Type} (v : SV) (k : Int → Bool → R α) : R α := match v with
  | .tuple [a0, a1] => decI .i64 a0 fun x0 => decB a1 fun x1 => k x0 x1
  | _ => none
theorem dR_config_frames_spec {α : Type} {v : SV} {k : Int → Bool → R α} {r : α} (h : dR_config_frames v k = some r) : ∃ x0 x1, v = (.tuple [(.int .i64 x0), (.bool x1)]) ∧ k x0 x1 = some r := by
  unfold dR_config_frames at h
  split at h <;> try (cases h; done)
  obtain ⟨x0, rfl, h0⟩ := decI_spec h
  obtain ⟨x1, rfl, h1⟩ := decB_spec h0
  exact ⟨x0, x1, rfl, h1⟩
def p_config_frames {α : Type} (L_config_frames_4 : SgL_config_frames_4 α) (L_config_frames_15 : SgL_config_frames_15 α) (x0 : GConfig) (k : Int → Bool → R α) : R α :=
  L_config_frames_4 ⟨x0.Guests, ((x0.Guests.2.2.1 : Nat) : Int), 0, x0.Guests, x0.Quantum, x0.Tables, (fun _ => false)⟩ (fun x1 =>
  k x1.v0 x1.v1) (fun x2 =>
  L_config_frames_15 ⟨x2.v2, ((x2.v2.2.2.1 : Nat) : Int), 0, x2.v3⟩ (fun x3 =>
  k x3.v0 x3.v1) (fun x4 =>
  k 0 true))
theorem le_config_frames {α : Type} {F F' : Sg_config_frames α} (h : ∀ x0 k r, F' x0 k = some r → F x0 k = some r) {args : List SV} {k : SV → R α} {r : α} (hk : ad_config_frames F' args k = some r) : ad_config_frames F args k = some r := by
  unfold ad_config_frames at hk
  split at hk <;> try (cases hk; done)
  obtain ⟨x0, rfl, hk0⟩ := GConfig.dec_spec hk
  have hkz := hk0
  exact h x0 _ _ hkz
abbrev Sg_config_Window (α : Type) := GGuest → (Int → R α) → R α
def ad_config_Window {α : Type} (F : Sg_config_Window α) : FP α := fun args k => match args with
  | [a0] => GGuest.dec a0 fun x0 => F x0 (fun r0 => k (.int .i64 r0))
  | _ => none
def dR_config_Window {α : Type} (a0 : SV) (k : Int → R α) : R α := decI .i64 a0 fun x0 => k x0
theorem dR_config_Window_spec {α : Type} {v : SV} {k : Int → R α} {r : α} (h : dR_config_Window v k = some r) : ∃ x0, v = (.int .i64 x0) ∧ k x0 = some r := by
  unfold dR_config_Window at h
  obtain ⟨x0, rfl, h0⟩ := decI_spec h
  exact ⟨x0, rfl, h0⟩
def p_config_Window {α : Type}  (x0 : GGuest) (k : Int → R α) : R α :=
  let t1 : Int := (IntKind.i64.wrap (256 * ((x0.Frames.2.2.1 : Nat) : Int)))
  k t1
theorem le_config_Window {α : Type} {F F' : Sg_config_Window α} (h : ∀ x0 k r, F' x0 k = some r → F x0 k = some r) {args : List SV} {k : SV → R α} {r : α} (hk : ad_config_Window F' args k = some r) : ad_config_Window F args k = some r := by
  unfold ad_config_Window at hk
  split at hk <;> try (cases hk; done)
  obtain ⟨x0, rfl, hk0⟩ := GGuest.dec_spec hk
  have hkz := hk0
  exact h x0 _ _ hkz
structure S_config_Check_4 where
  v0 : (Bool × Addr × Nat × Nat × (Nat → ((Bool × Addr × Nat × Nat × (Nat → Int)) × ByteArray × Int × ByteArray × Unit)))
  v1 : Int
  v2 : Int
  v3 : (Bool × Addr × Nat × Nat × (Nat → ((Bool × Addr × Nat × Nat × (Nat → Int)) × ByteArray × Int × ByteArray × Unit)))
  v4 : Int
  v5 : (Bool × Addr × Nat × Nat × (Nat → Int))
def E_config_Check_4 (s : S_config_Check_4) : Env := [(1, .ptr 0 []), (26, .vslc (.st [(.sl (.int .i64)), .str, (.int .u64), .str]) s.v0.1 s.v0.2.1 s.v0.2.2.1 s.v0.2.2.2.1 s.v0.2.2.2.2), (27, .int .i64 s.v1), (28, .int .i64 s.v2)]
def OS_config_Check_4 (s : S_config_Check_4) : List SObj := [.cells none (.agg [(.vslc (.st [(.sl (.int .i64)), .str, (.int .u64), .str]) s.v3.1 s.v3.2.1 s.v3.2.2.1 s.v3.2.2.2.1 s.v3.2.2.2.2), (.int .i64 s.v4), (.vslc (.int .i64) s.v5.1 s.v5.2.1 s.v5.2.2.1 s.v5.2.2.2.1 s.v5.2.2.2.2)])]
structure X_config_Check_4_0 where
  v0 : Int
  v1 : Int
  v2 : (Bool × Addr × Nat × Nat × (Nat → ((Bool × Addr × Nat × Nat × (Nat → Int)) × ByteArray × Int × ByteArray × Unit)))
  v3 : Int
  v4 : (Bool × Addr × Nat × Nat × (Nat → Int))
def EX_config_Check_4_0 (s : X_config_Check_4_0) : Env := [(2, .int .i64 s.v0), (3, .int .i64 s.v1)]
def OX_config_Check_4_0 (s : X_config_Check_4_0) : List SObj := [.cells none (.agg [(.vslc (.st [(.sl (.int .i64)), .str, (.int .u64), .str]) s.v2.1 s.v2.2.1 s.v2.2.2.1 s.v2.2.2.2.1 s.v2.2.2.2.2), (.int .i64 s.v3), (.vslc (.int .i64) s.v4.1 s.v4.2.1 s.v4.2.2.1 s.v4.2.2.2.1 s.v4.2.2.2.2)])]
structure X_config_Check_4_1 where
  v0 : (Bool × Addr × Nat × Nat × (Nat → ((Bool × Addr × Nat × Nat × (Nat → Int)) × ByteArray × Int × ByteArray × Unit)))
  v1 : Int
  v2 : (Bool × Addr × Nat × Nat × (Nat → Int))
def EX_config_Check_4_1 (s : X_config_Check_4_1) : Env := [(1, .ptr 0 [])]
def OX_config_Check_4_1 (s : X_config_Check_4_1) : List SObj := [.cells none (.agg [(.vslc (.st [(.sl (.int .i64)), .str, (.int .u64), .str]) s.v0.1 s.v0.2.1 s.v0.2.2.1 s.v0.2.2.2.1 s.v0.2.2.2.2), (.int .i64 s.v1), (.vslc (.int .i64) s.v2.1 s.v2.2.1 s.v2.2.2.1 s.v2.2.2.2.1 s.v2.2.2.2.2)])]
abbrev X_config_Check_4 := X_config_Check_4_0 ⊕ X_config_Check_4_1
def EX_config_Check_4 : X_config_Check_4 → Env
  | .inl x => EX_config_Check_4_0 x
  | .inr x => EX_config_Check_4_1 x
def OX_config_Check_4 : X_config_Check_4 → List SObj
  | .inl x => OX_config_Check_4_0 x
  | .inr x => OX_config_Check_4_1 x
def xx_config_Check_4 : X_config_Check_4 → SX
  | .inl _ => .ret
  | .inr _ => (.exit 0)
abbrev SgL_config_Check_4 (α : Type) := S_config_Check_4 → (X_config_Check_4_0 → R α) → (X_config_Check_4_1 → R α) → R α
def dL_config_Check_4 {α : Type} (kn : S_config_Check_4 → R α) (k0 : X_config_Check_4_0 → R α) (k1 : X_config_Check_4_1 → R α) : KC α := fun x env σ => match x with
  | .norm => decT env 1 fun u1 => decP 0 u1 <| decT env 26 fun u2 => decV_st_sl_int_i64_str_int_u64_str u2 fun v0 => decT env 27 fun u3 => decI .i64 u3 fun v1 => decT env 28 fun u4 => decI .i64 u4 fun v2 => decO σ 0 fun u5 => (match u5 with | .agg [u6, u7, u8] => decV_st_sl_int_i64_str_int_u64_str u6 fun v3 => decI .i64 u7 fun v4 => decV_int_i64 u8 fun v5 => kn ⟨v0, v1, v2, v3, v4, v5⟩ | _ => none)
  | .ret => decT env 2 fun u1 => decI .i64 u1 fun v0 => decT env 3 fun u2 => decI .i64 u2 fun v1 => decO σ 0 fun u3 => (match u3 with | .agg [u4, u5, u6] => decV_st_sl_int_i64_str_int_u64_str u4 fun v2 => decI .i64 u5 fun v3 => decV_int_i64 u6 fun v4 => k0 ⟨v0, v1, v2, v3, v4⟩ | _ => none)
  | .exit i => bif Nat.beq i 0 then (decT env 1 fun u1 => decP 0 u1 <| decO σ 0 fun u2 => (match u2 with | .agg [u3, u4, u5] => decV_st_sl_int_i64_str_int_u64_str u3 fun v0 => decI .i64 u4 fun v1 => decV_int_i64 u5 fun v2 => k1 ⟨v0, v1, v2⟩ | _ => none)) else none
theorem dL_config_Check_4_spec {α : Type} {kn : S_config_Check_4 → R α} {k0 : X_config_Check_4_0 → R α} {k1 : X_config_Check_4_1 → R α} {x : SX} {env : Env} {σ : Heap} {r : α} (h : dL_config_Check_4 kn k0 k1 x env σ = some r) : (x = .norm ∧ ∃ s, (∀ t v, getE (E_config_Check_4 s) t = some v → Ids (· < 1) v ∧ getE env t = some v) ∧ (∀ y ∈ enumO 0 (OS_config_Check_4 s), σ.get y.1 = some y.2) ∧ kn s = some r) ∨ (x = .ret ∧ ∃ s, (∀ t v, getE (EX_config_Check_4_0 s) t = some v → Ids (· < 1) v ∧ getE env t = some v) ∧ (∀ y ∈ enumO 0 (OX_config_Check_4_0 s), σ.get y.1 = some y.2) ∧ k0 s = some r) ∨ (x = (.exit 0) ∧ ∃ s, (∀ t v, getE (EX_config_Check_4_1 s) t = some v → Ids (· < 1) v ∧ getE env t = some v) ∧ (∀ y ∈ enumO 0 (OX_config_Check_4_1 s), σ.get y.1 = some y.2) ∧ k1 s = some r) := by
  unfold dL_config_Check_4 at h
  split at h
  · skip
    obtain ⟨w1, w2, w3⟩ := decT_spec h
    obtain ⟨rfl, w4⟩ := decP_spec w3
    obtain ⟨w5, w6, w7⟩ := decT_spec w4
    obtain ⟨v0, rfl, w8⟩ := decV_st_sl_int_i64_str_int_u64_str_spec w7
    obtain ⟨w9, w10, w11⟩ := decT_spec w8
    obtain ⟨v1, rfl, w12⟩ := decI_spec w11
    obtain ⟨w13, w14, w15⟩ := decT_spec w12
    obtain ⟨v2, rfl, w16⟩ := decI_spec w15
    obtain ⟨w17, w18, w19⟩ := decO_spec w16
    split at w19 <;> try (cases w19; done)
    obtain ⟨v3, rfl, w20⟩ := decV_st_sl_int_i64_str_int_u64_str_spec w19
    obtain ⟨v4, rfl, w21⟩ := decI_spec w20
    obtain ⟨v5, rfl, w22⟩ := decV_int_i64_spec w21
    exact .inl (⟨rfl, ⟨v0, v1, v2, v3, v4, v5⟩, env_all ⟨⟨by simp [Ids, Idss], w2⟩, ⟨by simp [Ids, Idss], w6⟩, ⟨by simp [Ids, Idss], w10⟩, ⟨by simp [Ids, Idss], w14⟩, trivial⟩, enum_all ⟨w18, trivial⟩, w22⟩)
  · skip
    obtain ⟨w1, w2, w3⟩ := decT_spec h
    obtain ⟨v0, rfl, w4⟩ := decI_spec w3
    obtain ⟨w5, w6, w7⟩ := decT_spec w4
    obtain ⟨v1, rfl, w8⟩ := decI_spec w7
    obtain ⟨w9, w10, w11⟩ := decO_spec w8
    split at w11 <;> try (cases w11; done)
    obtain ⟨v2, rfl, w12⟩ := decV_st_sl_int_i64_str_int_u64_str_spec w11
    obtain ⟨v3, rfl, w13⟩ := decI_spec w12
    obtain ⟨v4, rfl, w14⟩ := decV_int_i64_spec w13
    exact .inr (.inl (⟨rfl, ⟨v0, v1, v2, v3, v4⟩, env_all ⟨⟨by simp [Ids, Idss], w2⟩, ⟨by simp [Ids, Idss], w6⟩, trivial⟩, enum_all ⟨w10, trivial⟩, w14⟩))
  · rename_i i
    cases hi1 : Nat.beq i 0 <;> rw [hi1] at h <;> simp only [cond_true, cond_false] at h
    case true =>
      have e1 := Nat.eq_of_beq_eq_true hi1
      subst e1
      obtain ⟨w1, w2, w3⟩ := decT_spec h
      obtain ⟨rfl, w4⟩ := decP_spec w3
      obtain ⟨w5, w6, w7⟩ := decO_spec w4
      split at w7 <;> try (cases w7; done)
      obtain ⟨v0, rfl, w8⟩ := decV_st_sl_int_i64_str_int_u64_str_spec w7
      obtain ⟨v1, rfl, w9⟩ := decI_spec w8
      obtain ⟨v2, rfl, w10⟩ := decV_int_i64_spec w9
      exact .inr (.inr ((⟨rfl, ⟨v0, v1, v2⟩, env_all ⟨⟨by simp [Ids, Idss], w2⟩, trivial⟩, enum_all ⟨w6, trivial⟩, w10⟩)))
    cases h
def b_config_Check_4 {α : Type} (F_config_within : Sg_config_within α) (s : S_config_Check_4) (kn : S_config_Check_4 → R α) (k0 : X_config_Check_4_0 → R α) (k1 : X_config_Check_4_1 → R α) : R α :=
  let b1 : Bool := (ltB s.v2 s.v1)
  cond b1 (
  cond (decide (0 ≤ s.v2) && decide (s.v2 < ((s.v0.2.2.1 : Nat) : Int))) (
  F_config_within (((s.v0.2.2.2.2 (Int.toNat s.v2)).1.2.2.1 : Nat) : Int) 1 16 (fun r2 =>
  let b3 : Bool := (!r2)
  cond b3 (
  k0 ⟨s.v2, 240, s.v3, s.v4, s.v5⟩) (
  let t4 : Int := (IntKind.i64.wrap (s.v2 + 1))
  kn ⟨s.v0, s.v1, t4, s.v3, s.v4, s.v5⟩))) none) (
  k1 ⟨s.v3, s.v4, s.v5⟩)
def Lf_config_Check_4 {α : Type} (L : SgL_config_Check_4 α) : LF α := fun env σ k => bif allB (fun b => Nat.blt b σ.next) [0] then (decT env 1 fun u1 => decP 0 u1 <| decT env 26 fun u2 => decV_st_sl_int_i64_str_int_u64_str u2 fun v0 => decT env 27 fun u3 => decI .i64 u3 fun v1 => decT env 28 fun u4 => decI .i64 u4 fun v2 => decO σ 0 fun u5 => (match u5 with | .agg [u6, u7, u8] => decV_st_sl_int_i64_str_int_u64_str u6 fun v3 => decI .i64 u7 fun v4 => decV_int_i64 u8 fun v5 => L ⟨v0, v1, v2, v3, v4, v5⟩ (fun x => k .ret [(2, .int .i64 x.v0), (3, .int .i64 x.v1)] ⟨σ.next, [(0, .cells none (.agg [(.vslc (.st [(.sl (.int .i64)), .str, (.int .u64), .str]) x.v2.1 x.v2.2.1 x.v2.2.2.1 x.v2.2.2.2.1 x.v2.2.2.2.2), (.int .i64 x.v3), (.vslc (.int .i64) x.v4.1 x.v4.2.1 x.v4.2.2.1 x.v4.2.2.2.1 x.v4.2.2.2.2)]))] ++ σ.blocks⟩) (fun x => k (.exit 0) [(1, .ptr 0 [])] ⟨σ.next, [(0, .cells none (.agg [(.vslc (.st [(.sl (.int .i64)), .str, (.int .u64), .str]) x.v0.1 x.v0.2.1 x.v0.2.2.1 x.v0.2.2.2.1 x.v0.2.2.2.2), (.int .i64 x.v1), (.vslc (.int .i64) x.v2.1 x.v2.2.1 x.v2.2.2.1 x.v2.2.2.2.1 x.v2.2.2.2.2)]))] ++ σ.blocks⟩) | _ => none)) else none
structure S_config_Check_15 where
  v0 : (Bool × Addr × Nat × Nat × (Nat → ((Bool × Addr × Nat × Nat × (Nat → Int)) × ByteArray × Int × ByteArray × Unit)))
  v1 : Int
  v2 : Int
def E_config_Check_15 (s : S_config_Check_15) : Env := [(53, .vslc (.st [(.sl (.int .i64)), .str, (.int .u64), .str]) s.v0.1 s.v0.2.1 s.v0.2.2.1 s.v0.2.2.2.1 s.v0.2.2.2.2), (54, .int .i64 s.v1), (55, .int .i64 s.v2)]
def OS_config_Check_15 (s : S_config_Check_15) : List SObj := []
structure X_config_Check_15_0 where
  v0 : Int
  v1 : Int
def EX_config_Check_15_0 (s : X_config_Check_15_0) : Env := [(2, .int .i64 s.v0), (3, .int .i64 s.v1)]
def OX_config_Check_15_0 (s : X_config_Check_15_0) : List SObj := []
structure X_config_Check_15_1 where
  mk ::
def EX_config_Check_15_1 (s : X_config_Check_15_1) : Env := []
def OX_config_Check_15_1 (s : X_config_Check_15_1) : List SObj := []
abbrev X_config_Check_15 := X_config_Check_15_0 ⊕ X_config_Check_15_1
def EX_config_Check_15 : X_config_Check_15 → Env
  | .inl x => EX_config_Check_15_0 x
  | .inr x => EX_config_Check_15_1 x
def OX_config_Check_15 : X_config_Check_15 → List SObj
  | .inl x => OX_config_Check_15_0 x
  | .inr x => OX_config_Check_15_1 x
def xx_config_Check_15 : X_config_Check_15 → SX
  | .inl _ => .ret
  | .inr _ => (.exit 2)
abbrev SgL_config_Check_15 (α : Type) := S_config_Check_15 → (X_config_Check_15_0 → R α) → (X_config_Check_15_1 → R α) → R α
def dL_config_Check_15 {α : Type} (kn : S_config_Check_15 → R α) (k0 : X_config_Check_15_0 → R α) (k1 : X_config_Check_15_1 → R α) : KC α := fun x env σ => match x with
  | .norm => decT env 53 fun u1 => decV_st_sl_int_i64_str_int_u64_str u1 fun v0 => decT env 54 fun u2 => decI .i64 u2 fun v1 => decT env 55 fun u3 => decI .i64 u3 fun v2 => kn ⟨v0, v1, v2⟩
  | .ret => decT env 2 fun u1 => decI .i64 u1 fun v0 => decT env 3 fun u2 => decI .i64 u2 fun v1 => k0 ⟨v0, v1⟩
  | .exit i => bif Nat.beq i 2 then (k1 ⟨⟩) else none
theorem dL_config_Check_15_spec {α : Type} {kn : S_config_Check_15 → R α} {k0 : X_config_Check_15_0 → R α} {k1 : X_config_Check_15_1 → R α} {x : SX} {env : Env} {σ : Heap} {r : α} (h : dL_config_Check_15 kn k0 k1 x env σ = some r) : (x = .norm ∧ ∃ s, (∀ t v, getE (E_config_Check_15 s) t = some v → Ids (· < 0) v ∧ getE env t = some v) ∧ (∀ y ∈ enumO 0 (OS_config_Check_15 s), σ.get y.1 = some y.2) ∧ kn s = some r) ∨ (x = .ret ∧ ∃ s, (∀ t v, getE (EX_config_Check_15_0 s) t = some v → Ids (· < 0) v ∧ getE env t = some v) ∧ (∀ y ∈ enumO 0 (OX_config_Check_15_0 s), σ.get y.1 = some y.2) ∧ k0 s = some r) ∨ (x = (.exit 2) ∧ ∃ s, (∀ t v, getE (EX_config_Check_15_1 s) t = some v → Ids (· < 0) v ∧ getE env t = some v) ∧ (∀ y ∈ enumO 0 (OX_config_Check_15_1 s), σ.get y.1 = some y.2) ∧ k1 s = some r) := by
  unfold dL_config_Check_15 at h
  split at h
  · skip
    obtain ⟨w1, w2, w3⟩ := decT_spec h
    obtain ⟨v0, rfl, w4⟩ := decV_st_sl_int_i64_str_int_u64_str_spec w3
    obtain ⟨w5, w6, w7⟩ := decT_spec w4
    obtain ⟨v1, rfl, w8⟩ := decI_spec w7
    obtain ⟨w9, w10, w11⟩ := decT_spec w8
    obtain ⟨v2, rfl, w12⟩ := decI_spec w11
    exact .inl (⟨rfl, ⟨v0, v1, v2⟩, env_all ⟨⟨by simp [Ids, Idss], w2⟩, ⟨by simp [Ids, Idss], w6⟩, ⟨by simp [Ids, Idss], w10⟩, trivial⟩, enum_all trivial, w12⟩)
  · skip
    obtain ⟨w1, w2, w3⟩ := decT_spec h
    obtain ⟨v0, rfl, w4⟩ := decI_spec w3
    obtain ⟨w5, w6, w7⟩ := decT_spec w4
    obtain ⟨v1, rfl, w8⟩ := decI_spec w7
    exact .inr (.inl (⟨rfl, ⟨v0, v1⟩, env_all ⟨⟨by simp [Ids, Idss], w2⟩, ⟨by simp [Ids, Idss], w6⟩, trivial⟩, enum_all trivial, w8⟩))
  · rename_i i
    cases hi1 : Nat.beq i 2 <;> rw [hi1] at h <;> simp only [cond_true, cond_false] at h
    case true =>
      have e1 := Nat.eq_of_beq_eq_true hi1
      subst e1
      exact .inr (.inr ((⟨rfl, ⟨⟩, (fun t v ht => by simp [EX_config_Check_15_1, getE] at ht), enum_all trivial, h⟩)))
    cases h
def b_config_Check_15 {α : Type} (F_config_Window : Sg_config_Window α) (s : S_config_Check_15) (kn : S_config_Check_15 → R α) (k0 : X_config_Check_15_0 → R α) (k1 : X_config_Check_15_1 → R α) : R α :=
  let b1 : Bool := (ltB s.v2 s.v1)
  cond b1 (
  cond (decide (0 ≤ s.v2) && decide (s.v2 < ((s.v0.2.2.1 : Nat) : Int))) (
  let t2 : Int := ((ByteArray.size (s.v0.2.2.2.2 (Int.toNat s.v2)).2.1 : Nat) : Int)
  F_config_Window (GGuest.mk (s.v0.2.2.2.2 (Int.toNat s.v2)).1 (s.v0.2.2.2.2 (Int.toNat s.v2)).2.1 (s.v0.2.2.2.2 (Int.toNat s.v2)).2.2.1 (s.v0.2.2.2.2 (Int.toNat s.v2)).2.2.2.1) (fun r3 =>
  let b4 : Bool := (ltB r3 t2)
  cond b4 (
  k0 ⟨s.v2, 242⟩) (
  let t5 : Int := (Int.tmod (s.v0.2.2.2.2 (Int.toNat s.v2)).2.2.1 4)
  let b6 : Bool := (t5 != 0)
  cond b6 (
  k0 ⟨s.v2, 242⟩) (
  F_config_Window (GGuest.mk (s.v0.2.2.2.2 (Int.toNat s.v2)).1 (s.v0.2.2.2.2 (Int.toNat s.v2)).2.1 (s.v0.2.2.2.2 (Int.toNat s.v2)).2.2.1 (s.v0.2.2.2.2 (Int.toNat s.v2)).2.2.2.1) (fun r7 =>
  let t8 : Int := (IntKind.u64.wrap r7)
  let b9 : Bool := (leB t8 (s.v0.2.2.2.2 (Int.toNat s.v2)).2.2.1)
  cond b9 (
  k0 ⟨s.v2, 242⟩) (
  let t10 : Int := ((ByteArray.size (s.v0.2.2.2.2 (Int.toNat s.v2)).2.2.2.1 : Nat) : Int)
  let b11 : Bool := (ltB 64 t10)
  cond b11 (
  k0 ⟨s.v2, 242⟩) (
  let t12 : Int := (IntKind.i64.wrap (s.v2 + 1))
  kn ⟨s.v0, s.v1, t12⟩))))))) none) (
  k1 ⟨⟩)
def Lf_config_Check_15 {α : Type} (L : SgL_config_Check_15 α) : LF α := fun env σ k => bif allB (fun b => Nat.blt b σ.next) [] then (decT env 53 fun u1 => decV_st_sl_int_i64_str_int_u64_str u1 fun v0 => decT env 54 fun u2 => decI .i64 u2 fun v1 => decT env 55 fun u3 => decI .i64 u3 fun v2 => L ⟨v0, v1, v2⟩ (fun x => k .ret [(2, .int .i64 x.v0), (3, .int .i64 x.v1)] ⟨σ.next, [] ++ σ.blocks⟩) (fun x => k (.exit 2) [] ⟨σ.next, [] ++ σ.blocks⟩)) else none
abbrev Sg_config_Check (α : Type) := GConfig → (Int → Int → R α) → R α
def ad_config_Check {α : Type} (F : Sg_config_Check α) : FP α := fun args k => match args with
  | [a0] => GConfig.dec a0 fun x0 => F x0 (fun r0 r1 => k (.tuple [(.int .i64 r0), (.int .i64 r1)]))
  | _ => none
def dR_config_Check {α : Type} (v : SV) (k : Int → Int → R α) : R α := match v with
  | .tuple [a0, a1] => decI .i64 a0 fun x0 => decI .i64 a1 fun x1 => k x0 x1
  | _ => none
theorem dR_config_Check_spec {α : Type} {v : SV} {k : Int → Int → R α} {r : α} (h : dR_config_Check v k = some r) : ∃ x0 x1, v = (.tuple [(.int .i64 x0), (.int .i64 x1)]) ∧ k x0 x1 = some r := by
  unfold dR_config_Check at h
  split at h <;> try (cases h; done)
  obtain ⟨x0, rfl, h0⟩ := decI_spec h
  obtain ⟨x1, rfl, h1⟩ := decI_spec h0
  exact ⟨x0, x1, rfl, h1⟩
def p_config_Check {α : Type} (F_config_within : Sg_config_within α) (F_config_frames : Sg_config_frames α) (L_config_Check_4 : SgL_config_Check_4 α) (L_config_Check_15 : SgL_config_Check_15 α) (x0 : GConfig) (k : Int → Int → R α) : R α :=
  F_config_within ((x0.Guests.2.2.1 : Nat) : Int) 1 4 (fun r1 =>
  let b2 : Bool := (!r1)
  cond b2 (
  k 0 240) (
  let t3 : Int := (IntKind.i64.wrap (2 * ((x0.Guests.2.2.1 : Nat) : Int)))
  let b4 : Bool := (((x0.Tables.2.2.1 : Nat) : Int) != t3)
  cond b4 (
  k 0 240) (
  L_config_Check_4 ⟨x0.Guests, ((x0.Guests.2.2.1 : Nat) : Int), 0, x0.Guests, x0.Quantum, x0.Tables⟩ (fun x5 =>
  k x5.v0 x5.v1) (fun x6 =>
  F_config_within x6.v1 1 1000 (fun r7 =>
  let b8 : Bool := (!r7)
  cond b8 (
  k 0 243) (
  F_config_frames (GConfig.mk x6.v0 x6.v1 x6.v2) (fun r9 r10 =>
  let b11 : Bool := (!r10)
  cond b11 (
  k r9 241) (
  L_config_Check_15 ⟨x6.v0, ((x6.v0.2.2.1 : Nat) : Int), 0⟩ (fun x12 =>
  k x12.v0 x12.v1) (fun x13 =>
  k 0 0)))))))))
theorem le_config_Check {α : Type} {F F' : Sg_config_Check α} (h : ∀ x0 k r, F' x0 k = some r → F x0 k = some r) {args : List SV} {k : SV → R α} {r : α} (hk : ad_config_Check F' args k = some r) : ad_config_Check F args k = some r := by
  unfold ad_config_Check at hk
  split at hk <;> try (cases hk; done)
  obtain ⟨x0, rfl, hk0⟩ := GConfig.dec_spec hk
  have hkz := hk0
  exact h x0 _ _ hkz
structure S_law24_ConfigApart_13 where
  v0 : Int
  v1 : Int
  v2 : (Bool × Addr × Nat × Nat × (Nat → ((Bool × Addr × Nat × Nat × (Nat → Int)) × ByteArray × Int × ByteArray × Unit)))
  v3 : Int
  v4 : (Bool × Addr × Nat × Nat × (Nat → Int))
  v5 : (Nat → Int)
def E_law24_ConfigApart_13 (s : S_law24_ConfigApart_13) : Env := [(1, .ptr 0 []), (5, .ptr 1 []), (6, .int .i64 s.v0), (7, .int .i64 s.v1)]
def OS_law24_ConfigApart_13 (s : S_law24_ConfigApart_13) : List SObj := [.cells none (.agg [(.vslc (.st [(.sl (.int .i64)), .str, (.int .u64), .str]) s.v2.1 s.v2.2.1 s.v2.2.2.1 s.v2.2.2.2.1 s.v2.2.2.2.2), (.int .i64 s.v3), (.vslc (.int .i64) s.v4.1 s.v4.2.1 s.v4.2.2.1 s.v4.2.2.2.1 s.v4.2.2.2.2)]), .cells none (.ints .i64 128 s.v5)]
structure X_law24_ConfigApart_13_0 where
  v0 : Bool
  v1 : (Bool × Addr × Nat × Nat × (Nat → ((Bool × Addr × Nat × Nat × (Nat → Int)) × ByteArray × Int × ByteArray × Unit)))
  v2 : Int
  v3 : (Bool × Addr × Nat × Nat × (Nat → Int))
  v4 : (Nat → Int)
def EX_law24_ConfigApart_13_0 (s : X_law24_ConfigApart_13_0) : Env := [(2, .bool s.v0)]
def OX_law24_ConfigApart_13_0 (s : X_law24_ConfigApart_13_0) : List SObj := [.cells none (.agg [(.vslc (.st [(.sl (.int .i64)), .str, (.int .u64), .str]) s.v1.1 s.v1.2.1 s.v1.2.2.1 s.v1.2.2.2.1 s.v1.2.2.2.2), (.int .i64 s.v2), (.vslc (.int .i64) s.v3.1 s.v3.2.1 s.v3.2.2.1 s.v3.2.2.2.1 s.v3.2.2.2.2)]), .cells none (.ints .i64 128 s.v4)]
structure X_law24_ConfigApart_13_1 where
  v0 : Int
  v1 : (Bool × Addr × Nat × Nat × (Nat → ((Bool × Addr × Nat × Nat × (Nat → Int)) × ByteArray × Int × ByteArray × Unit)))
  v2 : Int
  v3 : (Bool × Addr × Nat × Nat × (Nat → Int))
  v4 : (Nat → Int)
def EX_law24_ConfigApart_13_1 (s : X_law24_ConfigApart_13_1) : Env := [(1, .ptr 0 []), (5, .ptr 1 []), (6, .int .i64 s.v0)]
def OX_law24_ConfigApart_13_1 (s : X_law24_ConfigApart_13_1) : List SObj := [.cells none (.agg [(.vslc (.st [(.sl (.int .i64)), .str, (.int .u64), .str]) s.v1.1 s.v1.2.1 s.v1.2.2.1 s.v1.2.2.2.1 s.v1.2.2.2.2), (.int .i64 s.v2), (.vslc (.int .i64) s.v3.1 s.v3.2.1 s.v3.2.2.1 s.v3.2.2.2.1 s.v3.2.2.2.2)]), .cells none (.ints .i64 128 s.v4)]
abbrev X_law24_ConfigApart_13 := X_law24_ConfigApart_13_0 ⊕ X_law24_ConfigApart_13_1
def EX_law24_ConfigApart_13 : X_law24_ConfigApart_13 → Env
  | .inl x => EX_law24_ConfigApart_13_0 x
  | .inr x => EX_law24_ConfigApart_13_1 x
def OX_law24_ConfigApart_13 : X_law24_ConfigApart_13 → List SObj
  | .inl x => OX_law24_ConfigApart_13_0 x
  | .inr x => OX_law24_ConfigApart_13_1 x
def xx_law24_ConfigApart_13 : X_law24_ConfigApart_13 → SX
  | .inl _ => .ret
  | .inr _ => (.exit 2)
abbrev SgL_law24_ConfigApart_13 (α : Type) := S_law24_ConfigApart_13 → (X_law24_ConfigApart_13_0 → R α) → (X_law24_ConfigApart_13_1 → R α) → R α
def dL_law24_ConfigApart_13 {α : Type} (kn : S_law24_ConfigApart_13 → R α) (k0 : X_law24_ConfigApart_13_0 → R α) (k1 : X_law24_ConfigApart_13_1 → R α) : KC α := fun x env σ => match x with
  | .norm => decT env 1 fun u1 => decP 0 u1 <| decT env 5 fun u2 => decP 1 u2 <| decT env 6 fun u3 => decI .i64 u3 fun v0 => decT env 7 fun u4 => decI .i64 u4 fun v1 => decO σ 0 fun u5 => (match u5 with | .agg [u6, u7, u8] => decV_st_sl_int_i64_str_int_u64_str u6 fun v2 => decI .i64 u7 fun v3 => decV_int_i64 u8 fun v4 => decO σ 1 fun u9 => decA .i64 128 u9 fun v5 => kn ⟨v0, v1, v2, v3, v4, v5⟩ | _ => none)
  | .ret => decT env 2 fun u1 => decB u1 fun v0 => decO σ 0 fun u2 => (match u2 with | .agg [u3, u4, u5] => decV_st_sl_int_i64_str_int_u64_str u3 fun v1 => decI .i64 u4 fun v2 => decV_int_i64 u5 fun v3 => decO σ 1 fun u6 => decA .i64 128 u6 fun v4 => k0 ⟨v0, v1, v2, v3, v4⟩ | _ => none)
  | .exit i => bif Nat.beq i 2 then (decT env 1 fun u1 => decP 0 u1 <| decT env 5 fun u2 => decP 1 u2 <| decT env 6 fun u3 => decI .i64 u3 fun v0 => decO σ 0 fun u4 => (match u4 with | .agg [u5, u6, u7] => decV_st_sl_int_i64_str_int_u64_str u5 fun v1 => decI .i64 u6 fun v2 => decV_int_i64 u7 fun v3 => decO σ 1 fun u8 => decA .i64 128 u8 fun v4 => k1 ⟨v0, v1, v2, v3, v4⟩ | _ => none)) else none
theorem dL_law24_ConfigApart_13_spec {α : Type} {kn : S_law24_ConfigApart_13 → R α} {k0 : X_law24_ConfigApart_13_0 → R α} {k1 : X_law24_ConfigApart_13_1 → R α} {x : SX} {env : Env} {σ : Heap} {r : α} (h : dL_law24_ConfigApart_13 kn k0 k1 x env σ = some r) : (x = .norm ∧ ∃ s, (∀ t v, getE (E_law24_ConfigApart_13 s) t = some v → Ids (· < 2) v ∧ getE env t = some v) ∧ (∀ y ∈ enumO 0 (OS_law24_ConfigApart_13 s), σ.get y.1 = some y.2) ∧ kn s = some r) ∨ (x = .ret ∧ ∃ s, (∀ t v, getE (EX_law24_ConfigApart_13_0 s) t = some v → Ids (· < 2) v ∧ getE env t = some v) ∧ (∀ y ∈ enumO 0 (OX_law24_ConfigApart_13_0 s), σ.get y.1 = some y.2) ∧ k0 s = some r) ∨ (x = (.exit 2) ∧ ∃ s, (∀ t v, getE (EX_law24_ConfigApart_13_1 s) t = some v → Ids (· < 2) v ∧ getE env t = some v) ∧ (∀ y ∈ enumO 0 (OX_law24_ConfigApart_13_1 s), σ.get y.1 = some y.2) ∧ k1 s = some r) := by
  unfold dL_law24_ConfigApart_13 at h
  split at h
  · skip
    obtain ⟨w1, w2, w3⟩ := decT_spec h
    obtain ⟨rfl, w4⟩ := decP_spec w3
    obtain ⟨w5, w6, w7⟩ := decT_spec w4
    obtain ⟨rfl, w8⟩ := decP_spec w7
    obtain ⟨w9, w10, w11⟩ := decT_spec w8
    obtain ⟨v0, rfl, w12⟩ := decI_spec w11
    obtain ⟨w13, w14, w15⟩ := decT_spec w12
    obtain ⟨v1, rfl, w16⟩ := decI_spec w15
    obtain ⟨w17, w18, w19⟩ := decO_spec w16
    split at w19 <;> try (cases w19; done)
    obtain ⟨v2, rfl, w20⟩ := decV_st_sl_int_i64_str_int_u64_str_spec w19
    obtain ⟨v3, rfl, w21⟩ := decI_spec w20
    obtain ⟨v4, rfl, w22⟩ := decV_int_i64_spec w21
    obtain ⟨w23, w24, w25⟩ := decO_spec w22
    obtain ⟨v5, rfl, w26⟩ := decA_spec w25
    exact .inl (⟨rfl, ⟨v0, v1, v2, v3, v4, v5⟩, env_all ⟨⟨by simp [Ids, Idss], w2⟩, ⟨by simp [Ids, Idss], w6⟩, ⟨by simp [Ids, Idss], w10⟩, ⟨by simp [Ids, Idss], w14⟩, trivial⟩, enum_all ⟨w18, w24, trivial⟩, w26⟩)
  · skip
    obtain ⟨w1, w2, w3⟩ := decT_spec h
    obtain ⟨v0, rfl, w4⟩ := decB_spec w3
    obtain ⟨w5, w6, w7⟩ := decO_spec w4
    split at w7 <;> try (cases w7; done)
    obtain ⟨v1, rfl, w8⟩ := decV_st_sl_int_i64_str_int_u64_str_spec w7
    obtain ⟨v2, rfl, w9⟩ := decI_spec w8
    obtain ⟨v3, rfl, w10⟩ := decV_int_i64_spec w9
    obtain ⟨w11, w12, w13⟩ := decO_spec w10
    obtain ⟨v4, rfl, w14⟩ := decA_spec w13
    exact .inr (.inl (⟨rfl, ⟨v0, v1, v2, v3, v4⟩, env_all ⟨⟨by simp [Ids, Idss], w2⟩, trivial⟩, enum_all ⟨w6, w12, trivial⟩, w14⟩))
  · rename_i i
    cases hi1 : Nat.beq i 2 <;> rw [hi1] at h <;> simp only [cond_true, cond_false] at h
    case true =>
      have e1 := Nat.eq_of_beq_eq_true hi1
      subst e1
      obtain ⟨w1, w2, w3⟩ := decT_spec h
      obtain ⟨rfl, w4⟩ := decP_spec w3
      obtain ⟨w5, w6, w7⟩ := decT_spec w4
      obtain ⟨rfl, w8⟩ := decP_spec w7
      obtain ⟨w9, w10, w11⟩ := decT_spec w8
      obtain ⟨v0, rfl, w12⟩ := decI_spec w11
      obtain ⟨w13, w14, w15⟩ := decO_spec w12
      split at w15 <;> try (cases w15; done)
      obtain ⟨v1, rfl, w16⟩ := decV_st_sl_int_i64_str_int_u64_str_spec w15
      obtain ⟨v2, rfl, w17⟩ := decI_spec w16
      obtain ⟨v3, rfl, w18⟩ := decV_int_i64_spec w17
      obtain ⟨w19, w20, w21⟩ := decO_spec w18
      obtain ⟨v4, rfl, w22⟩ := decA_spec w21
      exact .inr (.inr ((⟨rfl, ⟨v0, v1, v2, v3, v4⟩, env_all ⟨⟨by simp [Ids, Idss], w2⟩, ⟨by simp [Ids, Idss], w6⟩, ⟨by simp [Ids, Idss], w10⟩, trivial⟩, enum_all ⟨w14, w20, trivial⟩, w22⟩)))
    cases h
def b_law24_ConfigApart_13 {α : Type}  (s : S_law24_ConfigApart_13) (kn : S_law24_ConfigApart_13 → R α) (k0 : X_law24_ConfigApart_13_0 → R α) (k1 : X_law24_ConfigApart_13_1 → R α) : R α :=
  cond (decide (0 ≤ s.v0) && decide (s.v0 < ((s.v2.2.2.1 : Nat) : Int))) (
  let b1 : Bool := (ltB s.v1 (((s.v2.2.2.2.2 (Int.toNat s.v0)).1.2.2.1 : Nat) : Int))
  cond b1 (
  cond (decide (0 ≤ s.v0) && decide (s.v0 < ((s.v2.2.2.1 : Nat) : Int))) (
  cond (decide (0 ≤ s.v1) && decide (s.v1 < (((s.v2.2.2.2.2 (Int.toNat s.v0)).1.2.2.1 : Nat) : Int))) (
  let b2 : Bool := (ltB ((s.v2.2.2.2.2 (Int.toNat s.v0)).1.2.2.2.2 (Int.toNat s.v1)) 0)
  cond b2 (
  k0 ⟨false, s.v2, s.v3, s.v4, s.v5⟩) (
  let b3 : Bool := (leB 128 ((s.v2.2.2.2.2 (Int.toNat s.v0)).1.2.2.2.2 (Int.toNat s.v1)))
  cond b3 (
  k0 ⟨false, s.v2, s.v3, s.v4, s.v5⟩) (
  cond (decide (0 ≤ ((s.v2.2.2.2.2 (Int.toNat s.v0)).1.2.2.2.2 (Int.toNat s.v1))) && decide (((s.v2.2.2.2.2 (Int.toNat s.v0)).1.2.2.2.2 (Int.toNat s.v1)) < 128)) (
  cond (decide ((Int.toNat ((s.v2.2.2.2.2 (Int.toNat s.v0)).1.2.2.2.2 (Int.toNat s.v1))) < 128)) (
  let b4 : Bool := ((s.v5 (Int.toNat ((s.v2.2.2.2.2 (Int.toNat s.v0)).1.2.2.2.2 (Int.toNat s.v1)))) != 0)
  cond b4 (
  k0 ⟨false, s.v2, s.v3, s.v4, s.v5⟩) (
  let t5 : Int := (IntKind.i64.wrap (s.v0 + 1))
  cond (decide (0 ≤ ((s.v2.2.2.2.2 (Int.toNat s.v0)).1.2.2.2.2 (Int.toNat s.v1))) && decide (((s.v2.2.2.2.2 (Int.toNat s.v0)).1.2.2.2.2 (Int.toNat s.v1)) < 128)) (
  cond (decide ((Int.toNat ((s.v2.2.2.2.2 (Int.toNat s.v0)).1.2.2.2.2 (Int.toNat s.v1))) < 128)) (
  let t6 : Int := (IntKind.i64.wrap (s.v1 + 1))
  kn ⟨s.v0, t6, s.v2, s.v3, s.v4, (upd s.v5 (Int.toNat ((s.v2.2.2.2.2 (Int.toNat s.v0)).1.2.2.2.2 (Int.toNat s.v1))) t5)⟩) none) none)) none) none))) none) none) (
  k1 ⟨s.v0, s.v2, s.v3, s.v4, s.v5⟩)) none
def Lf_law24_ConfigApart_13 {α : Type} (L : SgL_law24_ConfigApart_13 α) : LF α := fun env σ k => bif allB (fun b => Nat.blt b σ.next) [0, 1] then (decT env 1 fun u1 => decP 0 u1 <| decT env 5 fun u2 => decP 1 u2 <| decT env 6 fun u3 => decI .i64 u3 fun v0 => decT env 7 fun u4 => decI .i64 u4 fun v1 => decO σ 0 fun u5 => (match u5 with | .agg [u6, u7, u8] => decV_st_sl_int_i64_str_int_u64_str u6 fun v2 => decI .i64 u7 fun v3 => decV_int_i64 u8 fun v4 => decO σ 1 fun u9 => decA .i64 128 u9 fun v5 => L ⟨v0, v1, v2, v3, v4, v5⟩ (fun x => k .ret [(2, .bool x.v0)] ⟨σ.next, [(0, .cells none (.agg [(.vslc (.st [(.sl (.int .i64)), .str, (.int .u64), .str]) x.v1.1 x.v1.2.1 x.v1.2.2.1 x.v1.2.2.2.1 x.v1.2.2.2.2), (.int .i64 x.v2), (.vslc (.int .i64) x.v3.1 x.v3.2.1 x.v3.2.2.1 x.v3.2.2.2.1 x.v3.2.2.2.2)])), (1, .cells none (.ints .i64 128 x.v4))] ++ σ.blocks⟩) (fun x => k (.exit 2) [(1, .ptr 0 []), (5, .ptr 1 []), (6, .int .i64 x.v0)] ⟨σ.next, [(0, .cells none (.agg [(.vslc (.st [(.sl (.int .i64)), .str, (.int .u64), .str]) x.v1.1 x.v1.2.1 x.v1.2.2.1 x.v1.2.2.2.1 x.v1.2.2.2.2), (.int .i64 x.v2), (.vslc (.int .i64) x.v3.1 x.v3.2.1 x.v3.2.2.1 x.v3.2.2.2.1 x.v3.2.2.2.2)])), (1, .cells none (.ints .i64 128 x.v4))] ++ σ.blocks⟩) | _ => none)) else none
structure S_law24_ConfigApart_10 where
  v0 : Int
  v1 : (Bool × Addr × Nat × Nat × (Nat → ((Bool × Addr × Nat × Nat × (Nat → Int)) × ByteArray × Int × ByteArray × Unit)))
  v2 : Int
  v3 : (Bool × Addr × Nat × Nat × (Nat → Int))
  v4 : (Nat → Int)
def E_law24_ConfigApart_10 (s : S_law24_ConfigApart_10) : Env := [(1, .ptr 0 []), (5, .ptr 1 []), (6, .int .i64 s.v0)]
def OS_law24_ConfigApart_10 (s : S_law24_ConfigApart_10) : List SObj := [.cells none (.agg [(.vslc (.st [(.sl (.int .i64)), .str, (.int .u64), .str]) s.v1.1 s.v1.2.1 s.v1.2.2.1 s.v1.2.2.2.1 s.v1.2.2.2.2), (.int .i64 s.v2), (.vslc (.int .i64) s.v3.1 s.v3.2.1 s.v3.2.2.1 s.v3.2.2.2.1 s.v3.2.2.2.2)]), .cells none (.ints .i64 128 s.v4)]
structure X_law24_ConfigApart_10_0 where
  v0 : Bool
  v1 : (Bool × Addr × Nat × Nat × (Nat → ((Bool × Addr × Nat × Nat × (Nat → Int)) × ByteArray × Int × ByteArray × Unit)))
  v2 : Int
  v3 : (Bool × Addr × Nat × Nat × (Nat → Int))
  v4 : (Nat → Int)
def EX_law24_ConfigApart_10_0 (s : X_law24_ConfigApart_10_0) : Env := [(2, .bool s.v0)]
def OX_law24_ConfigApart_10_0 (s : X_law24_ConfigApart_10_0) : List SObj := [.cells none (.agg [(.vslc (.st [(.sl (.int .i64)), .str, (.int .u64), .str]) s.v1.1 s.v1.2.1 s.v1.2.2.1 s.v1.2.2.2.1 s.v1.2.2.2.2), (.int .i64 s.v2), (.vslc (.int .i64) s.v3.1 s.v3.2.1 s.v3.2.2.1 s.v3.2.2.2.1 s.v3.2.2.2.2)]), .cells none (.ints .i64 128 s.v4)]
structure X_law24_ConfigApart_10_1 where
  v0 : (Bool × Addr × Nat × Nat × (Nat → ((Bool × Addr × Nat × Nat × (Nat → Int)) × ByteArray × Int × ByteArray × Unit)))
  v1 : Int
  v2 : (Bool × Addr × Nat × Nat × (Nat → Int))
  v3 : (Nat → Int)
def EX_law24_ConfigApart_10_1 (s : X_law24_ConfigApart_10_1) : Env := [(1, .ptr 0 []), (5, .ptr 1 [])]
def OX_law24_ConfigApart_10_1 (s : X_law24_ConfigApart_10_1) : List SObj := [.cells none (.agg [(.vslc (.st [(.sl (.int .i64)), .str, (.int .u64), .str]) s.v0.1 s.v0.2.1 s.v0.2.2.1 s.v0.2.2.2.1 s.v0.2.2.2.2), (.int .i64 s.v1), (.vslc (.int .i64) s.v2.1 s.v2.2.1 s.v2.2.2.1 s.v2.2.2.2.1 s.v2.2.2.2.2)]), .cells none (.ints .i64 128 s.v3)]
abbrev X_law24_ConfigApart_10 := X_law24_ConfigApart_10_0 ⊕ X_law24_ConfigApart_10_1
def EX_law24_ConfigApart_10 : X_law24_ConfigApart_10 → Env
  | .inl x => EX_law24_ConfigApart_10_0 x
  | .inr x => EX_law24_ConfigApart_10_1 x
def OX_law24_ConfigApart_10 : X_law24_ConfigApart_10 → List SObj
  | .inl x => OX_law24_ConfigApart_10_0 x
  | .inr x => OX_law24_ConfigApart_10_1 x
def xx_law24_ConfigApart_10 : X_law24_ConfigApart_10 → SX
  | .inl _ => .ret
  | .inr _ => (.exit 0)
abbrev SgL_law24_ConfigApart_10 (α : Type) := S_law24_ConfigApart_10 → (X_law24_ConfigApart_10_0 → R α) → (X_law24_ConfigApart_10_1 → R α) → R α
def dL_law24_ConfigApart_10 {α : Type} (kn : S_law24_ConfigApart_10 → R α) (k0 : X_law24_ConfigApart_10_0 → R α) (k1 : X_law24_ConfigApart_10_1 → R α) : KC α := fun x env σ => match x with
  | .norm => decT env 1 fun u1 => decP 0 u1 <| decT env 5 fun u2 => decP 1 u2 <| decT env 6 fun u3 => decI .i64 u3 fun v0 => decO σ 0 fun u4 => (match u4 with | .agg [u5, u6, u7] => decV_st_sl_int_i64_str_int_u64_str u5 fun v1 => decI .i64 u6 fun v2 => decV_int_i64 u7 fun v3 => decO σ 1 fun u8 => decA .i64 128 u8 fun v4 => kn ⟨v0, v1, v2, v3, v4⟩ | _ => none)
  | .ret => decT env 2 fun u1 => decB u1 fun v0 => decO σ 0 fun u2 => (match u2 with | .agg [u3, u4, u5] => decV_st_sl_int_i64_str_int_u64_str u3 fun v1 => decI .i64 u4 fun v2 => decV_int_i64 u5 fun v3 => decO σ 1 fun u6 => decA .i64 128 u6 fun v4 => k0 ⟨v0, v1, v2, v3, v4⟩ | _ => none)
  | .exit i => bif Nat.beq i 0 then (decT env 1 fun u1 => decP 0 u1 <| decT env 5 fun u2 => decP 1 u2 <| decO σ 0 fun u3 => (match u3 with | .agg [u4, u5, u6] => decV_st_sl_int_i64_str_int_u64_str u4 fun v0 => decI .i64 u5 fun v1 => decV_int_i64 u6 fun v2 => decO σ 1 fun u7 => decA .i64 128 u7 fun v3 => k1 ⟨v0, v1, v2, v3⟩ | _ => none)) else none
theorem dL_law24_ConfigApart_10_spec {α : Type} {kn : S_law24_ConfigApart_10 → R α} {k0 : X_law24_ConfigApart_10_0 → R α} {k1 : X_law24_ConfigApart_10_1 → R α} {x : SX} {env : Env} {σ : Heap} {r : α} (h : dL_law24_ConfigApart_10 kn k0 k1 x env σ = some r) : (x = .norm ∧ ∃ s, (∀ t v, getE (E_law24_ConfigApart_10 s) t = some v → Ids (· < 2) v ∧ getE env t = some v) ∧ (∀ y ∈ enumO 0 (OS_law24_ConfigApart_10 s), σ.get y.1 = some y.2) ∧ kn s = some r) ∨ (x = .ret ∧ ∃ s, (∀ t v, getE (EX_law24_ConfigApart_10_0 s) t = some v → Ids (· < 2) v ∧ getE env t = some v) ∧ (∀ y ∈ enumO 0 (OX_law24_ConfigApart_10_0 s), σ.get y.1 = some y.2) ∧ k0 s = some r) ∨ (x = (.exit 0) ∧ ∃ s, (∀ t v, getE (EX_law24_ConfigApart_10_1 s) t = some v → Ids (· < 2) v ∧ getE env t = some v) ∧ (∀ y ∈ enumO 0 (OX_law24_ConfigApart_10_1 s), σ.get y.1 = some y.2) ∧ k1 s = some r) := by
  unfold dL_law24_ConfigApart_10 at h
  split at h
  · skip
    obtain ⟨w1, w2, w3⟩ := decT_spec h
    obtain ⟨rfl, w4⟩ := decP_spec w3
    obtain ⟨w5, w6, w7⟩ := decT_spec w4
    obtain ⟨rfl, w8⟩ := decP_spec w7
    obtain ⟨w9, w10, w11⟩ := decT_spec w8
    obtain ⟨v0, rfl, w12⟩ := decI_spec w11
    obtain ⟨w13, w14, w15⟩ := decO_spec w12
    split at w15 <;> try (cases w15; done)
    obtain ⟨v1, rfl, w16⟩ := decV_st_sl_int_i64_str_int_u64_str_spec w15
    obtain ⟨v2, rfl, w17⟩ := decI_spec w16
    obtain ⟨v3, rfl, w18⟩ := decV_int_i64_spec w17
    obtain ⟨w19, w20, w21⟩ := decO_spec w18
    obtain ⟨v4, rfl, w22⟩ := decA_spec w21
    exact .inl (⟨rfl, ⟨v0, v1, v2, v3, v4⟩, env_all ⟨⟨by simp [Ids, Idss], w2⟩, ⟨by simp [Ids, Idss], w6⟩, ⟨by simp [Ids, Idss], w10⟩, trivial⟩, enum_all ⟨w14, w20, trivial⟩, w22⟩)
  · skip
    obtain ⟨w1, w2, w3⟩ := decT_spec h
    obtain ⟨v0, rfl, w4⟩ := decB_spec w3
    obtain ⟨w5, w6, w7⟩ := decO_spec w4
    split at w7 <;> try (cases w7; done)
    obtain ⟨v1, rfl, w8⟩ := decV_st_sl_int_i64_str_int_u64_str_spec w7
    obtain ⟨v2, rfl, w9⟩ := decI_spec w8
    obtain ⟨v3, rfl, w10⟩ := decV_int_i64_spec w9
    obtain ⟨w11, w12, w13⟩ := decO_spec w10
    obtain ⟨v4, rfl, w14⟩ := decA_spec w13
    exact .inr (.inl (⟨rfl, ⟨v0, v1, v2, v3, v4⟩, env_all ⟨⟨by simp [Ids, Idss], w2⟩, trivial⟩, enum_all ⟨w6, w12, trivial⟩, w14⟩))
  · rename_i i
    cases hi1 : Nat.beq i 0 <;> rw [hi1] at h <;> simp only [cond_true, cond_false] at h
    case true =>
      have e1 := Nat.eq_of_beq_eq_true hi1
      subst e1
      obtain ⟨w1, w2, w3⟩ := decT_spec h
      obtain ⟨rfl, w4⟩ := decP_spec w3
      obtain ⟨w5, w6, w7⟩ := decT_spec w4
      obtain ⟨rfl, w8⟩ := decP_spec w7
      obtain ⟨w9, w10, w11⟩ := decO_spec w8
      split at w11 <;> try (cases w11; done)
      obtain ⟨v0, rfl, w12⟩ := decV_st_sl_int_i64_str_int_u64_str_spec w11
      obtain ⟨v1, rfl, w13⟩ := decI_spec w12
      obtain ⟨v2, rfl, w14⟩ := decV_int_i64_spec w13
      obtain ⟨w15, w16, w17⟩ := decO_spec w14
      obtain ⟨v3, rfl, w18⟩ := decA_spec w17
      exact .inr (.inr ((⟨rfl, ⟨v0, v1, v2, v3⟩, env_all ⟨⟨by simp [Ids, Idss], w2⟩, ⟨by simp [Ids, Idss], w6⟩, trivial⟩, enum_all ⟨w10, w16, trivial⟩, w18⟩)))
    cases h
def b_law24_ConfigApart_10 {α : Type} (F_config_Window : Sg_config_Window α) (L_law24_ConfigApart_13 : SgL_law24_ConfigApart_13 α) (s : S_law24_ConfigApart_10) (kn : S_law24_ConfigApart_10 → R α) (k0 : X_law24_ConfigApart_10_0 → R α) (k1 : X_law24_ConfigApart_10_1 → R α) : R α :=
  let b1 : Bool := (ltB s.v0 ((s.v1.2.2.1 : Nat) : Int))
  cond b1 (
  L_law24_ConfigApart_13 ⟨s.v0, 0, s.v1, s.v2, s.v3, s.v4⟩ (fun x2 =>
  k0 ⟨x2.v0, x2.v1, x2.v2, x2.v3, x2.v4⟩) (fun x3 =>
  cond (decide (0 ≤ x3.v0) && decide (x3.v0 < ((x3.v1.2.2.1 : Nat) : Int))) (
  let t4 : Int := ((ByteArray.size (x3.v1.2.2.2.2 (Int.toNat x3.v0)).2.1 : Nat) : Int)
  cond (decide (0 ≤ x3.v0) && decide (x3.v0 < ((x3.v1.2.2.1 : Nat) : Int))) (
  F_config_Window (GGuest.mk (x3.v1.2.2.2.2 (Int.toNat x3.v0)).1 (x3.v1.2.2.2.2 (Int.toNat x3.v0)).2.1 (x3.v1.2.2.2.2 (Int.toNat x3.v0)).2.2.1 (x3.v1.2.2.2.2 (Int.toNat x3.v0)).2.2.2.1) (fun r5 =>
  let b6 : Bool := (ltB r5 t4)
  cond b6 (
  k0 ⟨false, x3.v1, x3.v2, x3.v3, x3.v4⟩) (
  cond (decide (0 ≤ x3.v0) && decide (x3.v0 < ((x3.v1.2.2.1 : Nat) : Int))) (
  cond (decide (0 ≤ x3.v0) && decide (x3.v0 < ((x3.v1.2.2.1 : Nat) : Int))) (
  F_config_Window (GGuest.mk (x3.v1.2.2.2.2 (Int.toNat x3.v0)).1 (x3.v1.2.2.2.2 (Int.toNat x3.v0)).2.1 (x3.v1.2.2.2.2 (Int.toNat x3.v0)).2.2.1 (x3.v1.2.2.2.2 (Int.toNat x3.v0)).2.2.2.1) (fun r7 =>
  let t8 : Int := (IntKind.u64.wrap r7)
  let b9 : Bool := (leB t8 (x3.v1.2.2.2.2 (Int.toNat x3.v0)).2.2.1)
  cond b9 (
  k0 ⟨false, x3.v1, x3.v2, x3.v3, x3.v4⟩) (
  let t10 : Int := (IntKind.i64.wrap (x3.v0 + 1))
  kn ⟨t10, x3.v1, x3.v2, x3.v3, x3.v4⟩))) none) none))) none) none)) (
  k1 ⟨s.v1, s.v2, s.v3, s.v4⟩)
def Lf_law24_ConfigApart_10 {α : Type} (L : SgL_law24_ConfigApart_10 α) : LF α := fun env σ k => bif allB (fun b => Nat.blt b σ.next) [0, 1] then (decT env 1 fun u1 => decP 0 u1 <| decT env 5 fun u2 => decP 1 u2 <| decT env 6 fun u3 => decI .i64 u3 fun v0 => decO σ 0 fun u4 => (match u4 with | .agg [u5, u6, u7] => decV_st_sl_int_i64_str_int_u64_str u5 fun v1 => decI .i64 u6 fun v2 => decV_int_i64 u7 fun v3 => decO σ 1 fun u8 => decA .i64 128 u8 fun v4 => L ⟨v0, v1, v2, v3, v4⟩ (fun x => k .ret [(2, .bool x.v0)] ⟨σ.next, [(0, .cells none (.agg [(.vslc (.st [(.sl (.int .i64)), .str, (.int .u64), .str]) x.v1.1 x.v1.2.1 x.v1.2.2.1 x.v1.2.2.2.1 x.v1.2.2.2.2), (.int .i64 x.v2), (.vslc (.int .i64) x.v3.1 x.v3.2.1 x.v3.2.2.1 x.v3.2.2.2.1 x.v3.2.2.2.2)])), (1, .cells none (.ints .i64 128 x.v4))] ++ σ.blocks⟩) (fun x => k (.exit 0) [(1, .ptr 0 []), (5, .ptr 1 [])] ⟨σ.next, [(0, .cells none (.agg [(.vslc (.st [(.sl (.int .i64)), .str, (.int .u64), .str]) x.v0.1 x.v0.2.1 x.v0.2.2.1 x.v0.2.2.2.1 x.v0.2.2.2.2), (.int .i64 x.v1), (.vslc (.int .i64) x.v2.1 x.v2.2.1 x.v2.2.2.1 x.v2.2.2.2.1 x.v2.2.2.2.2)])), (1, .cells none (.ints .i64 128 x.v3))] ++ σ.blocks⟩) | _ => none)) else none
structure S_law24_ConfigApart_22 where
  v0 : Int
  v1 : (Bool × Addr × Nat × Nat × (Nat → ((Bool × Addr × Nat × Nat × (Nat → Int)) × ByteArray × Int × ByteArray × Unit)))
  v2 : Int
  v3 : (Bool × Addr × Nat × Nat × (Nat → Int))
  v4 : (Nat → Int)
def E_law24_ConfigApart_22 (s : S_law24_ConfigApart_22) : Env := [(1, .ptr 0 []), (5, .ptr 1 []), (9, .int .i64 s.v0)]
def OS_law24_ConfigApart_22 (s : S_law24_ConfigApart_22) : List SObj := [.cells none (.agg [(.vslc (.st [(.sl (.int .i64)), .str, (.int .u64), .str]) s.v1.1 s.v1.2.1 s.v1.2.2.1 s.v1.2.2.2.1 s.v1.2.2.2.2), (.int .i64 s.v2), (.vslc (.int .i64) s.v3.1 s.v3.2.1 s.v3.2.2.1 s.v3.2.2.2.1 s.v3.2.2.2.2)]), .cells none (.ints .i64 128 s.v4)]
structure X_law24_ConfigApart_22_0 where
  v0 : Bool
  v1 : (Bool × Addr × Nat × Nat × (Nat → ((Bool × Addr × Nat × Nat × (Nat → Int)) × ByteArray × Int × ByteArray × Unit)))
  v2 : Int
  v3 : (Bool × Addr × Nat × Nat × (Nat → Int))
  v4 : (Nat → Int)
def EX_law24_ConfigApart_22_0 (s : X_law24_ConfigApart_22_0) : Env := [(2, .bool s.v0)]
def OX_law24_ConfigApart_22_0 (s : X_law24_ConfigApart_22_0) : List SObj := [.cells none (.agg [(.vslc (.st [(.sl (.int .i64)), .str, (.int .u64), .str]) s.v1.1 s.v1.2.1 s.v1.2.2.1 s.v1.2.2.2.1 s.v1.2.2.2.2), (.int .i64 s.v2), (.vslc (.int .i64) s.v3.1 s.v3.2.1 s.v3.2.2.1 s.v3.2.2.2.1 s.v3.2.2.2.2)]), .cells none (.ints .i64 128 s.v4)]
structure X_law24_ConfigApart_22_1 where
  v0 : (Bool × Addr × Nat × Nat × (Nat → ((Bool × Addr × Nat × Nat × (Nat → Int)) × ByteArray × Int × ByteArray × Unit)))
  v1 : Int
  v2 : (Bool × Addr × Nat × Nat × (Nat → Int))
  v3 : (Nat → Int)
def EX_law24_ConfigApart_22_1 (s : X_law24_ConfigApart_22_1) : Env := [(1, .ptr 0 [])]
def OX_law24_ConfigApart_22_1 (s : X_law24_ConfigApart_22_1) : List SObj := [.cells none (.agg [(.vslc (.st [(.sl (.int .i64)), .str, (.int .u64), .str]) s.v0.1 s.v0.2.1 s.v0.2.2.1 s.v0.2.2.2.1 s.v0.2.2.2.2), (.int .i64 s.v1), (.vslc (.int .i64) s.v2.1 s.v2.2.1 s.v2.2.2.1 s.v2.2.2.2.1 s.v2.2.2.2.2)]), .cells none (.ints .i64 128 s.v3)]
abbrev X_law24_ConfigApart_22 := X_law24_ConfigApart_22_0 ⊕ X_law24_ConfigApart_22_1
def EX_law24_ConfigApart_22 : X_law24_ConfigApart_22 → Env
  | .inl x => EX_law24_ConfigApart_22_0 x
  | .inr x => EX_law24_ConfigApart_22_1 x
def OX_law24_ConfigApart_22 : X_law24_ConfigApart_22 → List SObj
  | .inl x => OX_law24_ConfigApart_22_0 x
  | .inr x => OX_law24_ConfigApart_22_1 x
def xx_law24_ConfigApart_22 : X_law24_ConfigApart_22 → SX
  | .inl _ => .ret
  | .inr _ => (.exit 4)
abbrev SgL_law24_ConfigApart_22 (α : Type) := S_law24_ConfigApart_22 → (X_law24_ConfigApart_22_0 → R α) → (X_law24_ConfigApart_22_1 → R α) → R α
def dL_law24_ConfigApart_22 {α : Type} (kn : S_law24_ConfigApart_22 → R α) (k0 : X_law24_ConfigApart_22_0 → R α) (k1 : X_law24_ConfigApart_22_1 → R α) : KC α := fun x env σ => match x with
  | .norm => decT env 1 fun u1 => decP 0 u1 <| decT env 5 fun u2 => decP 1 u2 <| decT env 9 fun u3 => decI .i64 u3 fun v0 => decO σ 0 fun u4 => (match u4 with | .agg [u5, u6, u7] => decV_st_sl_int_i64_str_int_u64_str u5 fun v1 => decI .i64 u6 fun v2 => decV_int_i64 u7 fun v3 => decO σ 1 fun u8 => decA .i64 128 u8 fun v4 => kn ⟨v0, v1, v2, v3, v4⟩ | _ => none)
  | .ret => decT env 2 fun u1 => decB u1 fun v0 => decO σ 0 fun u2 => (match u2 with | .agg [u3, u4, u5] => decV_st_sl_int_i64_str_int_u64_str u3 fun v1 => decI .i64 u4 fun v2 => decV_int_i64 u5 fun v3 => decO σ 1 fun u6 => decA .i64 128 u6 fun v4 => k0 ⟨v0, v1, v2, v3, v4⟩ | _ => none)
  | .exit i => bif Nat.beq i 4 then (decT env 1 fun u1 => decP 0 u1 <| decO σ 0 fun u2 => (match u2 with | .agg [u3, u4, u5] => decV_st_sl_int_i64_str_int_u64_str u3 fun v0 => decI .i64 u4 fun v1 => decV_int_i64 u5 fun v2 => decO σ 1 fun u6 => decA .i64 128 u6 fun v3 => k1 ⟨v0, v1, v2, v3⟩ | _ => none)) else none
theorem dL_law24_ConfigApart_22_spec {α : Type} {kn : S_law24_ConfigApart_22 → R α} {k0 : X_law24_ConfigApart_22_0 → R α} {k1 : X_law24_ConfigApart_22_1 → R α} {x : SX} {env : Env} {σ : Heap} {r : α} (h : dL_law24_ConfigApart_22 kn k0 k1 x env σ = some r) : (x = .norm ∧ ∃ s, (∀ t v, getE (E_law24_ConfigApart_22 s) t = some v → Ids (· < 2) v ∧ getE env t = some v) ∧ (∀ y ∈ enumO 0 (OS_law24_ConfigApart_22 s), σ.get y.1 = some y.2) ∧ kn s = some r) ∨ (x = .ret ∧ ∃ s, (∀ t v, getE (EX_law24_ConfigApart_22_0 s) t = some v → Ids (· < 2) v ∧ getE env t = some v) ∧ (∀ y ∈ enumO 0 (OX_law24_ConfigApart_22_0 s), σ.get y.1 = some y.2) ∧ k0 s = some r) ∨ (x = (.exit 4) ∧ ∃ s, (∀ t v, getE (EX_law24_ConfigApart_22_1 s) t = some v → Ids (· < 2) v ∧ getE env t = some v) ∧ (∀ y ∈ enumO 0 (OX_law24_ConfigApart_22_1 s), σ.get y.1 = some y.2) ∧ k1 s = some r) := by
  unfold dL_law24_ConfigApart_22 at h
  split at h
  · skip
    obtain ⟨w1, w2, w3⟩ := decT_spec h
    obtain ⟨rfl, w4⟩ := decP_spec w3
    obtain ⟨w5, w6, w7⟩ := decT_spec w4
    obtain ⟨rfl, w8⟩ := decP_spec w7
    obtain ⟨w9, w10, w11⟩ := decT_spec w8
    obtain ⟨v0, rfl, w12⟩ := decI_spec w11
    obtain ⟨w13, w14, w15⟩ := decO_spec w12
    split at w15 <;> try (cases w15; done)
    obtain ⟨v1, rfl, w16⟩ := decV_st_sl_int_i64_str_int_u64_str_spec w15
    obtain ⟨v2, rfl, w17⟩ := decI_spec w16
    obtain ⟨v3, rfl, w18⟩ := decV_int_i64_spec w17
    obtain ⟨w19, w20, w21⟩ := decO_spec w18
    obtain ⟨v4, rfl, w22⟩ := decA_spec w21
    exact .inl (⟨rfl, ⟨v0, v1, v2, v3, v4⟩, env_all ⟨⟨by simp [Ids, Idss], w2⟩, ⟨by simp [Ids, Idss], w6⟩, ⟨by simp [Ids, Idss], w10⟩, trivial⟩, enum_all ⟨w14, w20, trivial⟩, w22⟩)
  · skip
    obtain ⟨w1, w2, w3⟩ := decT_spec h
    obtain ⟨v0, rfl, w4⟩ := decB_spec w3
    obtain ⟨w5, w6, w7⟩ := decO_spec w4
    split at w7 <;> try (cases w7; done)
    obtain ⟨v1, rfl, w8⟩ := decV_st_sl_int_i64_str_int_u64_str_spec w7
    obtain ⟨v2, rfl, w9⟩ := decI_spec w8
    obtain ⟨v3, rfl, w10⟩ := decV_int_i64_spec w9
    obtain ⟨w11, w12, w13⟩ := decO_spec w10
    obtain ⟨v4, rfl, w14⟩ := decA_spec w13
    exact .inr (.inl (⟨rfl, ⟨v0, v1, v2, v3, v4⟩, env_all ⟨⟨by simp [Ids, Idss], w2⟩, trivial⟩, enum_all ⟨w6, w12, trivial⟩, w14⟩))
  · rename_i i
    cases hi1 : Nat.beq i 4 <;> rw [hi1] at h <;> simp only [cond_true, cond_false] at h
    case true =>
      have e1 := Nat.eq_of_beq_eq_true hi1
      subst e1
      obtain ⟨w1, w2, w3⟩ := decT_spec h
      obtain ⟨rfl, w4⟩ := decP_spec w3
      obtain ⟨w5, w6, w7⟩ := decO_spec w4
      split at w7 <;> try (cases w7; done)
      obtain ⟨v0, rfl, w8⟩ := decV_st_sl_int_i64_str_int_u64_str_spec w7
      obtain ⟨v1, rfl, w9⟩ := decI_spec w8
      obtain ⟨v2, rfl, w10⟩ := decV_int_i64_spec w9
      obtain ⟨w11, w12, w13⟩ := decO_spec w10
      obtain ⟨v3, rfl, w14⟩ := decA_spec w13
      exact .inr (.inr ((⟨rfl, ⟨v0, v1, v2, v3⟩, env_all ⟨⟨by simp [Ids, Idss], w2⟩, trivial⟩, enum_all ⟨w6, w12, trivial⟩, w14⟩)))
    cases h
def b_law24_ConfigApart_22 {α : Type}  (s : S_law24_ConfigApart_22) (kn : S_law24_ConfigApart_22 → R α) (k0 : X_law24_ConfigApart_22_0 → R α) (k1 : X_law24_ConfigApart_22_1 → R α) : R α :=
  let b1 : Bool := (ltB s.v0 ((s.v3.2.2.1 : Nat) : Int))
  cond b1 (
  cond (decide (0 ≤ s.v0) && decide (s.v0 < ((s.v3.2.2.1 : Nat) : Int))) (
  let b2 : Bool := (ltB (s.v3.2.2.2.2 (Int.toNat s.v0)) 0)
  cond b2 (
  k0 ⟨false, s.v1, s.v2, s.v3, s.v4⟩) (
  let b3 : Bool := (leB 128 (s.v3.2.2.2.2 (Int.toNat s.v0)))
  cond b3 (
  k0 ⟨false, s.v1, s.v2, s.v3, s.v4⟩) (
  cond (decide (0 ≤ (s.v3.2.2.2.2 (Int.toNat s.v0))) && decide ((s.v3.2.2.2.2 (Int.toNat s.v0)) < 128)) (
  cond (decide ((Int.toNat (s.v3.2.2.2.2 (Int.toNat s.v0))) < 128)) (
  let b4 : Bool := ((s.v4 (Int.toNat (s.v3.2.2.2.2 (Int.toNat s.v0)))) != 0)
  cond b4 (
  k0 ⟨false, s.v1, s.v2, s.v3, s.v4⟩) (
  cond (decide (0 ≤ (s.v3.2.2.2.2 (Int.toNat s.v0))) && decide ((s.v3.2.2.2.2 (Int.toNat s.v0)) < 128)) (
  cond (decide ((Int.toNat (s.v3.2.2.2.2 (Int.toNat s.v0))) < 128)) (
  let t5 : Int := (IntKind.i64.wrap (s.v0 + 1))
  kn ⟨t5, s.v1, s.v2, s.v3, (upd s.v4 (Int.toNat (s.v3.2.2.2.2 (Int.toNat s.v0))) 99)⟩) none) none)) none) none))) none) (
  k1 ⟨s.v1, s.v2, s.v3, s.v4⟩)
def Lf_law24_ConfigApart_22 {α : Type} (L : SgL_law24_ConfigApart_22 α) : LF α := fun env σ k => bif allB (fun b => Nat.blt b σ.next) [0, 1] then (decT env 1 fun u1 => decP 0 u1 <| decT env 5 fun u2 => decP 1 u2 <| decT env 9 fun u3 => decI .i64 u3 fun v0 => decO σ 0 fun u4 => (match u4 with | .agg [u5, u6, u7] => decV_st_sl_int_i64_str_int_u64_str u5 fun v1 => decI .i64 u6 fun v2 => decV_int_i64 u7 fun v3 => decO σ 1 fun u8 => decA .i64 128 u8 fun v4 => L ⟨v0, v1, v2, v3, v4⟩ (fun x => k .ret [(2, .bool x.v0)] ⟨σ.next, [(0, .cells none (.agg [(.vslc (.st [(.sl (.int .i64)), .str, (.int .u64), .str]) x.v1.1 x.v1.2.1 x.v1.2.2.1 x.v1.2.2.2.1 x.v1.2.2.2.2), (.int .i64 x.v2), (.vslc (.int .i64) x.v3.1 x.v3.2.1 x.v3.2.2.1 x.v3.2.2.2.1 x.v3.2.2.2.2)])), (1, .cells none (.ints .i64 128 x.v4))] ++ σ.blocks⟩) (fun x => k (.exit 4) [(1, .ptr 0 [])] ⟨σ.next, [(0, .cells none (.agg [(.vslc (.st [(.sl (.int .i64)), .str, (.int .u64), .str]) x.v0.1 x.v0.2.1 x.v0.2.2.1 x.v0.2.2.2.1 x.v0.2.2.2.2), (.int .i64 x.v1), (.vslc (.int .i64) x.v2.1 x.v2.2.1 x.v2.2.2.1 x.v2.2.2.2.1 x.v2.2.2.2.2)])), (1, .cells none (.ints .i64 128 x.v3))] ++ σ.blocks⟩) | _ => none)) else none
abbrev Sg_law24_ConfigApart (α : Type) := GConfig → (Bool → R α) → R α
def ad_law24_ConfigApart {α : Type} (F : Sg_law24_ConfigApart α) : FP α := fun args k => match args with
  | [a0] => GConfig.dec a0 fun x0 => F x0 (fun r0 => k (.bool r0))
  | _ => none
def dR_law24_ConfigApart {α : Type} (a0 : SV) (k : Bool → R α) : R α := decB a0 fun x0 => k x0
theorem dR_law24_ConfigApart_spec {α : Type} {v : SV} {k : Bool → R α} {r : α} (h : dR_law24_ConfigApart v k = some r) : ∃ x0, v = (.bool x0) ∧ k x0 = some r := by
  unfold dR_law24_ConfigApart at h
  obtain ⟨x0, rfl, h0⟩ := decB_spec h
  exact ⟨x0, rfl, h0⟩
def p_law24_ConfigApart {α : Type} (F_law24_known : Sg_law24_known α) (F_law24_few : Sg_law24_few α) (F_config_Check : Sg_config_Check α) (L_law24_ConfigApart_10 : SgL_law24_ConfigApart_10 α) (L_law24_ConfigApart_22 : SgL_law24_ConfigApart_22 α) (x0 : GConfig) (k : Bool → R α) : R α :=
  F_law24_known  (fun r1 =>
  let b2 : Bool := (!r1)
  cond b2 (
  k false) (
  F_law24_few x0 (fun r3 =>
  let b4 : Bool := (!r3)
  cond b4 (
  k true) (
  F_config_Check x0 (fun r5 r6 =>
  let b7 : Bool := (r6 != 0)
  cond b7 (
  k true) (
  L_law24_ConfigApart_10 ⟨0, x0.Guests, x0.Quantum, x0.Tables, (fun _ => 0)⟩ (fun x8 =>
  k x8.v0) (fun x9 =>
  L_law24_ConfigApart_22 ⟨0, x9.v0, x9.v1, x9.v2, x9.v3⟩ (fun x10 =>
  k x10.v0) (fun x11 =>
  let t12 : Int := (IntKind.i64.wrap (2 * ((x11.v0.2.2.1 : Nat) : Int)))
  let b13 : Bool := (((x11.v2.2.2.1 : Nat) : Int) == t12)
  cond b13 (
  let b14 : Bool := (leB 1 x11.v1)
  k b14) (
  k false)))))))))
theorem le_law24_ConfigApart {α : Type} {F F' : Sg_law24_ConfigApart α} (h : ∀ x0 k r, F' x0 k = some r → F x0 k = some r) {args : List SV} {k : SV → R α} {r : α} (hk : ad_law24_ConfigApart F' args k = some r) : ad_law24_ConfigApart F args k = some r := by
  unfold ad_law24_ConfigApart at hk
  split at hk <;> try (cases hk; done)
  obtain ⟨x0, rfl, hk0⟩ := GConfig.dec_spec hk
  have hkz := hk0
  exact h x0 _ _ hkz
end Go.Sh
