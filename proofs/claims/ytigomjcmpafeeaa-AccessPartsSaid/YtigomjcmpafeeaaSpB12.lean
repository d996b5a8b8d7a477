/-
  The two memories of chapter 12 (printed by wip/pr/pr.py): what the functions come to, told without the program.
-/
import Derived.Test.YtigomjcmpafeeaaSpP12
import Derived.Test.YtigomjcmpafeeaaSkC
set_option linter.unusedSimpArgs false
set_option linter.unusedVariables false
namespace Go.Sh
open Go
set_option linter.unusedVariables false

def decV_st_int_u64_int_u64 {α : Type} (v : SV) (k : (Bool × Addr × Nat × Nat × (Nat → (Int × Int × Unit))) → R α) : R α := match v with
  | .vslc (.st [(.int .u64), (.int .u64)]) nl a len cap f => k (nl, a, len, cap, f)
  | _ => none
theorem decV_st_int_u64_int_u64_spec {α : Type} {v : SV} {k : (Bool × Addr × Nat × Nat × (Nat → (Int × Int × Unit))) → R α} {r : α} (h : decV_st_int_u64_int_u64 v k = some r) : ∃ x : (Bool × Addr × Nat × Nat × (Nat → (Int × Int × Unit))), v = (.vslc (.st [(.int .u64), (.int .u64)]) x.1 x.2.1 x.2.2.1 x.2.2.2.1 x.2.2.2.2) ∧ k x = some r := by
  unfold decV_st_int_u64_int_u64 at h
  split at h <;> try (cases h; done)
  exact ⟨_, rfl, h⟩
abbrev Sg_mem_Memory_Write (α : Type) := (Nat → Int) → Int → Int → Int → ((Nat → Int) → Int → R α) → R α
def ad_mem_Memory_Write {α : Type} (F : Sg_mem_Memory_Write α) : FF α := fun args σ k => match args with
  | [a0, a1, a2, a3] => withMem σ a0 fun _ b1 _ g1 x0 => decI .u64 a1 fun x1 => decI .i64 a2 fun x2 => decI .u64 a3 fun x3 => F x0 x1 x2 x3 (fun fm r0 => k (.int .i64 r0) ⟨σ.next, [(b1, byO g1 fm)] ++ σ.blocks⟩)
  | _ => none
def dR_mem_Memory_Write {α : Type} (a0 : SV) (σ1 : Heap) (k : Option Nat → (Nat → Int) → Int → R α) : R α := bif keptX 2 1 σ1 then nowAt σ1 1 fun g fm => (decI .i64 a0 fun r0 => k g fm r0) else none
theorem le_mem_Memory_Write {α : Type} {F F' : Sg_mem_Memory_Write α} (h : ∀ x0 x1 x2 x3 k r, F' x0 x1 x2 x3 k = some r → F x0 x1 x2 x3 k = some r) {args : List SV} {σ : Heap} {k : SV → Heap → R α} {r : α} (hk : ad_mem_Memory_Write F' args σ k = some r) : ad_mem_Memory_Write F args σ k = some r := by
  unfold ad_mem_Memory_Write at hk
  split at hk <;> try (cases hk; done)
  obtain ⟨b, b1, g0, g1, x0, rfl, h0, h1, hne, hk0⟩ := withMem_spec hk
  obtain ⟨x1, rfl, hk1⟩ := decI_spec hk0
  obtain ⟨x2, rfl, hk2⟩ := decI_spec hk1
  obtain ⟨x3, rfl, hk3⟩ := decI_spec hk2
  have hkz := hk3
  unfold ad_mem_Memory_Write
  dsimp only
  rw [withMem_eq h0 h1 hne]
  exact h x0 x1 x2 x3 _ _ hkz
structure S_law12_both_3 where
  v0 : (Bool × Addr × Nat × Nat × (Nat → (Int × Int × Unit)))
  v1 : Int
  v2 : (Nat → Int)
  v3 : (Nat → Int)
def E_law12_both_3 (s : S_law12_both_3) : Env := [(0, .vslc (.st [(.int .u64), (.int .u64)]) s.v0.1 s.v0.2.1 s.v0.2.2.1 s.v0.2.2.2.1 s.v0.2.2.2.2), (2, .nilp), (3, .nilp), (4, .ptr 0 []), (5, .ptr 1 []), (6, .int .i64 s.v1)]
def OS_law12_both_3 (s : S_law12_both_3) : List SObj := [.cells none (.agg [(.slc 2 [] 1 0 32768 (some 32768))]), .cells none (.agg [(.slc 3 [] 1 0 32768 (some 32768))]), .cells none (.ints .u8 32768 s.v2), .cells none (.ints .u8 32768 s.v3)]
structure X_law12_both_3_0 where
  v0 : (Nat → Int)
  v1 : (Nat → Int)
def EX_law12_both_3_0 (s : X_law12_both_3_0) : Env := [(2, .nilp), (3, .nilp), (4, .ptr 0 []), (5, .ptr 1 [])]
def OX_law12_both_3_0 (s : X_law12_both_3_0) : List SObj := [.cells none (.agg [(.slc 2 [] 1 0 32768 (some 32768))]), .cells none (.agg [(.slc 3 [] 1 0 32768 (some 32768))]), .cells none (.ints .u8 32768 s.v0), .cells none (.ints .u8 32768 s.v1)]
abbrev X_law12_both_3 := X_law12_both_3_0
def EX_law12_both_3 (x : X_law12_both_3) : Env := EX_law12_both_3_0 x
def OX_law12_both_3 (x : X_law12_both_3) : List SObj := OX_law12_both_3_0 x
def xx_law12_both_3 (_ : X_law12_both_3) : SX := (.exit 0)
abbrev SgL_law12_both_3 (α : Type) := S_law12_both_3 → (X_law12_both_3_0 → R α) → R α
def dL_law12_both_3 {α : Type} (kn : S_law12_both_3 → R α) (k0 : X_law12_both_3_0 → R α) : KC α := fun x env σ => match x with
  | .norm => decT env 0 fun u1 => decV_st_int_u64_int_u64 u1 fun v0 => decT env 2 fun u2 => decN u2 <| decT env 3 fun u3 => decN u3 <| decT env 4 fun u4 => decP 0 u4 <| decT env 5 fun u5 => decP 1 u5 <| decT env 6 fun u6 => decI .i64 u6 fun v1 => decO σ 0 fun u7 => (match u7 with | .agg [u8] => decSl 2 1 0 32768 32768 u8 <| decO σ 1 fun u9 => (match u9 with | .agg [u10] => decSl 3 1 0 32768 32768 u10 <| decO σ 2 fun u11 => decA .u8 32768 u11 fun v2 => decO σ 3 fun u12 => decA .u8 32768 u12 fun v3 => kn ⟨v0, v1, v2, v3⟩ | _ => none) | _ => none)
  | .ret => none
  | .exit i => bif Nat.beq i 0 then (decT env 2 fun u1 => decN u1 <| decT env 3 fun u2 => decN u2 <| decT env 4 fun u3 => decP 0 u3 <| decT env 5 fun u4 => decP 1 u4 <| decO σ 0 fun u5 => (match u5 with | .agg [u6] => decSl 2 1 0 32768 32768 u6 <| decO σ 1 fun u7 => (match u7 with | .agg [u8] => decSl 3 1 0 32768 32768 u8 <| decO σ 2 fun u9 => decA .u8 32768 u9 fun v0 => decO σ 3 fun u10 => decA .u8 32768 u10 fun v1 => k0 ⟨v0, v1⟩ | _ => none) | _ => none)) else none
theorem dL_law12_both_3_spec {α : Type} {kn : S_law12_both_3 → R α} {k0 : X_law12_both_3_0 → R α} {x : SX} {env : Env} {σ : Heap} {r : α} (h : dL_law12_both_3 kn k0 x env σ = some r) : (x = .norm ∧ ∃ s, (∀ t v, getE (E_law12_both_3 s) t = some v → Ids (· < 4) v ∧ getE env t = some v) ∧ (∀ y ∈ enumO 0 (OS_law12_both_3 s), σ.get y.1 = some y.2) ∧ kn s = some r) ∨ (x = (.exit 0) ∧ ∃ s, (∀ t v, getE (EX_law12_both_3_0 s) t = some v → Ids (· < 4) v ∧ getE env t = some v) ∧ (∀ y ∈ enumO 0 (OX_law12_both_3_0 s), σ.get y.1 = some y.2) ∧ k0 s = some r) := by
  unfold dL_law12_both_3 at h
  split at h
  · skip
    obtain ⟨w1, w2, w3⟩ := decT_spec h
    obtain ⟨v0, rfl, w4⟩ := decV_st_int_u64_int_u64_spec w3
    obtain ⟨w5, w6, w7⟩ := decT_spec w4
    obtain ⟨rfl, w8⟩ := decN_spec w7
    obtain ⟨w9, w10, w11⟩ := decT_spec w8
    obtain ⟨rfl, w12⟩ := decN_spec w11
    obtain ⟨w13, w14, w15⟩ := decT_spec w12
    obtain ⟨rfl, w16⟩ := decP_spec w15
    obtain ⟨w17, w18, w19⟩ := decT_spec w16
    obtain ⟨rfl, w20⟩ := decP_spec w19
    obtain ⟨w21, w22, w23⟩ := decT_spec w20
    obtain ⟨v1, rfl, w24⟩ := decI_spec w23
    obtain ⟨w25, w26, w27⟩ := decO_spec w24
    split at w27 <;> try (cases w27; done)
    obtain ⟨rfl, w28⟩ := decSl_spec w27
    obtain ⟨w29, w30, w31⟩ := decO_spec w28
    split at w31 <;> try (cases w31; done)
    obtain ⟨rfl, w32⟩ := decSl_spec w31
    obtain ⟨w33, w34, w35⟩ := decO_spec w32
    obtain ⟨v2, rfl, w36⟩ := decA_spec w35
    obtain ⟨w37, w38, w39⟩ := decO_spec w36
    obtain ⟨v3, rfl, w40⟩ := decA_spec w39
    exact .inl (⟨rfl, ⟨v0, v1, v2, v3⟩, env_all ⟨⟨by simp [Ids, Idss], w2⟩, ⟨by simp [Ids, Idss], w6⟩, ⟨by simp [Ids, Idss], w10⟩, ⟨by simp [Ids, Idss], w14⟩, ⟨by simp [Ids, Idss], w18⟩, ⟨by simp [Ids, Idss], w22⟩, trivial⟩, enum_all ⟨w26, w30, w34, w38, trivial⟩, w40⟩)
  · cases h
  · rename_i i
    cases hi0 : Nat.beq i 0 <;> rw [hi0] at h <;> simp only [cond_true, cond_false] at h
    case true =>
      have e0 := Nat.eq_of_beq_eq_true hi0
      subst e0
      obtain ⟨w1, w2, w3⟩ := decT_spec h
      obtain ⟨rfl, w4⟩ := decN_spec w3
      obtain ⟨w5, w6, w7⟩ := decT_spec w4
      obtain ⟨rfl, w8⟩ := decN_spec w7
      obtain ⟨w9, w10, w11⟩ := decT_spec w8
      obtain ⟨rfl, w12⟩ := decP_spec w11
      obtain ⟨w13, w14, w15⟩ := decT_spec w12
      obtain ⟨rfl, w16⟩ := decP_spec w15
      obtain ⟨w17, w18, w19⟩ := decO_spec w16
      split at w19 <;> try (cases w19; done)
      obtain ⟨rfl, w20⟩ := decSl_spec w19
      obtain ⟨w21, w22, w23⟩ := decO_spec w20
      split at w23 <;> try (cases w23; done)
      obtain ⟨rfl, w24⟩ := decSl_spec w23
      obtain ⟨w25, w26, w27⟩ := decO_spec w24
      obtain ⟨v0, rfl, w28⟩ := decA_spec w27
      obtain ⟨w29, w30, w31⟩ := decO_spec w28
      obtain ⟨v1, rfl, w32⟩ := decA_spec w31
      exact .inr ((⟨rfl, ⟨v0, v1⟩, env_all ⟨⟨by simp [Ids, Idss], w2⟩, ⟨by simp [Ids, Idss], w6⟩, ⟨by simp [Ids, Idss], w10⟩, ⟨by simp [Ids, Idss], w14⟩, trivial⟩, enum_all ⟨w18, w22, w26, w30, trivial⟩, w32⟩))
    cases h
def b_law12_both_3 {α : Type} (F_ref1_Mem_Code : Sg_ref1_Mem_Code α) (F_mem_Memory_Write : Sg_mem_Memory_Write α) (F_ref1_Mem_Write : Sg_ref1_Mem_Write α) (s : S_law12_both_3) (kn : S_law12_both_3 → R α) (k0 : X_law12_both_3_0 → R α) : R α :=
  let b1 : Bool := (ltB s.v1 ((s.v0.2.2.1 : Nat) : Int))
  cond b1 (
  cond (decide (0 ≤ s.v1) && decide (s.v1 < ((s.v0.2.2.1 : Nat) : Int))) (
  F_ref1_Mem_Code s.v3 (s.v0.2.2.2.2 (Int.toNat s.v1)).1 8 (fun r2 =>
  let b3 : Bool := (r2 == 0)
  cond b3 (
  cond (decide (0 ≤ s.v1) && decide (s.v1 < ((s.v0.2.2.1 : Nat) : Int))) (
  cond (decide (0 ≤ s.v1) && decide (s.v1 < ((s.v0.2.2.1 : Nat) : Int))) (
  F_mem_Memory_Write s.v2 (s.v0.2.2.2.2 (Int.toNat s.v1)).1 8 (s.v0.2.2.2.2 (Int.toNat s.v1)).2.1 (fun f4 r5 =>
  cond (decide (0 ≤ s.v1) && decide (s.v1 < ((s.v0.2.2.1 : Nat) : Int))) (
  cond (decide (0 ≤ s.v1) && decide (s.v1 < ((s.v0.2.2.1 : Nat) : Int))) (
  F_ref1_Mem_Write s.v3 (s.v0.2.2.2.2 (Int.toNat s.v1)).1 8 (s.v0.2.2.2.2 (Int.toNat s.v1)).2.1 (fun f6 =>
  let t7 : Int := (IntKind.i64.wrap (s.v1 + 1))
  kn ⟨s.v0, t7, f4, f6⟩)) none) none)) none) none) (
  let t8 : Int := (IntKind.i64.wrap (s.v1 + 1))
  kn ⟨s.v0, t8, s.v2, s.v3⟩))) none) (
  k0 ⟨s.v2, s.v3⟩)
def Lf_law12_both_3 {α : Type} (L : SgL_law12_both_3 α) : LF α := fun env σ k => bif allB (fun b => Nat.blt b σ.next) [1, 3, 0, 2] then (decT env 0 fun u1 => decV_st_int_u64_int_u64 u1 fun v0 => decT env 2 fun u2 => decN u2 <| decT env 3 fun u3 => decN u3 <| decT env 4 fun u4 => decP 1 u4 <| decT env 5 fun u5 => decP 3 u5 <| decT env 6 fun u6 => decI .i64 u6 fun v1 => decO σ 1 fun u7 => (match u7 with | .agg [u8] => decSl 0 1 0 32768 32768 u8 <| decO σ 3 fun u9 => (match u9 with | .agg [u10] => decSl 2 1 0 32768 32768 u10 <| decO σ 0 fun u11 => decA .u8 32768 u11 fun v2 => decO σ 2 fun u12 => decA .u8 32768 u12 fun v3 => L ⟨v0, v1, v2, v3⟩ (fun x => k (.exit 0) [(2, .nilp), (3, .nilp), (4, .ptr 1 []), (5, .ptr 3 [])] ⟨σ.next, [(1, .cells none (.agg [(.slc 0 [] 1 0 32768 (some 32768))])), (3, .cells none (.agg [(.slc 2 [] 1 0 32768 (some 32768))])), (0, .cells none (.ints .u8 32768 x.v0)), (2, .cells none (.ints .u8 32768 x.v1))] ++ σ.blocks⟩) | _ => none) | _ => none)) else none
abbrev Sg_law12_both (α : Type) := (Bool × Addr × Nat × Nat × (Nat → (Int × Int × Unit))) → ((Nat → Int) → (Nat → Int) → R α) → R α
def ad_law12_both {α : Type} (F : Sg_law12_both α) : FF α := fun args σ k => match args with
  | [a0] => decV_st_int_u64_int_u64 a0 fun x0 => F x0 (fun f g => k (.tuple [.ptr σ.next [], .ptr (σ.next + 2) []]) ⟨σ.next + 4, [(σ.next, memO (σ.next + 1) none), (σ.next + 1, byO none f), (σ.next + 2, memO (σ.next + 3) none), (σ.next + 3, byO none g)] ++ σ.blocks⟩)
  | _ => none
def dR_law12_both {α : Type} (v : SV) (σ1 : Heap) (k : (Nat → Int) → (Nat → Int) → R α) : R α := match v with
  | .tuple [a, c] => decNM 0 σ1 a fun b b1 f => decNM 0 σ1 c fun c c1 g => bif !Nat.beq b c && (!Nat.beq b c1 && (!Nat.beq b1 c && !Nat.beq b1 c1)) then k f g else none
  | _ => none
def p_law12_both {α : Type} (L_law12_both_3 : SgL_law12_both_3 α) (x0 : (Bool × Addr × Nat × Nat × (Nat → (Int × Int × Unit)))) (k : (Nat → Int) → (Nat → Int) → R α) : R α :=
  L_law12_both_3 ⟨x0, 0, (fun _ => 0), (fun _ => 0)⟩ (fun x1 =>
  k x1.v0 x1.v1)
theorem le_law12_both {α : Type} {F F' : Sg_law12_both α} (h : ∀ x0 k r, F' x0 k = some r → F x0 k = some r) {args : List SV} {σ : Heap} {k : SV → Heap → R α} {r : α} (hk : ad_law12_both F' args σ k = some r) : ad_law12_both F args σ k = some r := by
  unfold ad_law12_both at hk
  split at hk <;> try (cases hk; done)
  obtain ⟨x0, rfl, hk0⟩ := decV_st_int_u64_int_u64_spec hk
  have hkz := hk0
  exact h x0 _ _ hkz
abbrev Sg_law12_few (α : Type) := (Bool × Addr × Nat × Nat × (Nat → (Int × Int × Unit))) → (Bool → R α) → R α
def ad_law12_few {α : Type} (F : Sg_law12_few α) : FP α := fun args k => match args with
  | [a0] => decV_st_int_u64_int_u64 a0 fun x0 => F x0 (fun r0 => k (.bool r0))
  | _ => none
def dR_law12_few {α : Type} (a0 : SV) (k : Bool → R α) : R α := decB a0 fun x0 => k x0
theorem dR_law12_few_spec {α : Type} {v : SV} {k : Bool → R α} {r : α} (h : dR_law12_few v k = some r) : ∃ x0, v = (.bool x0) ∧ k x0 = some r := by
  unfold dR_law12_few at h
  obtain ⟨x0, rfl, h0⟩ := decB_spec h
  exact ⟨x0, rfl, h0⟩
def p_law12_few {α : Type}  (x0 : (Bool × Addr × Nat × Nat × (Nat → (Int × Int × Unit)))) (k : Bool → R α) : R α :=
  let b1 : Bool := (leB ((x0.2.2.1 : Nat) : Int) 60)
  k b1
theorem le_law12_few {α : Type} {F F' : Sg_law12_few α} (h : ∀ x0 k r, F' x0 k = some r → F x0 k = some r) {args : List SV} {k : SV → R α} {r : α} (hk : ad_law12_few F' args k = some r) : ad_law12_few F args k = some r := by
  unfold ad_law12_few at hk
  split at hk <;> try (cases hk; done)
  obtain ⟨x0, rfl, hk0⟩ := decV_st_int_u64_int_u64_spec hk
  have hkz := hk0
  exact h x0 _ _ hkz
end Go.Sh
