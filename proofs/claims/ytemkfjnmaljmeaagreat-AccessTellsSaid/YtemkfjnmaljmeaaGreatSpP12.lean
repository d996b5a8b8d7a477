/-
  The document of layers 1, 8, 11, 18 (printed by wip/pr/pr.py): what the functions come to, told without the program.
-/
import Derived.Test.YtemkfjnmaljmeaaGreatSkC
import Derived.Test.YtemkfjnmaljmeaaGreatSpTwo
set_option linter.unusedSimpArgs false
set_option linter.unusedVariables false
namespace Go.Sh
open Go
set_option linter.unusedVariables false
structure GAsking where
  First : Bool
  Second : Bool
  Sum : Bool
  Mxr : Bool
  Asid : Int
  Vmid : Int
  Root : Int
  Host : Int
abbrev GAsking.sv (t : GAsking) : SV := .agg [.bool t.First, .bool t.Second, .bool t.Sum, .bool t.Mxr, .int .i64 t.Asid, .int .i64 t.Vmid, .int .i64 t.Root, .int .i64 t.Host]
def GAsking.dec {α : Type} (v : SV) (k : GAsking → R α) : R α := match v with
  | .agg [a0, a1, a2, a3, a4, a5, a6, a7] => decB a0 fun x0 => decB a1 fun x1 => decB a2 fun x2 => decB a3 fun x3 => decI .i64 a4 fun x4 => decI .i64 a5 fun x5 => decI .i64 a6 fun x6 => decI .i64 a7 fun x7 => k ⟨x0, x1, x2, x3, x4, x5, x6, x7⟩
  | _ => none
theorem GAsking.dec_spec {α : Type} {v : SV} {k : GAsking → R α} {r : α} (h : GAsking.dec v k = some r) : ∃ t : GAsking, v = t.sv ∧ k t = some r := by
  unfold GAsking.dec at h
  split at h <;> try (cases h; done)
  obtain ⟨x0, rfl, h0⟩ := decB_spec h
  obtain ⟨x1, rfl, h1⟩ := decB_spec h0
  obtain ⟨x2, rfl, h2⟩ := decB_spec h1
  obtain ⟨x3, rfl, h3⟩ := decB_spec h2
  obtain ⟨x4, rfl, h4⟩ := decI_spec h3
  obtain ⟨x5, rfl, h5⟩ := decI_spec h4
  obtain ⟨x6, rfl, h6⟩ := decI_spec h5
  obtain ⟨x7, rfl, h7⟩ := decI_spec h6
  exact ⟨⟨x0, x1, x2, x3, x4, x5, x6, x7⟩, rfl, h7⟩
theorem GAsking.ids (t : GAsking) {p : Nat → Prop} : Ids p t.sv := by simp [Ids, Idss]
structure GState where
  X : (Nat → Int)
  PC : Int
  Level : Int
  V : Bool
  C : (Nat → Int)
  Done : Int
abbrev GState.sv (t : GState) : SV := .agg [.ints .u64 32 t.X, .int .u64 t.PC, .int .i64 t.Level, .bool t.V, .ints .u64 29 t.C, .int .u64 t.Done]
def GState.dec {α : Type} (v : SV) (k : GState → R α) : R α := match v with
  | .agg [a0, a1, a2, a3, a4, a5] => decA .u64 32 a0 fun x0 => decI .u64 a1 fun x1 => decI .i64 a2 fun x2 => decB a3 fun x3 => decA .u64 29 a4 fun x4 => decI .u64 a5 fun x5 => k ⟨x0, x1, x2, x3, x4, x5⟩
  | _ => none
theorem GState.dec_spec {α : Type} {v : SV} {k : GState → R α} {r : α} (h : GState.dec v k = some r) : ∃ t : GState, v = t.sv ∧ k t = some r := by
  unfold GState.dec at h
  split at h <;> try (cases h; done)
  obtain ⟨x0, rfl, h0⟩ := decA_spec h
  obtain ⟨x1, rfl, h1⟩ := decI_spec h0
  obtain ⟨x2, rfl, h2⟩ := decI_spec h1
  obtain ⟨x3, rfl, h3⟩ := decB_spec h2
  obtain ⟨x4, rfl, h4⟩ := decA_spec h3
  obtain ⟨x5, rfl, h5⟩ := decI_spec h4
  exact ⟨⟨x0, x1, x2, x3, x4, x5⟩, rfl, h5⟩
theorem GState.ids (t : GState) {p : Nat → Prop} : Ids p t.sv := by simp [Ids, Idss]
structure GEntry where
  Valid : Bool
  V : Bool
  Page : Int
  Asid : Int
  Vmid : Int
  Frame : Int
  Bits : Int
  Host : Int
  Guest : Int
abbrev GEntry.sv (t : GEntry) : SV := .agg [.bool t.Valid, .bool t.V, .int .i64 t.Page, .int .i64 t.Asid, .int .i64 t.Vmid, .int .i64 t.Frame, .int .i64 t.Bits, .int .i64 t.Host, .int .i64 t.Guest]
def GEntry.dec {α : Type} (v : SV) (k : GEntry → R α) : R α := match v with
  | .agg [a0, a1, a2, a3, a4, a5, a6, a7, a8] => decB a0 fun x0 => decB a1 fun x1 => decI .i64 a2 fun x2 => decI .i64 a3 fun x3 => decI .i64 a4 fun x4 => decI .i64 a5 fun x5 => decI .i64 a6 fun x6 => decI .i64 a7 fun x7 => decI .i64 a8 fun x8 => k ⟨x0, x1, x2, x3, x4, x5, x6, x7, x8⟩
  | _ => none
theorem GEntry.dec_spec {α : Type} {v : SV} {k : GEntry → R α} {r : α} (h : GEntry.dec v k = some r) : ∃ t : GEntry, v = t.sv ∧ k t = some r := by
  unfold GEntry.dec at h
  split at h <;> try (cases h; done)
  obtain ⟨x0, rfl, h0⟩ := decB_spec h
  obtain ⟨x1, rfl, h1⟩ := decB_spec h0
  obtain ⟨x2, rfl, h2⟩ := decI_spec h1
  obtain ⟨x3, rfl, h3⟩ := decI_spec h2
  obtain ⟨x4, rfl, h4⟩ := decI_spec h3
  obtain ⟨x5, rfl, h5⟩ := decI_spec h4
  obtain ⟨x6, rfl, h6⟩ := decI_spec h5
  obtain ⟨x7, rfl, h7⟩ := decI_spec h6
  obtain ⟨x8, rfl, h8⟩ := decI_spec h7
  exact ⟨⟨x0, x1, x2, x3, x4, x5, x6, x7, x8⟩, rfl, h8⟩
theorem GEntry.ids (t : GEntry) {p : Nat → Prop} : Ids p t.sv := by simp [Ids, Idss]
structure GFault where
  Cause : Int
  Value : Int
  Place : Int
  GVA : Bool
abbrev GFault.sv (t : GFault) : SV := .agg [.int .u64 t.Cause, .int .u64 t.Value, .int .u64 t.Place, .bool t.GVA]
def GFault.dec {α : Type} (v : SV) (k : GFault → R α) : R α := match v with
  | .agg [a0, a1, a2, a3] => decI .u64 a0 fun x0 => decI .u64 a1 fun x1 => decI .u64 a2 fun x2 => decB a3 fun x3 => k ⟨x0, x1, x2, x3⟩
  | _ => none
theorem GFault.dec_spec {α : Type} {v : SV} {k : GFault → R α} {r : α} (h : GFault.dec v k = some r) : ∃ t : GFault, v = t.sv ∧ k t = some r := by
  unfold GFault.dec at h
  split at h <;> try (cases h; done)
  obtain ⟨x0, rfl, h0⟩ := decI_spec h
  obtain ⟨x1, rfl, h1⟩ := decI_spec h0
  obtain ⟨x2, rfl, h2⟩ := decI_spec h1
  obtain ⟨x3, rfl, h3⟩ := decB_spec h2
  exact ⟨⟨x0, x1, x2, x3⟩, rfl, h3⟩
theorem GFault.ids (t : GFault) {p : Nat → Prop} : Ids p t.sv := by simp [Ids, Idss]
abbrev Sg_z8 (α : Type) := (Nat → Int) → Int → Int → (Int → R α) → R α
def ad_z8 {α : Type} (F : Sg_z8 α) : FF α := fun args σ k => match args with
  | [a0, a1, a2] => withMem σ a0 fun _ b1 _ g1 x0 => decI .u64 a1 fun x1 => decI .i64 a2 fun x2 => F x0 x1 x2 (fun r0 => k (.int .u64 r0) σ)
  | _ => none
def dR_ref1_Mem_Read {α : Type} (a0 : SV) (σ1 : Heap) (k : Int → R α) : R α := bif kept 2 σ1 then (decI .u64 a0 fun r0 => k r0) else none
def p_z2p {α : Type}  (x0 : (Nat → Int)) (x1 : Int) (k : Int → R α) : R α :=
  let t1 : Int := (IntKind.i64.wrap x1)
  let t2 : Int := (IntKind.i64.wrap (t1 + 7))
  cond (decide (0 ≤ t2) && decide (t2 < 32768)) (
  cond (decide ((0 + (Int.toNat t2)) < 32768)) (
  let t3 : Int := (IntKind.u64.wrap (x0 (0 + (Int.toNat t2))))
  let t4 : Int := (bitop .or .u64 0 t3)
  let t5 : Int := (gshl .u64 t4 8)
  let t6 : Int := (IntKind.i64.wrap x1)
  let t7 : Int := (IntKind.i64.wrap (t6 + 6))
  cond (decide (0 ≤ t7) && decide (t7 < 32768)) (
  cond (decide ((0 + (Int.toNat t7)) < 32768)) (
  let t8 : Int := (IntKind.u64.wrap (x0 (0 + (Int.toNat t7))))
  let t9 : Int := (bitop .or .u64 t5 t8)
  let t10 : Int := (gshl .u64 t9 8)
  let t11 : Int := (IntKind.i64.wrap x1)
  let t12 : Int := (IntKind.i64.wrap (t11 + 5))
  cond (decide (0 ≤ t12) && decide (t12 < 32768)) (
  cond (decide ((0 + (Int.toNat t12)) < 32768)) (
  let t13 : Int := (IntKind.u64.wrap (x0 (0 + (Int.toNat t12))))
  let t14 : Int := (bitop .or .u64 t10 t13)
  let t15 : Int := (gshl .u64 t14 8)
  let t16 : Int := (IntKind.i64.wrap x1)
  let t17 : Int := (IntKind.i64.wrap (t16 + 4))
  cond (decide (0 ≤ t17) && decide (t17 < 32768)) (
  cond (decide ((0 + (Int.toNat t17)) < 32768)) (
  let t18 : Int := (IntKind.u64.wrap (x0 (0 + (Int.toNat t17))))
  let t19 : Int := (bitop .or .u64 t15 t18)
  let t20 : Int := (gshl .u64 t19 8)
  let t21 : Int := (IntKind.i64.wrap x1)
  let t22 : Int := (IntKind.i64.wrap (t21 + 3))
  cond (decide (0 ≤ t22) && decide (t22 < 32768)) (
  cond (decide ((0 + (Int.toNat t22)) < 32768)) (
  let t23 : Int := (IntKind.u64.wrap (x0 (0 + (Int.toNat t22))))
  let t24 : Int := (bitop .or .u64 t20 t23)
  let t25 : Int := (gshl .u64 t24 8)
  let t26 : Int := (IntKind.i64.wrap x1)
  let t27 : Int := (IntKind.i64.wrap (t26 + 2))
  cond (decide (0 ≤ t27) && decide (t27 < 32768)) (
  cond (decide ((0 + (Int.toNat t27)) < 32768)) (
  let t28 : Int := (IntKind.u64.wrap (x0 (0 + (Int.toNat t27))))
  let t29 : Int := (bitop .or .u64 t25 t28)
  let t30 : Int := (gshl .u64 t29 8)
  let t31 : Int := (IntKind.i64.wrap x1)
  let t32 : Int := (IntKind.i64.wrap (t31 + 1))
  cond (decide (0 ≤ t32) && decide (t32 < 32768)) (
  cond (decide ((0 + (Int.toNat t32)) < 32768)) (
  let t33 : Int := (IntKind.u64.wrap (x0 (0 + (Int.toNat t32))))
  let t34 : Int := (bitop .or .u64 t30 t33)
  let t35 : Int := (gshl .u64 t34 8)
  let t36 : Int := (IntKind.i64.wrap x1)
  let t37 : Int := (IntKind.i64.wrap (t36 + 0))
  cond (decide (0 ≤ t37) && decide (t37 < 32768)) (
  cond (decide ((0 + (Int.toNat t37)) < 32768)) (
  let t38 : Int := (IntKind.u64.wrap (x0 (0 + (Int.toNat t37))))
  let t39 : Int := (bitop .or .u64 t35 t38)
  k t39) none) none) none) none) none) none) none) none) none) none) none) none) none) none) none) none
def p_z2q {α : Type}  (x0 : (Nat → Int)) (x1 : Int) (k : Int → R α) : R α :=
  let t1 : Int := (IntKind.i64.wrap x1)
  let t2 : Int := (IntKind.i64.wrap (t1 + 3))
  cond (decide (0 ≤ t2) && decide (t2 < 32768)) (
  cond (decide ((0 + (Int.toNat t2)) < 32768)) (
  let t3 : Int := (IntKind.u64.wrap (x0 (0 + (Int.toNat t2))))
  let t4 : Int := (bitop .or .u64 0 t3)
  let t5 : Int := (gshl .u64 t4 8)
  let t6 : Int := (IntKind.i64.wrap x1)
  let t7 : Int := (IntKind.i64.wrap (t6 + 2))
  cond (decide (0 ≤ t7) && decide (t7 < 32768)) (
  cond (decide ((0 + (Int.toNat t7)) < 32768)) (
  let t8 : Int := (IntKind.u64.wrap (x0 (0 + (Int.toNat t7))))
  let t9 : Int := (bitop .or .u64 t5 t8)
  let t10 : Int := (gshl .u64 t9 8)
  let t11 : Int := (IntKind.i64.wrap x1)
  let t12 : Int := (IntKind.i64.wrap (t11 + 1))
  cond (decide (0 ≤ t12) && decide (t12 < 32768)) (
  cond (decide ((0 + (Int.toNat t12)) < 32768)) (
  let t13 : Int := (IntKind.u64.wrap (x0 (0 + (Int.toNat t12))))
  let t14 : Int := (bitop .or .u64 t10 t13)
  let t15 : Int := (gshl .u64 t14 8)
  let t16 : Int := (IntKind.i64.wrap x1)
  let t17 : Int := (IntKind.i64.wrap (t16 + 0))
  cond (decide (0 ≤ t17) && decide (t17 < 32768)) (
  cond (decide ((0 + (Int.toNat t17)) < 32768)) (
  let t18 : Int := (IntKind.u64.wrap (x0 (0 + (Int.toNat t17))))
  let t19 : Int := (bitop .or .u64 t15 t18)
  k t19) none) none) none) none) none) none) none) none
def p_z2r {α : Type}  (x0 : (Nat → Int)) (x1 : Int) (k : Int → R α) : R α :=
  let t1 : Int := (IntKind.i64.wrap x1)
  let t2 : Int := (IntKind.i64.wrap (t1 + 1))
  cond (decide (0 ≤ t2) && decide (t2 < 32768)) (
  cond (decide ((0 + (Int.toNat t2)) < 32768)) (
  let t3 : Int := (IntKind.u64.wrap (x0 (0 + (Int.toNat t2))))
  let t4 : Int := (bitop .or .u64 0 t3)
  let t5 : Int := (gshl .u64 t4 8)
  let t6 : Int := (IntKind.i64.wrap x1)
  let t7 : Int := (IntKind.i64.wrap (t6 + 0))
  cond (decide (0 ≤ t7) && decide (t7 < 32768)) (
  cond (decide ((0 + (Int.toNat t7)) < 32768)) (
  let t8 : Int := (IntKind.u64.wrap (x0 (0 + (Int.toNat t7))))
  let t9 : Int := (bitop .or .u64 t5 t8)
  k t9) none) none) none) none
def p_z2s {α : Type}  (x0 : (Nat → Int)) (x1 : Int) (k : Int → R α) : R α :=
  let t1 : Int := (IntKind.i64.wrap x1)
  let t2 : Int := (IntKind.i64.wrap (t1 + 0))
  cond (decide (0 ≤ t2) && decide (t2 < 32768)) (
  cond (decide ((0 + (Int.toNat t2)) < 32768)) (
  let t3 : Int := (IntKind.u64.wrap (x0 (0 + (Int.toNat t2))))
  let t4 : Int := (bitop .or .u64 0 t3)
  k t4) none) none
def p_z8 {α : Type}  (x0 : (Nat → Int)) (x1 : Int) (x2 : Int) (k : Int → R α) : R α :=
  cond (x2 == 8) (p_z2p  x0 x1 k) ( cond (x2 == 4) (p_z2q  x0 x1 k) ( cond (x2 == 2) (p_z2r  x0 x1 k) ( cond (x2 == 1) (p_z2s  x0 x1 k) ( none))))
theorem le_z8 {α : Type} {F F' : Sg_z8 α} (h : ∀ x0 x1 x2 k r, F' x0 x1 x2 k = some r → F x0 x1 x2 k = some r) {args : List SV} {σ : Heap} {k : SV → Heap → R α} {r : α} (hk : ad_z8 F' args σ k = some r) : ad_z8 F args σ k = some r := by
  unfold ad_z8 at hk
  split at hk <;> try (cases hk; done)
  obtain ⟨b, b1, g0, g1, x0, rfl, h0, h1, hne, hk0⟩ := withMem_spec hk
  obtain ⟨x1, rfl, hk1⟩ := decI_spec hk0
  obtain ⟨x2, rfl, hk2⟩ := decI_spec hk1
  have hkz := hk2
  unfold ad_z8
  dsimp only
  rw [withMem_eq h0 h1 hne]
  exact h x0 x1 x2 _ _ hkz
abbrev Sg_z1f (α : Type) := (Nat → Int) → Int → Int → (Int → Bool → R α) → R α
def ad_z1f {α : Type} (F : Sg_z1f α) : FF α := fun args σ k => match args with
  | [a0, a1, a2] => withMem σ a0 fun _ b1 _ g1 x0 => decI .i64 a1 fun x1 => decI .i64 a2 fun x2 => F x0 x1 x2 (fun r0 r1 => k (.tuple [(.int .u64 r0), (.bool r1)]) σ)
  | _ => none
def dR_ref11_Entry {α : Type} (v : SV) (σ1 : Heap) (k : Int → Bool → R α) : R α := bif kept 2 σ1 then (match v with | .tuple [a0, a1] => decI .u64 a0 fun r0 => decB a1 fun r1 => k r0 r1 | _ => none) else none
def p_z1f {α : Type} (F_z8 : Sg_z8 α) (x0 : (Nat → Int)) (x1 : Int) (x2 : Int) (k : Int → Bool → R α) : R α :=
  let b1 : Bool := (ltB x1 0)
  cond b1 (
  k 0 false) (
  let b2 : Bool := (leB 128 x1)
  cond b2 (
  k 0 false) (
  let b3 : Bool := (ltB x2 0)
  cond b3 (
  k 0 false) (
  let b4 : Bool := (ltB 15 x2)
  cond b4 (
  k 0 false) (
  let t5 : Int := (IntKind.i64.wrap (x1 * 256))
  let t6 : Int := (IntKind.i64.wrap (8 * x2))
  let t7 : Int := (IntKind.i64.wrap (t5 + t6))
  let t8 : Int := (IntKind.u64.wrap t7)
  F_z8 x0 t8 8 (fun r9 =>
  k r9 true)))))
theorem le_z1f {α : Type} {F F' : Sg_z1f α} (h : ∀ x0 x1 x2 k r, F' x0 x1 x2 k = some r → F x0 x1 x2 k = some r) {args : List SV} {σ : Heap} {k : SV → Heap → R α} {r : α} (hk : ad_z1f F' args σ k = some r) : ad_z1f F args σ k = some r := by
  unfold ad_z1f at hk
  split at hk <;> try (cases hk; done)
  obtain ⟨b, b1, g0, g1, x0, rfl, h0, h1, hne, hk0⟩ := withMem_spec hk
  obtain ⟨x1, rfl, hk1⟩ := decI_spec hk0
  obtain ⟨x2, rfl, hk2⟩ := decI_spec hk1
  have hkz := hk2
  unfold ad_z1f
  dsimp only
  rw [withMem_eq h0 h1 hne]
  exact h x0 x1 x2 _ _ hkz
abbrev Sg_zb (α : Type) := Int → (Bool → R α) → R α
def ad_zb {α : Type} (F : Sg_zb α) : FP α := fun args k => match args with
  | [a0] => decI .u64 a0 fun x0 => F x0 (fun r0 => k (.bool r0))
  | _ => none
def dR_ref11_Is {α : Type} (a0 : SV) (k : Bool → R α) : R α := decB a0 fun x0 => k x0
theorem dR_ref11_Is_spec {α : Type} {v : SV} {k : Bool → R α} {r : α} (h : dR_ref11_Is v k = some r) : ∃ x0, v = (.bool x0) ∧ k x0 = some r := by
  unfold dR_ref11_Is at h
  obtain ⟨x0, rfl, h0⟩ := decB_spec h
  exact ⟨x0, rfl, h0⟩
def p_zb {α : Type}  (x0 : Int) (k : Bool → R α) : R α :=
  let t1 : Int := (bitop .and .u64 x0 1)
  let b2 : Bool := (t1 == 1)
  cond b2 (
  let t3 : Int := (bitop .and .u64 x0 4)
  let b4 : Bool := (t3 == 0)
  cond b4 (
  let t5 : Int := (gshr .u64 x0 16)
  let b6 : Bool := (t5 == 0)
  cond b6 (
  let t7 : Int := (bitop .and .u64 x0 32)
  let b8 : Bool := (t7 == 0)
  k b8) (
  k false)) (
  let t9 : Int := (bitop .and .u64 x0 2)
  let b10 : Bool := (t9 != 0)
  cond b10 (
  let t11 : Int := (gshr .u64 x0 16)
  let b12 : Bool := (t11 == 0)
  cond b12 (
  let t13 : Int := (bitop .and .u64 x0 32)
  let b14 : Bool := (t13 == 0)
  k b14) (
  k false)) (
  k false))) (
  k false)
theorem le_zb {α : Type} {F F' : Sg_zb α} (h : ∀ x0 k r, F' x0 k = some r → F x0 k = some r) {args : List SV} {k : SV → R α} {r : α} (hk : ad_zb F' args k = some r) : ad_zb F args k = some r := by
  unfold ad_zb at hk
  split at hk <;> try (cases hk; done)
  obtain ⟨x0, rfl, hk0⟩ := decI_spec hk
  have hkz := hk0
  exact h x0 _ _ hkz
abbrev Sg_z6 (α : Type) := Int → (Bool → R α) → R α
def ad_z6 {α : Type} (F : Sg_z6 α) : FP α := fun args k => match args with
  | [a0] => decI .u64 a0 fun x0 => F x0 (fun r0 => k (.bool r0))
  | _ => none
def dR_ref11_Leaf {α : Type} (a0 : SV) (k : Bool → R α) : R α := decB a0 fun x0 => k x0
theorem dR_ref11_Leaf_spec {α : Type} {v : SV} {k : Bool → R α} {r : α} (h : dR_ref11_Leaf v k = some r) : ∃ x0, v = (.bool x0) ∧ k x0 = some r := by
  unfold dR_ref11_Leaf at h
  obtain ⟨x0, rfl, h0⟩ := decB_spec h
  exact ⟨x0, rfl, h0⟩
def p_z6 {α : Type} (F_zb : Sg_zb α) (x0 : Int) (k : Bool → R α) : R α :=
  F_zb x0 (fun r1 =>
  cond r1 (
  let t2 : Int := (bitop .and .u64 x0 10)
  let b3 : Bool := (t2 != 0)
  k b3) (
  k false))
theorem le_z6 {α : Type} {F F' : Sg_z6 α} (h : ∀ x0 k r, F' x0 k = some r → F x0 k = some r) {args : List SV} {k : SV → R α} {r : α} (hk : ad_z6 F' args k = some r) : ad_z6 F args k = some r := by
  unfold ad_z6 at hk
  split at hk <;> try (cases hk; done)
  obtain ⟨x0, rfl, hk0⟩ := decI_spec hk
  have hkz := hk0
  exact h x0 _ _ hkz
abbrev Sg_z4 (α : Type) := Int → (Int → R α) → R α
def ad_z4 {α : Type} (F : Sg_z4 α) : FP α := fun args k => match args with
  | [a0] => decI .u64 a0 fun x0 => F x0 (fun r0 => k (.int .i64 r0))
  | _ => none
def dR_ref11_Frame {α : Type} (a0 : SV) (k : Int → R α) : R α := decI .i64 a0 fun x0 => k x0
theorem dR_ref11_Frame_spec {α : Type} {v : SV} {k : Int → R α} {r : α} (h : dR_ref11_Frame v k = some r) : ∃ x0, v = (.int .i64 x0) ∧ k x0 = some r := by
  unfold dR_ref11_Frame at h
  obtain ⟨x0, rfl, h0⟩ := decI_spec h
  exact ⟨x0, rfl, h0⟩
def p_z4 {α : Type}  (x0 : Int) (k : Int → R α) : R α :=
  let t1 : Int := (gshr .u64 x0 8)
  let t2 : Int := (bitop .and .u64 t1 255)
  let t3 : Int := (IntKind.i64.wrap t2)
  k t3
theorem le_z4 {α : Type} {F F' : Sg_z4 α} (h : ∀ x0 k r, F' x0 k = some r → F x0 k = some r) {args : List SV} {k : SV → R α} {r : α} (hk : ad_z4 F' args k = some r) : ad_z4 F args k = some r := by
  unfold ad_z4 at hk
  split at hk <;> try (cases hk; done)
  obtain ⟨x0, rfl, hk0⟩ := decI_spec hk
  have hkz := hk0
  exact h x0 _ _ hkz
abbrev Sg_z1d (α : Type) := (Nat → Int) → Int → Int → (Int → Int → Int → Bool → Nat → (Nat → Int) → R α) → R α
def ad_z1d {α : Type} (F : Sg_z1d α) : FF α := fun args σ k => match args with
  | [a0, a1, a2] => withMem σ a0 fun _ b1 _ g1 x0 => decI .i64 a1 fun x1 => decI .u64 a2 fun x2 => F x0 x1 x2 (fun r0 r1 r2 nl n tf => cond nl (k (.agg [(.int .u64 r0), (.int .i64 r1), (.int .i64 r2), .nils]) σ) (k (.agg [(.int .u64 r0), (.int .i64 r1), (.int .i64 r2), (.slc σ.next [] 1 0 n none)]) ⟨σ.next + 1, [(σ.next, .cells (some 1) (.ints .i64 n tf))] ++ σ.blocks⟩))
  | _ => none
def dR_ref11_Walk {α : Type} (v : SV) (σ1 : Heap) (k : Int → Int → Int → Bool → Nat → (Nat → Int) → R α) : R α := bif kept 2 σ1 then (match v with | .agg [a0, a1, a2, a3] => decI .u64 a0 fun r0 => decI .i64 a1 fun r1 => decI .i64 a2 fun r2 => decR 2 .i64 a3 σ1 fun nl n tf => k r0 r1 r2 nl n tf | _ => none) else none
def p_z1d {α : Type} (F_z1f : Sg_z1f α) (F_zb : Sg_zb α) (F_z6 : Sg_z6 α) (F_z4 : Sg_z4 α) (x0 : (Nat → Int)) (x1 : Int) (x2 : Int) (k : Int → Int → Int → Bool → Nat → (Nat → Int) → R α) : R α :=
  let b1 : Bool := (leB 65536 x2)
  cond b1 (
  k 0 0 1 true 0 (fun _ => 0)) (
  let t2 : Int := (gshr .u64 x2 12)
  let t3 : Int := (bitop .and .u64 t2 15)
  let t4 : Int := (IntKind.i64.wrap t3)
  F_z1f x0 x1 t4 (fun r5 r6 =>
  let t7 : Int := (gshr .u64 x2 8)
  let t8 : Int := (bitop .and .u64 t7 15)
  let t9 : Int := (IntKind.i64.wrap t8)
  let b10 : Bool := (!r6)
  cond b10 (
  k 0 0 2 false 1 (fun i => (upd (fun _ => 0) 0 x1) (0 + i))) (
  F_zb r5 (fun r11 =>
  let b12 : Bool := (!r11)
  cond b12 (
  k 0 0 1 false 1 (fun i => (upd (fun _ => 0) 0 x1) (0 + i))) (
  F_z6 r5 (fun r13 =>
  cond r13 (
  F_z4 r5 (fun r14 =>
  let t15 : Int := (bitop .or .i64 r14 t9)
  F_z4 r5 (fun r16 =>
  let t17 : Int := (bitop .and .i64 r16 15)
  let b18 : Bool := (t17 != 0)
  cond b18 (
  k 0 0 1 false 1 (fun i => (upd (fun _ => 0) 0 x1) (0 + i))) (
  let t19 : Int := (IntKind.u64.wrap t9)
  let t20 : Int := (gshl .u64 t19 8)
  let t21 : Int := (bitop .or .u64 r5 t20)
  k t21 t15 0 false 1 (fun i => (upd (fun _ => 0) 0 x1) (0 + i)))))) (
  F_z4 r5 (fun r22 =>
  F_z4 r5 (fun r23 =>
  F_z1f x0 r23 t9 (fun r24 r25 =>
  let b26 : Bool := (!r25)
  cond b26 (
  k 0 0 2 false 2 (fun i => bif Nat.blt i 1 then (fun i => (fun i => (upd (fun _ => 0) 0 x1) (0 + i)) (0 + i)) i else (fun i => (upd (fun _ => 0) 0 r22) (0 + i)) (i - 1))) (
  F_z6 r24 (fun r27 =>
  let b28 : Bool := (!r27)
  cond b28 (
  k 0 0 1 false 2 (fun i => bif Nat.blt i 1 then (fun i => (fun i => (upd (fun _ => 0) 0 x1) (0 + i)) (0 + i)) i else (fun i => (upd (fun _ => 0) 0 r22) (0 + i)) (i - 1))) (
  F_z4 r24 (fun r29 =>
  k r24 r29 0 false 2 (fun i => bif Nat.blt i 1 then (fun i => (fun i => (upd (fun _ => 0) 0 x1) (0 + i)) (0 + i)) i else (fun i => (upd (fun _ => 0) 0 r22) (0 + i)) (i - 1))))))))))))))))
theorem le_z1d {α : Type} {F F' : Sg_z1d α} (h : ∀ x0 x1 x2 k r, F' x0 x1 x2 k = some r → F x0 x1 x2 k = some r) {args : List SV} {σ : Heap} {k : SV → Heap → R α} {r : α} (hk : ad_z1d F' args σ k = some r) : ad_z1d F args σ k = some r := by
  unfold ad_z1d at hk
  split at hk <;> try (cases hk; done)
  obtain ⟨b, b1, g0, g1, x0, rfl, h0, h1, hne, hk0⟩ := withMem_spec hk
  obtain ⟨x1, rfl, hk1⟩ := decI_spec hk0
  obtain ⟨x2, rfl, hk2⟩ := decI_spec hk1
  have hkz := hk2
  unfold ad_z1d
  dsimp only
  rw [withMem_eq h0 h1 hne]
  exact h x0 x1 x2 _ _ hkz
abbrev Sg_z1g (α : Type) := Int → Int → Bool → Bool → Bool → (Bool → R α) → R α
def ad_z1g {α : Type} (F : Sg_z1g α) : FP α := fun args k => match args with
  | [a0, a1, a2, a3, a4] => decI .i64 a0 fun x0 => decI .i64 a1 fun x1 => decB a2 fun x2 => decB a3 fun x3 => decB a4 fun x4 => F x0 x1 x2 x3 x4 (fun r0 => k (.bool r0))
  | _ => none
def dR_ref11_May {α : Type} (a0 : SV) (k : Bool → R α) : R α := decB a0 fun x0 => k x0
theorem dR_ref11_May_spec {α : Type} {v : SV} {k : Bool → R α} {r : α} (h : dR_ref11_May v k = some r) : ∃ x0, v = (.bool x0) ∧ k x0 = some r := by
  unfold dR_ref11_May at h
  obtain ⟨x0, rfl, h0⟩ := decB_spec h
  exact ⟨x0, rfl, h0⟩
def p_z1g {α : Type}  (x0 : Int) (x1 : Int) (x2 : Bool) (x3 : Bool) (x4 : Bool) (k : Bool → R α) : R α :=
  let t1 : Int := (bitop .and .i64 x0 64)
  let b2 : Bool := (t1 == 0)
  cond b2 (
  k false) (
  cond x2 (
  let t3 : Int := (bitop .and .i64 x0 16)
  let b4 : Bool := (t3 == 0)
  cond b4 (
  k false) (
  let b5 : Bool := (!x2)
  cond b5 (
  let t6 : Int := (bitop .and .i64 x0 16)
  let b7 : Bool := (t6 != 0)
  cond b7 (
  let b8 : Bool := (!x3)
  cond b8 (
  k false) (
  let b9 : Bool := (x1 == 0)
  cond b9 (
  k false) (
  let b10 : Bool := (x1 == 0)
  cond b10 (
  let t11 : Int := (bitop .and .i64 x0 8)
  let b12 : Bool := (t11 != 0)
  k b12) (
  let b13 : Bool := (x1 == 1)
  cond b13 (
  let t14 : Int := (bitop .and .i64 x0 2)
  let b15 : Bool := (t14 != 0)
  cond b15 (
  k true) (
  cond x4 (
  let t16 : Int := (bitop .and .i64 x0 8)
  let b17 : Bool := (t16 != 0)
  k b17) (
  k false))) (
  let b18 : Bool := (x1 == 2)
  cond b18 (
  let t19 : Int := (bitop .and .i64 x0 4)
  let b20 : Bool := (t19 != 0)
  cond b20 (
  let t21 : Int := (bitop .and .i64 x0 128)
  let b22 : Bool := (t21 != 0)
  k b22) (
  k false)) (
  k false)))))) (
  let b23 : Bool := (x1 == 0)
  cond b23 (
  let t24 : Int := (bitop .and .i64 x0 8)
  let b25 : Bool := (t24 != 0)
  k b25) (
  let b26 : Bool := (x1 == 1)
  cond b26 (
  let t27 : Int := (bitop .and .i64 x0 2)
  let b28 : Bool := (t27 != 0)
  cond b28 (
  k true) (
  cond x4 (
  let t29 : Int := (bitop .and .i64 x0 8)
  let b30 : Bool := (t29 != 0)
  k b30) (
  k false))) (
  let b31 : Bool := (x1 == 2)
  cond b31 (
  let t32 : Int := (bitop .and .i64 x0 4)
  let b33 : Bool := (t32 != 0)
  cond b33 (
  let t34 : Int := (bitop .and .i64 x0 128)
  let b35 : Bool := (t34 != 0)
  k b35) (
  k false)) (
  k false))))) (
  let b36 : Bool := (x1 == 0)
  cond b36 (
  let t37 : Int := (bitop .and .i64 x0 8)
  let b38 : Bool := (t37 != 0)
  k b38) (
  let b39 : Bool := (x1 == 1)
  cond b39 (
  let t40 : Int := (bitop .and .i64 x0 2)
  let b41 : Bool := (t40 != 0)
  cond b41 (
  k true) (
  cond x4 (
  let t42 : Int := (bitop .and .i64 x0 8)
  let b43 : Bool := (t42 != 0)
  k b43) (
  k false))) (
  let b44 : Bool := (x1 == 2)
  cond b44 (
  let t45 : Int := (bitop .and .i64 x0 4)
  let b46 : Bool := (t45 != 0)
  cond b46 (
  let t47 : Int := (bitop .and .i64 x0 128)
  let b48 : Bool := (t47 != 0)
  k b48) (
  k false)) (
  k false)))))) (
  let b49 : Bool := (!x2)
  cond b49 (
  let t50 : Int := (bitop .and .i64 x0 16)
  let b51 : Bool := (t50 != 0)
  cond b51 (
  let b52 : Bool := (!x3)
  cond b52 (
  k false) (
  let b53 : Bool := (x1 == 0)
  cond b53 (
  k false) (
  let b54 : Bool := (x1 == 0)
  cond b54 (
  let t55 : Int := (bitop .and .i64 x0 8)
  let b56 : Bool := (t55 != 0)
  k b56) (
  let b57 : Bool := (x1 == 1)
  cond b57 (
  let t58 : Int := (bitop .and .i64 x0 2)
  let b59 : Bool := (t58 != 0)
  cond b59 (
  k true) (
  cond x4 (
  let t60 : Int := (bitop .and .i64 x0 8)
  let b61 : Bool := (t60 != 0)
  k b61) (
  k false))) (
  let b62 : Bool := (x1 == 2)
  cond b62 (
  let t63 : Int := (bitop .and .i64 x0 4)
  let b64 : Bool := (t63 != 0)
  cond b64 (
  let t65 : Int := (bitop .and .i64 x0 128)
  let b66 : Bool := (t65 != 0)
  k b66) (
  k false)) (
  k false)))))) (
  let b67 : Bool := (x1 == 0)
  cond b67 (
  let t68 : Int := (bitop .and .i64 x0 8)
  let b69 : Bool := (t68 != 0)
  k b69) (
  let b70 : Bool := (x1 == 1)
  cond b70 (
  let t71 : Int := (bitop .and .i64 x0 2)
  let b72 : Bool := (t71 != 0)
  cond b72 (
  k true) (
  cond x4 (
  let t73 : Int := (bitop .and .i64 x0 8)
  let b74 : Bool := (t73 != 0)
  k b74) (
  k false))) (
  let b75 : Bool := (x1 == 2)
  cond b75 (
  let t76 : Int := (bitop .and .i64 x0 4)
  let b77 : Bool := (t76 != 0)
  cond b77 (
  let t78 : Int := (bitop .and .i64 x0 128)
  let b79 : Bool := (t78 != 0)
  k b79) (
  k false)) (
  k false))))) (
  let b80 : Bool := (x1 == 0)
  cond b80 (
  let t81 : Int := (bitop .and .i64 x0 8)
  let b82 : Bool := (t81 != 0)
  k b82) (
  let b83 : Bool := (x1 == 1)
  cond b83 (
  let t84 : Int := (bitop .and .i64 x0 2)
  let b85 : Bool := (t84 != 0)
  cond b85 (
  k true) (
  cond x4 (
  let t86 : Int := (bitop .and .i64 x0 8)
  let b87 : Bool := (t86 != 0)
  k b87) (
  k false))) (
  let b88 : Bool := (x1 == 2)
  cond b88 (
  let t89 : Int := (bitop .and .i64 x0 4)
  let b90 : Bool := (t89 != 0)
  cond b90 (
  let t91 : Int := (bitop .and .i64 x0 128)
  let b92 : Bool := (t91 != 0)
  k b92) (
  k false)) (
  k false))))))
theorem le_z1g {α : Type} {F F' : Sg_z1g α} (h : ∀ x0 x1 x2 x3 x4 k r, F' x0 x1 x2 x3 x4 k = some r → F x0 x1 x2 x3 x4 k = some r) {args : List SV} {k : SV → R α} {r : α} (hk : ad_z1g F' args k = some r) : ad_z1g F args k = some r := by
  unfold ad_z1g at hk
  split at hk <;> try (cases hk; done)
  obtain ⟨x0, rfl, hk0⟩ := decI_spec hk
  obtain ⟨x1, rfl, hk1⟩ := decI_spec hk0
  obtain ⟨x2, rfl, hk2⟩ := decB_spec hk1
  obtain ⟨x3, rfl, hk3⟩ := decB_spec hk2
  obtain ⟨x4, rfl, hk4⟩ := decB_spec hk3
  have hkz := hk4
  exact h x0 x1 x2 x3 x4 _ _ hkz
abbrev Sg_zs (α : Type) := Int → Int → Bool → Bool → Bool → Bool → (Bool → R α) → R α
def ad_zs {α : Type} (F : Sg_zs α) : FP α := fun args k => match args with
  | [a0, a1, a2, a3, a4, a5] => decI .i64 a0 fun x0 => decI .i64 a1 fun x1 => decB a2 fun x2 => decB a3 fun x3 => decB a4 fun x4 => decB a5 fun x5 => F x0 x1 x2 x3 x4 x5 (fun r0 => k (.bool r0))
  | _ => none
def dR_ref11_may {α : Type} (a0 : SV) (k : Bool → R α) : R α := decB a0 fun x0 => k x0
theorem dR_ref11_may_spec {α : Type} {v : SV} {k : Bool → R α} {r : α} (h : dR_ref11_may v k = some r) : ∃ x0, v = (.bool x0) ∧ k x0 = some r := by
  unfold dR_ref11_may at h
  obtain ⟨x0, rfl, h0⟩ := decB_spec h
  exact ⟨x0, rfl, h0⟩
def p_zs {α : Type} (F_z1g : Sg_z1g α) (x0 : Int) (x1 : Int) (x2 : Bool) (x3 : Bool) (x4 : Bool) (x5 : Bool) (k : Bool → R α) : R α :=
  cond x5 (
  F_z1g x0 0 x2 x3 x4 (fun r1 =>
  k r1)) (
  F_z1g x0 x1 x2 x3 x4 (fun r2 =>
  k r2))
theorem le_zs {α : Type} {F F' : Sg_zs α} (h : ∀ x0 x1 x2 x3 x4 x5 k r, F' x0 x1 x2 x3 x4 x5 k = some r → F x0 x1 x2 x3 x4 x5 k = some r) {args : List SV} {k : SV → R α} {r : α} (hk : ad_zs F' args k = some r) : ad_zs F args k = some r := by
  unfold ad_zs at hk
  split at hk <;> try (cases hk; done)
  obtain ⟨x0, rfl, hk0⟩ := decI_spec hk
  obtain ⟨x1, rfl, hk1⟩ := decI_spec hk0
  obtain ⟨x2, rfl, hk2⟩ := decB_spec hk1
  obtain ⟨x3, rfl, hk3⟩ := decB_spec hk2
  obtain ⟨x4, rfl, hk4⟩ := decB_spec hk3
  obtain ⟨x5, rfl, hk5⟩ := decB_spec hk4
  have hkz := hk5
  exact h x0 x1 x2 x3 x4 x5 _ _ hkz
abbrev Sg_zm (α : Type) := (Nat → Int) → GAsking → Int → Int → Bool → (Int → Int → Int → Bool → Nat → (Nat → Int) → R α) → R α
def ad_zm {α : Type} (F : Sg_zm α) : FF α := fun args σ k => match args with
  | [a0, a1, a2, a3, a4] => withMem σ a0 fun _ b1 _ g1 x0 => GAsking.dec a1 fun x1 => decI .u64 a2 fun x2 => decI .i64 a3 fun x3 => decB a4 fun x4 => F x0 x1 x2 x3 x4 (fun r0 r1 r2 nl n tf => cond nl (k (.tuple [(.int .u64 r0), (.int .i64 r1), (.int .i64 r2), .nils]) σ) (k (.tuple [(.int .u64 r0), (.int .i64 r1), (.int .i64 r2), (.slc σ.next [] 1 0 n none)]) ⟨σ.next + 1, [(σ.next, .cells (some 1) (.ints .i64 n tf))] ++ σ.blocks⟩))
  | _ => none
def dR_ref11_Guest {α : Type} (v : SV) (σ1 : Heap) (k : Int → Int → Int → Bool → Nat → (Nat → Int) → R α) : R α := bif kept 2 σ1 then (match v with | .tuple [a0, a1, a2, a3] => decI .u64 a0 fun r0 => decI .i64 a1 fun r1 => decI .i64 a2 fun r2 => decR 2 .i64 a3 σ1 fun nl n tf => k r0 r1 r2 nl n tf | _ => none) else none
def p_zm {α : Type} (F_z1d : Sg_z1d α) (F_zs : Sg_zs α) (x0 : (Nat → Int)) (x1 : GAsking) (x2 : Int) (x3 : Int) (x4 : Bool) (k : Int → Int → Int → Bool → Nat → (Nat → Int) → R α) : R α :=
  let b1 : Bool := (leB 65536 x2)
  cond b1 (
  k 0 255 1 true 0 (fun _ => 0)) (
  let b2 : Bool := (!x1.Second)
  cond b2 (
  k x2 255 0 true 0 (fun _ => 0)) (
  F_z1d x0 x1.Host x2 (fun r3 r4 r5 nl6 n7 tf8 =>
  cond nl6 (
  let b9 : Bool := (r5 != 0)
  cond b9 (
  k 0 255 r5 true 0 (fun _ => 0)) (
  let t10 : Int := (bitop .and .u64 r3 255)
  let t11 : Int := (IntKind.i64.wrap t10)
  F_zs t11 x3 true false false x4 (fun r12 =>
  let b13 : Bool := (!r12)
  cond b13 (
  k 0 255 1 true 0 (fun _ => 0)) (
  let t14 : Int := (IntKind.u64.wrap r4)
  let t15 : Int := (gshl .u64 t14 8)
  let t16 : Int := (bitop .and .u64 x2 255)
  let t17 : Int := (bitop .or .u64 t15 t16)
  k t17 t11 0 true 0 (fun _ => 0))))) (
  let b18 : Bool := (r5 != 0)
  cond b18 (
  cond (Nat.beq n7 n7) (k 0 255 r5 false n7 tf8) none) (
  let t19 : Int := (bitop .and .u64 r3 255)
  let t20 : Int := (IntKind.i64.wrap t19)
  F_zs t20 x3 true false false x4 (fun r21 =>
  let b22 : Bool := (!r21)
  cond b22 (
  cond (Nat.beq n7 n7) (k 0 255 1 false n7 tf8) none) (
  let t23 : Int := (IntKind.u64.wrap r4)
  let t24 : Int := (gshl .u64 t23 8)
  let t25 : Int := (bitop .and .u64 x2 255)
  let t26 : Int := (bitop .or .u64 t24 t25)
  cond (Nat.beq n7 n7) (k t26 t20 0 false n7 tf8) none)))))))
theorem le_zm {α : Type} {F F' : Sg_zm α} (h : ∀ x0 x1 x2 x3 x4 k r, F' x0 x1 x2 x3 x4 k = some r → F x0 x1 x2 x3 x4 k = some r) {args : List SV} {σ : Heap} {k : SV → Heap → R α} {r : α} (hk : ad_zm F' args σ k = some r) : ad_zm F args σ k = some r := by
  unfold ad_zm at hk
  split at hk <;> try (cases hk; done)
  obtain ⟨b, b1, g0, g1, x0, rfl, h0, h1, hne, hk0⟩ := withMem_spec hk
  obtain ⟨x1, rfl, hk1⟩ := GAsking.dec_spec hk0
  obtain ⟨x2, rfl, hk2⟩ := decI_spec hk1
  obtain ⟨x3, rfl, hk3⟩ := decI_spec hk2
  obtain ⟨x4, rfl, hk4⟩ := decB_spec hk3
  have hkz := hk4
  unfold ad_zm
  dsimp only
  rw [withMem_eq h0 h1 hne]
  exact h x0 x1 x2 x3 x4 _ _ hkz
abbrev Sg_z1l (α : Type) := GState → Int → Int → (Bool → R α) → R α
def ad_z1l {α : Type} (F : Sg_z1l α) : FP α := fun args k => match args with
  | [a0, a1, a2] => GState.dec a0 fun x0 => decI .i64 a1 fun x1 => decI .i64 a2 fun x2 => F x0 x1 x2 (fun r0 => k (.bool r0))
  | _ => none
def dR_ref8_Bit {α : Type} (a0 : SV) (k : Bool → R α) : R α := decB a0 fun x0 => k x0
theorem dR_ref8_Bit_spec {α : Type} {v : SV} {k : Bool → R α} {r : α} (h : dR_ref8_Bit v k = some r) : ∃ x0, v = (.bool x0) ∧ k x0 = some r := by
  unfold dR_ref8_Bit at h
  obtain ⟨x0, rfl, h0⟩ := decB_spec h
  exact ⟨x0, rfl, h0⟩
def p_z1l {α : Type}  (x0 : GState) (x1 : Int) (x2 : Int) (k : Bool → R α) : R α :=
  cond (decide (0 ≤ x1) && decide (x1 < 29)) (
  cond (decide ((Int.toNat x1) < 29)) (
  let t1 : Int := (IntKind.u64.wrap x2)
  cond (decide (t1 < 0)) none (
  let t2 : Int := (gshr .u64 (x0.C (Int.toNat x1)) t1)
  let t3 : Int := (bitop .and .u64 t2 1)
  let b4 : Bool := (t3 == 1)
  k b4)) none) none
abbrev Sg_z1j (α : Type) := GState → Int → Bool → (GAsking → R α) → R α
def ad_z1j {α : Type} (F : Sg_z1j α) : FP α := fun args k => match args with
  | [a0, a1, a2] => GState.dec a0 fun x0 => decI .i64 a1 fun x1 => decB a2 fun x2 => F x0 x1 x2 (fun r0 => k (GAsking.sv r0))
  | _ => none
def dR_ref11_Ask {α : Type} (a0 : SV) (k : GAsking → R α) : R α := GAsking.dec a0 fun x0 => k x0
theorem dR_ref11_Ask_spec {α : Type} {v : SV} {k : GAsking → R α} {r : α} (h : dR_ref11_Ask v k = some r) : ∃ x0, v = (GAsking.sv x0) ∧ k x0 = some r := by
  unfold dR_ref11_Ask at h
  obtain ⟨x0, rfl, h0⟩ := GAsking.dec_spec h
  exact ⟨x0, rfl, h0⟩
def p_z1j {α : Type} (F_z1l : Sg_z1l α) (x0 : GState) (x1 : Int) (x2 : Bool) (k : GAsking → R α) : R α :=
  let b1 : Bool := (x1 == 3)
  cond b1 (
  k (GAsking.mk false false false false 0 0 0 0)) (
  F_z1l x0 0 18 (fun r2 =>
  F_z1l x0 0 19 (fun r3 =>
  cond x2 (
  F_z1l x0 22 18 (fun r4 =>
  F_z1l x0 22 19 (fun r5 =>
  cond r5 (
  let t6 : Int := (gshr .u64 (x0.C 21) 63)
  let b7 : Bool := (t6 == 1)
  cond b7 (
  let t8 : Int := (gshr .u64 (x0.C 21) 16)
  let t9 : Int := (bitop .and .u64 t8 255)
  let t10 : Int := (IntKind.i64.wrap t9)
  let t11 : Int := (bitop .and .u64 (x0.C 21) 255)
  let t12 : Int := (IntKind.i64.wrap t11)
  let t13 : Int := (gshr .u64 (x0.C 28) 63)
  let b14 : Bool := (t13 == 1)
  cond b14 (
  let t15 : Int := (gshr .u64 (x0.C 28) 16)
  let t16 : Int := (bitop .and .u64 t15 255)
  let t17 : Int := (IntKind.i64.wrap t16)
  let t18 : Int := (bitop .and .u64 (x0.C 28) 255)
  let t19 : Int := (IntKind.i64.wrap t18)
  k (GAsking.mk true true r4 true t17 t10 t19 t12)) (
  k (GAsking.mk false true r4 true 0 t10 0 t12))) (
  let t20 : Int := (gshr .u64 (x0.C 28) 63)
  let b21 : Bool := (t20 == 1)
  cond b21 (
  let t22 : Int := (gshr .u64 (x0.C 28) 16)
  let t23 : Int := (bitop .and .u64 t22 255)
  let t24 : Int := (IntKind.i64.wrap t23)
  let t25 : Int := (bitop .and .u64 (x0.C 28) 255)
  let t26 : Int := (IntKind.i64.wrap t25)
  k (GAsking.mk true false r4 true t24 0 t26 0)) (
  k (GAsking.mk false false r4 true 0 0 0 0)))) (
  let t27 : Int := (gshr .u64 (x0.C 21) 63)
  let b28 : Bool := (t27 == 1)
  cond b28 (
  let t29 : Int := (gshr .u64 (x0.C 21) 16)
  let t30 : Int := (bitop .and .u64 t29 255)
  let t31 : Int := (IntKind.i64.wrap t30)
  let t32 : Int := (bitop .and .u64 (x0.C 21) 255)
  let t33 : Int := (IntKind.i64.wrap t32)
  let t34 : Int := (gshr .u64 (x0.C 28) 63)
  let b35 : Bool := (t34 == 1)
  cond b35 (
  let t36 : Int := (gshr .u64 (x0.C 28) 16)
  let t37 : Int := (bitop .and .u64 t36 255)
  let t38 : Int := (IntKind.i64.wrap t37)
  let t39 : Int := (bitop .and .u64 (x0.C 28) 255)
  let t40 : Int := (IntKind.i64.wrap t39)
  k (GAsking.mk true true r4 r3 t38 t31 t40 t33)) (
  k (GAsking.mk false true r4 r3 0 t31 0 t33))) (
  let t41 : Int := (gshr .u64 (x0.C 28) 63)
  let b42 : Bool := (t41 == 1)
  cond b42 (
  let t43 : Int := (gshr .u64 (x0.C 28) 16)
  let t44 : Int := (bitop .and .u64 t43 255)
  let t45 : Int := (IntKind.i64.wrap t44)
  let t46 : Int := (bitop .and .u64 (x0.C 28) 255)
  let t47 : Int := (IntKind.i64.wrap t46)
  k (GAsking.mk true false r4 r3 t45 0 t47 0)) (
  k (GAsking.mk false false r4 r3 0 0 0 0))))))) (
  let t48 : Int := (gshr .u64 (x0.C 15) 63)
  let b49 : Bool := (t48 == 1)
  cond b49 (
  let t50 : Int := (gshr .u64 (x0.C 15) 16)
  let t51 : Int := (bitop .and .u64 t50 255)
  let t52 : Int := (IntKind.i64.wrap t51)
  let t53 : Int := (bitop .and .u64 (x0.C 15) 255)
  let t54 : Int := (IntKind.i64.wrap t53)
  k (GAsking.mk true false r2 r3 t52 0 t54 0)) (
  k (GAsking.mk false false r2 r3 0 0 0 0))))))
theorem le_z1j {α : Type} {F F' : Sg_z1j α} (h : ∀ x0 x1 x2 k r, F' x0 x1 x2 k = some r → F x0 x1 x2 k = some r) {args : List SV} {k : SV → R α} {r : α} (hk : ad_z1j F' args k = some r) : ad_z1j F args k = some r := by
  unfold ad_z1j at hk
  split at hk <;> try (cases hk; done)
  obtain ⟨x0, rfl, hk0⟩ := GState.dec_spec hk
  obtain ⟨x1, rfl, hk1⟩ := decI_spec hk0
  obtain ⟨x2, rfl, hk2⟩ := decB_spec hk1
  have hkz := hk2
  exact h x0 x1 x2 _ _ hkz
abbrev Sg_za (α : Type) := Int → (Int → R α) → R α
def ad_za {α : Type} (F : Sg_za α) : FP α := fun args k => match args with
  | [a0] => decI .i64 a0 fun x0 => F x0 (fun r0 => k (.int .u64 r0))
  | _ => none
def dR_ref11_Page {α : Type} (a0 : SV) (k : Int → R α) : R α := decI .u64 a0 fun x0 => k x0
theorem dR_ref11_Page_spec {α : Type} {v : SV} {k : Int → R α} {r : α} (h : dR_ref11_Page v k = some r) : ∃ x0, v = (.int .u64 x0) ∧ k x0 = some r := by
  unfold dR_ref11_Page at h
  obtain ⟨x0, rfl, h0⟩ := decI_spec h
  exact ⟨x0, rfl, h0⟩
def p_za {α : Type}  (x0 : Int) (k : Int → R α) : R α :=
  cond (decide (0 ≤ x0) && decide (x0 < 3)) (
  cond (decide ((Int.toNat x0) < 3)) (
  k ((upd (upd (upd (fun _ => 0) 0 12) 1 13) 2 15) (Int.toNat x0))) none) none
theorem le_za {α : Type} {F F' : Sg_za α} (h : ∀ x0 k r, F' x0 k = some r → F x0 k = some r) {args : List SV} {k : SV → R α} {r : α} (hk : ad_za F' args k = some r) : ad_za F args k = some r := by
  unfold ad_za at hk
  split at hk <;> try (cases hk; done)
  obtain ⟨x0, rfl, hk0⟩ := decI_spec hk
  have hkz := hk0
  exact h x0 _ _ hkz
abbrev Sg_z9 (α : Type) := Int → (Int → R α) → R α
def ad_z9 {α : Type} (F : Sg_z9 α) : FP α := fun args k => match args with
  | [a0] => decI .i64 a0 fun x0 => F x0 (fun r0 => k (.int .u64 r0))
  | _ => none
def dR_ref11_GuestFault {α : Type} (a0 : SV) (k : Int → R α) : R α := decI .u64 a0 fun x0 => k x0
theorem dR_ref11_GuestFault_spec {α : Type} {v : SV} {k : Int → R α} {r : α} (h : dR_ref11_GuestFault v k = some r) : ∃ x0, v = (.int .u64 x0) ∧ k x0 = some r := by
  unfold dR_ref11_GuestFault at h
  obtain ⟨x0, rfl, h0⟩ := decI_spec h
  exact ⟨x0, rfl, h0⟩
def p_z9 {α : Type}  (x0 : Int) (k : Int → R α) : R α :=
  cond (decide (0 ≤ x0) && decide (x0 < 3)) (
  cond (decide ((Int.toNat x0) < 3)) (
  k ((upd (upd (upd (fun _ => 0) 0 20) 1 21) 2 23) (Int.toNat x0))) none) none
theorem le_z9 {α : Type} {F F' : Sg_z9 α} (h : ∀ x0 k r, F' x0 k = some r → F x0 k = some r) {args : List SV} {k : SV → R α} {r : α} (hk : ad_z9 F' args k = some r) : ad_z9 F args k = some r := by
  unfold ad_z9 at hk
  split at hk <;> try (cases hk; done)
  obtain ⟨x0, rfl, hk0⟩ := decI_spec hk
  have hkz := hk0
  exact h x0 _ _ hkz
abbrev Sg_z2 (α : Type) := Int → (Int → R α) → R α
def ad_z2 {α : Type} (F : Sg_z2 α) : FP α := fun args k => match args with
  | [a0] => decI .i64 a0 fun x0 => F x0 (fun r0 => k (.int .u64 r0))
  | _ => none
def dR_ref11_Bad {α : Type} (a0 : SV) (k : Int → R α) : R α := decI .u64 a0 fun x0 => k x0
theorem dR_ref11_Bad_spec {α : Type} {v : SV} {k : Int → R α} {r : α} (h : dR_ref11_Bad v k = some r) : ∃ x0, v = (.int .u64 x0) ∧ k x0 = some r := by
  unfold dR_ref11_Bad at h
  obtain ⟨x0, rfl, h0⟩ := decI_spec h
  exact ⟨x0, rfl, h0⟩
def p_z2 {α : Type}  (x0 : Int) (k : Int → R α) : R α :=
  cond (decide (0 ≤ x0) && decide (x0 < 3)) (
  cond (decide ((Int.toNat x0) < 3)) (
  k ((upd (upd (upd (fun _ => 0) 0 1) 1 5) 2 7) (Int.toNat x0))) none) none
theorem le_z2 {α : Type} {F F' : Sg_z2 α} (h : ∀ x0 k r, F' x0 k = some r → F x0 k = some r) {args : List SV} {k : SV → R α} {r : α} (hk : ad_z2 F' args k = some r) : ad_z2 F args k = some r := by
  unfold ad_z2 at hk
  split at hk <;> try (cases hk; done)
  obtain ⟨x0, rfl, hk0⟩ := decI_spec hk
  have hkz := hk0
  exact h x0 _ _ hkz
abbrev Sg_z7 (α : Type) := (Nat → Int) → Int → Int → (Int → R α) → R α
def ad_z7 {α : Type} (F : Sg_z7 α) : FF α := fun args σ k => match args with
  | [a0, a1, a2] => withMem σ a0 fun _ b1 _ g1 x0 => decI .u64 a1 fun x1 => decI .i64 a2 fun x2 => F x0 x1 x2 (fun r0 => k (.int .i64 r0) σ)
  | _ => none
def dR_ref1_Mem_Code {α : Type} (a0 : SV) (σ1 : Heap) (k : Int → R α) : R α := bif kept 2 σ1 then (decI .i64 a0 fun r0 => k r0) else none
def p_z7 {α : Type}  (x0 : (Nat → Int)) (x1 : Int) (x2 : Int) (k : Int → R α) : R α :=
  let b1 : Bool := (x2 != 1)
  cond b1 (
  let b2 : Bool := (x2 != 2)
  cond b2 (
  let b3 : Bool := (x2 != 4)
  cond b3 (
  let b4 : Bool := (x2 != 8)
  cond b4 (
  k 61) (
  let t5 : Int := (IntKind.u64.wrap x2)
  cond (decide (t5 = 0)) none (
  let t6 : Int := (Int.tmod x1 t5)
  let b7 : Bool := (t6 != 0)
  cond b7 (
  k 61) (
  let b8 : Bool := (leB 32768 x1)
  cond b8 (
  k 60) (
  let t9 : Int := (IntKind.u64.wrap (32768 - x1))
  let t10 : Int := (IntKind.u64.wrap x2)
  let b11 : Bool := (ltB t9 t10)
  cond b11 (
  k 60) (
  k 0)))))) (
  let t12 : Int := (IntKind.u64.wrap x2)
  cond (decide (t12 = 0)) none (
  let t13 : Int := (Int.tmod x1 t12)
  let b14 : Bool := (t13 != 0)
  cond b14 (
  k 61) (
  let b15 : Bool := (leB 32768 x1)
  cond b15 (
  k 60) (
  let t16 : Int := (IntKind.u64.wrap (32768 - x1))
  let t17 : Int := (IntKind.u64.wrap x2)
  let b18 : Bool := (ltB t16 t17)
  cond b18 (
  k 60) (
  k 0)))))) (
  let t19 : Int := (IntKind.u64.wrap x2)
  cond (decide (t19 = 0)) none (
  let t20 : Int := (Int.tmod x1 t19)
  let b21 : Bool := (t20 != 0)
  cond b21 (
  k 61) (
  let b22 : Bool := (leB 32768 x1)
  cond b22 (
  k 60) (
  let t23 : Int := (IntKind.u64.wrap (32768 - x1))
  let t24 : Int := (IntKind.u64.wrap x2)
  let b25 : Bool := (ltB t23 t24)
  cond b25 (
  k 60) (
  k 0)))))) (
  let t26 : Int := (IntKind.u64.wrap x2)
  cond (decide (t26 = 0)) none (
  let t27 : Int := (Int.tmod x1 t26)
  let b28 : Bool := (t27 != 0)
  cond b28 (
  k 61) (
  let b29 : Bool := (leB 32768 x1)
  cond b29 (
  k 60) (
  let t30 : Int := (IntKind.u64.wrap (32768 - x1))
  let t31 : Int := (IntKind.u64.wrap x2)
  let b32 : Bool := (ltB t30 t31)
  cond b32 (
  k 60) (
  k 0)))))
theorem le_z7 {α : Type} {F F' : Sg_z7 α} (h : ∀ x0 x1 x2 k r, F' x0 x1 x2 k = some r → F x0 x1 x2 k = some r) {args : List SV} {σ : Heap} {k : SV → Heap → R α} {r : α} (hk : ad_z7 F' args σ k = some r) : ad_z7 F args σ k = some r := by
  unfold ad_z7 at hk
  split at hk <;> try (cases hk; done)
  obtain ⟨b, b1, g0, g1, x0, rfl, h0, h1, hne, hk0⟩ := withMem_spec hk
  obtain ⟨x1, rfl, hk1⟩ := decI_spec hk0
  obtain ⟨x2, rfl, hk2⟩ := decI_spec hk1
  have hkz := hk2
  unfold ad_z7
  dsimp only
  rw [withMem_eq h0 h1 hne]
  exact h x0 x1 x2 _ _ hkz
abbrev Sg_z1e (α : Type) := (Nat → Int) → GAsking → Int → Int → Int → GEntry → GFault → Bool → (Int → Int → Bool → Int → GEntry → GFault → Bool → Bool → Nat → (Nat → Int) → R α) → R α
def ad_z1e {α : Type} (F : Sg_z1e α) : FF α := fun args σ k => match args with
  | [a0, a1, a2, a3, a4] => withMem σ a0 fun b b1 _ g1 x0 => withCell σ a4 fun c g2 v => bif !(Nat.beq c b) && !(Nat.beq c b1) then (match v with | .agg [u0, u1, u2, u3, u4] => decI .u64 u0 fun y0 => GEntry.dec u1 fun y1 => GFault.dec u2 fun y2 => decB u3 fun y3 => decNil u4 <| GAsking.dec a1 fun x1 => decI .u64 a2 fun x2 => decI .i64 a3 fun x3 => F x0 x1 x2 x3 y0 y1 y2 y3 (fun r0 r1 r2 c0 c1 c2 c3 nl n tf => cond nl (k (.tuple [(.int .u64 r0), (.int .i64 r1), (.bool r2)]) ⟨σ.next, [(c, .cells g2 (.agg [(.int .u64 c0), (GEntry.sv c1), (GFault.sv c2), (.bool c3), .nils]))] ++ σ.blocks⟩) (k (.tuple [(.int .u64 r0), (.int .i64 r1), (.bool r2)]) ⟨σ.next + 1, [(c, .cells g2 (.agg [(.int .u64 c0), (GEntry.sv c1), (GFault.sv c2), (.bool c3), (.slc σ.next [] 1 0 n none)])), (σ.next, .cells (some 1) (.ints .i64 n tf))] ++ σ.blocks⟩)) | _ => none) else none
  | _ => none
def dR_ref11_first {α : Type} (v : SV) (σ1 : Heap) (k : Option Nat → Int → Int → Bool → Int → GEntry → GFault → Bool → Bool → Nat → (Nat → Int) → R α) : R α := bif keptX 3 2 σ1 then (match v with | .tuple [a0, a1, a2] => (decI .u64 a0 fun r0 => decI .i64 a1 fun r1 => decB a2 fun r2 => nowCell σ1 2 fun g v2 => match v2 with | .agg [u0, u1, u2, u3, u4] => decI .u64 u0 fun c0 => GEntry.dec u1 fun c1 => GFault.dec u2 fun c2 => decB u3 fun c3 => decR 3 .i64 u4 σ1 fun nl n tf => k g r0 r1 r2 c0 c1 c2 c3 nl n tf | _ => none) | _ => none) else none
def p_z1e {α : Type} (F_zm : Sg_zm α) (F_z9 : Sg_z9 α) (F_z2 : Sg_z2 α) (F_z7 : Sg_z7 α) (F_z8 : Sg_z8 α) (F_zb : Sg_zb α) (F_za : Sg_za α) (F_z6 : Sg_z6 α) (F_z4 : Sg_z4 α) (x0 : Nat → Int) (x1 : GAsking) (x2 : Int) (x3 : Int) (y0 : Int) (y1 : GEntry) (y2 : GFault) (y3 : Bool) (k : Int → Int → Bool → Int → GEntry → GFault → Bool → Bool → Nat → (Nat → Int) → R α) : R α :=
  let t1 : Int := (gshr .u64 x2 12)
  let t2 : Int := (bitop .and .u64 t1 15)
  let t3 : Int := (IntKind.u64.wrap x1.Root)
  let t4 : Int := (gshl .u64 t3 8)
  let t5 : Int := (IntKind.u64.wrap (8 * t2))
  let t6 : Int := (IntKind.u64.wrap (t4 + t5))
  F_zm x0 x1 t6 1 false (fun r7 r8 r9 nl10 n11 tf12 =>
  cond nl10 (
  let b13 : Bool := (r9 == 1)
  cond b13 (
  F_z9 x3 (fun r14 =>
  let t15 : Int := (IntKind.u64.wrap (Int.tdiv t6 4))
  k 0 0 false y0 y1 (GFault.mk r14 y2.Value t15 y2.GVA) y3 true 0 (fun _ => 0))) (
  let b16 : Bool := (r9 == 2)
  cond b16 (
  F_z2 x3 (fun r17 =>
  k 0 0 false y0 y1 (GFault.mk r17 y2.Value y2.Place y2.GVA) y3 true 0 (fun _ => 0))) (
  F_z7 x0 r7 8 (fun r18 =>
  let b19 : Bool := (r18 != 0)
  cond b19 (
  F_z2 x3 (fun r20 =>
  k 0 0 false y0 y1 (GFault.mk r20 y2.Value y2.Place y2.GVA) y3 true 0 (fun _ => 0))) (
  let t21 : Int := (gshr .u64 r7 8)
  let t22 : Int := (IntKind.i64.wrap t21)
  F_z8 x0 r7 8 (fun r23 =>
  F_zb r23 (fun r24 =>
  let b25 : Bool := (!r24)
  cond b25 (
  F_za x3 (fun r26 =>
  k 0 0 false y0 y1 (GFault.mk r26 y2.Value y2.Place y2.GVA) y3 false 1 (fun i => (upd (fun _ => 0) 0 t22) (0 + i)))) (
  F_z6 r23 (fun r27 =>
  cond r27 (
  F_z4 r23 (fun r28 =>
  let t29 : Int := (bitop .and .i64 r28 15)
  let b30 : Bool := (t29 != 0)
  cond b30 (
  F_za x3 (fun r31 =>
  k 0 0 false y0 y1 (GFault.mk r31 y2.Value y2.Place y2.GVA) y3 false 1 (fun i => (upd (fun _ => 0) 0 t22) (0 + i)))) (
  F_z6 r23 (fun r32 =>
  cond r32 (
  F_z4 r23 (fun r33 =>
  let t34 : Int := (gshr .u64 x2 8)
  let t35 : Int := (bitop .and .u64 t34 15)
  let t36 : Int := (IntKind.i64.wrap t35)
  let t37 : Int := (bitop .or .i64 r33 t36)
  k r23 t37 true y0 y1 y2 y3 false 1 (fun i => (upd (fun _ => 0) 0 t22) (0 + i)))) (
  F_z6 r23 (fun r38 =>
  cond r38 (
  F_z4 r23 (fun r39 =>
  k r23 r39 true y0 y1 y2 y3 false 1 (fun i => (upd (fun _ => 0) 0 t22) (0 + i)))) (
  F_z4 r23 (fun r40 =>
  let t41 : Int := (gshr .u64 x2 12)
  let t42 : Int := (bitop .and .u64 t41 15)
  let t43 : Int := (gshr .u64 x2 8)
  let t44 : Int := (bitop .and .u64 t43 15)
  let t45 : Int := (IntKind.u64.wrap r40)
  let t46 : Int := (gshl .u64 t45 8)
  let t47 : Int := (IntKind.u64.wrap (8 * t44))
  let t48 : Int := (IntKind.u64.wrap (t46 + t47))
  F_zm x0 x1 t48 1 false (fun r49 r50 r51 nl52 n53 tf54 =>
  cond nl52 (
  let b55 : Bool := (r51 == 1)
  cond b55 (
  F_z9 x3 (fun r56 =>
  let t57 : Int := (IntKind.u64.wrap (Int.tdiv t48 4))
  k 0 0 false y0 y1 (GFault.mk r56 y2.Value t57 y2.GVA) y3 false 1 (fun i => (upd (fun _ => 0) 0 t22) (0 + i)))) (
  let b58 : Bool := (r51 == 2)
  cond b58 (
  F_z2 x3 (fun r59 =>
  k 0 0 false y0 y1 (GFault.mk r59 y2.Value y2.Place y2.GVA) y3 false 1 (fun i => (upd (fun _ => 0) 0 t22) (0 + i)))) (
  F_z7 x0 r49 8 (fun r60 =>
  let b61 : Bool := (r60 != 0)
  cond b61 (
  F_z2 x3 (fun r62 =>
  k 0 0 false y0 y1 (GFault.mk r62 y2.Value y2.Place y2.GVA) y3 false 1 (fun i => (upd (fun _ => 0) 0 t22) (0 + i)))) (
  let t63 : Int := (gshr .u64 r49 8)
  let t64 : Int := (IntKind.i64.wrap t63)
  F_z8 x0 r49 8 (fun r65 =>
  F_zb r65 (fun r66 =>
  let b67 : Bool := (!r66)
  cond b67 (
  F_za x3 (fun r68 =>
  k 0 0 false y0 y1 (GFault.mk r68 y2.Value y2.Place y2.GVA) y3 false 2 (fun i => bif Nat.blt i 1 then (fun i => (fun i => (upd (fun _ => 0) 0 t22) (0 + i)) (0 + i)) i else (fun i => (upd (fun _ => 0) 0 t64) (0 + i)) (i - 1)))) (
  F_z6 r65 (fun r69 =>
  let b70 : Bool := (!r69)
  cond b70 (
  F_za x3 (fun r71 =>
  k 0 0 false y0 y1 (GFault.mk r71 y2.Value y2.Place y2.GVA) y3 false 2 (fun i => bif Nat.blt i 1 then (fun i => (fun i => (upd (fun _ => 0) 0 t22) (0 + i)) (0 + i)) i else (fun i => (upd (fun _ => 0) 0 t64) (0 + i)) (i - 1)))) (
  F_z6 r65 (fun r72 =>
  cond r72 (
  F_z6 r65 (fun r73 =>
  cond r73 (
  F_z4 r65 (fun r74 =>
  k r65 r74 true y0 y1 y2 y3 false 2 (fun i => bif Nat.blt i 1 then (fun i => (fun i => (upd (fun _ => 0) 0 t22) (0 + i)) (0 + i)) i else (fun i => (upd (fun _ => 0) 0 t64) (0 + i)) (i - 1)))) (
  F_z4 r65 (fun r75 =>
  k 0 0 false y0 y1 y2 y3 false 2 (fun i => bif Nat.blt i 1 then (fun i => (fun i => (upd (fun _ => 0) 0 t22) (0 + i)) (0 + i)) i else (fun i => (upd (fun _ => 0) 0 t64) (0 + i)) (i - 1)))))) (
  F_z6 r65 (fun r76 =>
  cond r76 (
  F_z4 r65 (fun r77 =>
  k r65 r77 true y0 y1 y2 y3 false 2 (fun i => bif Nat.blt i 1 then (fun i => (fun i => (upd (fun _ => 0) 0 t22) (0 + i)) (0 + i)) i else (fun i => (upd (fun _ => 0) 0 t64) (0 + i)) (i - 1)))) (
  F_z4 r65 (fun r78 =>
  k 0 0 false y0 y1 y2 y3 false 2 (fun i => bif Nat.blt i 1 then (fun i => (fun i => (upd (fun _ => 0) 0 t22) (0 + i)) (0 + i)) i else (fun i => (upd (fun _ => 0) 0 t64) (0 + i)) (i - 1))))))))))))))))) (
  cond (decide (0 + n53 ≤ n53)) (
  cond (Nat.beq n53 0) (
  let b79 : Bool := (r51 == 1)
  cond b79 (
  F_z9 x3 (fun r80 =>
  let t81 : Int := (IntKind.u64.wrap (Int.tdiv t48 4))
  k 0 0 false y0 y1 (GFault.mk r80 y2.Value t81 y2.GVA) y3 false 1 (fun i => (upd (fun _ => 0) 0 t22) (0 + i)))) (
  let b82 : Bool := (r51 == 2)
  cond b82 (
  F_z2 x3 (fun r83 =>
  k 0 0 false y0 y1 (GFault.mk r83 y2.Value y2.Place y2.GVA) y3 false 1 (fun i => (upd (fun _ => 0) 0 t22) (0 + i)))) (
  F_z7 x0 r49 8 (fun r84 =>
  let b85 : Bool := (r84 != 0)
  cond b85 (
  F_z2 x3 (fun r86 =>
  k 0 0 false y0 y1 (GFault.mk r86 y2.Value y2.Place y2.GVA) y3 false 1 (fun i => (upd (fun _ => 0) 0 t22) (0 + i)))) (
  let t87 : Int := (gshr .u64 r49 8)
  let t88 : Int := (IntKind.i64.wrap t87)
  F_z8 x0 r49 8 (fun r89 =>
  F_zb r89 (fun r90 =>
  let b91 : Bool := (!r90)
  cond b91 (
  F_za x3 (fun r92 =>
  k 0 0 false y0 y1 (GFault.mk r92 y2.Value y2.Place y2.GVA) y3 false 2 (fun i => bif Nat.blt i 1 then (fun i => (fun i => (upd (fun _ => 0) 0 t22) (0 + i)) (0 + i)) i else (fun i => (upd (fun _ => 0) 0 t88) (0 + i)) (i - 1)))) (
  F_z6 r89 (fun r93 =>
  let b94 : Bool := (!r93)
  cond b94 (
  F_za x3 (fun r95 =>
  k 0 0 false y0 y1 (GFault.mk r95 y2.Value y2.Place y2.GVA) y3 false 2 (fun i => bif Nat.blt i 1 then (fun i => (fun i => (upd (fun _ => 0) 0 t22) (0 + i)) (0 + i)) i else (fun i => (upd (fun _ => 0) 0 t88) (0 + i)) (i - 1)))) (
  F_z6 r89 (fun r96 =>
  cond r96 (
  F_z6 r89 (fun r97 =>
  cond r97 (
  F_z4 r89 (fun r98 =>
  k r89 r98 true y0 y1 y2 y3 false 2 (fun i => bif Nat.blt i 1 then (fun i => (fun i => (upd (fun _ => 0) 0 t22) (0 + i)) (0 + i)) i else (fun i => (upd (fun _ => 0) 0 t88) (0 + i)) (i - 1)))) (
  F_z4 r89 (fun r99 =>
  k 0 0 false y0 y1 y2 y3 false 2 (fun i => bif Nat.blt i 1 then (fun i => (fun i => (upd (fun _ => 0) 0 t22) (0 + i)) (0 + i)) i else (fun i => (upd (fun _ => 0) 0 t88) (0 + i)) (i - 1)))))) (
  F_z6 r89 (fun r100 =>
  cond r100 (
  F_z4 r89 (fun r101 =>
  k r89 r101 true y0 y1 y2 y3 false 2 (fun i => bif Nat.blt i 1 then (fun i => (fun i => (upd (fun _ => 0) 0 t22) (0 + i)) (0 + i)) i else (fun i => (upd (fun _ => 0) 0 t88) (0 + i)) (i - 1)))) (
  F_z4 r89 (fun r102 =>
  k 0 0 false y0 y1 y2 y3 false 2 (fun i => bif Nat.blt i 1 then (fun i => (fun i => (upd (fun _ => 0) 0 t22) (0 + i)) (0 + i)) i else (fun i => (upd (fun _ => 0) 0 t88) (0 + i)) (i - 1))))))))))))))))) (
  cond (decide ((1 + n53) * 8 ≤ 140737488355328) && decide ((1 + n53) ≤ 4611686018427387904)) (
  let b103 : Bool := (r51 == 1)
  cond b103 (
  F_z9 x3 (fun r104 =>
  let t105 : Int := (IntKind.u64.wrap (Int.tdiv t48 4))
  cond (Nat.beq (1 + n53) (1 + n53)) (k 0 0 false y0 y1 (GFault.mk r104 y2.Value t105 y2.GVA) y3 false (1 + n53) (fun i => bif Nat.blt i 1 then (fun i => (fun i => (upd (fun _ => 0) 0 t22) (0 + i)) (0 + i)) i else (fun i => tf54 (0 + i)) (i - 1))) none)) (
  let b106 : Bool := (r51 == 2)
  cond b106 (
  F_z2 x3 (fun r107 =>
  cond (Nat.beq (1 + n53) (1 + n53)) (k 0 0 false y0 y1 (GFault.mk r107 y2.Value y2.Place y2.GVA) y3 false (1 + n53) (fun i => bif Nat.blt i 1 then (fun i => (fun i => (upd (fun _ => 0) 0 t22) (0 + i)) (0 + i)) i else (fun i => tf54 (0 + i)) (i - 1))) none)) (
  F_z7 x0 r49 8 (fun r108 =>
  let b109 : Bool := (r108 != 0)
  cond b109 (
  F_z2 x3 (fun r110 =>
  cond (Nat.beq (1 + n53) (1 + n53)) (k 0 0 false y0 y1 (GFault.mk r110 y2.Value y2.Place y2.GVA) y3 false (1 + n53) (fun i => bif Nat.blt i 1 then (fun i => (fun i => (upd (fun _ => 0) 0 t22) (0 + i)) (0 + i)) i else (fun i => tf54 (0 + i)) (i - 1))) none)) (
  let t111 : Int := (gshr .u64 r49 8)
  let t112 : Int := (IntKind.i64.wrap t111)
  cond (decide (0 + (1 + n53) ≤ (1 + n53))) (
  cond (decide (((1 + n53) + 1) * 8 ≤ 140737488355328) && decide (((1 + n53) + 1) ≤ 4611686018427387904)) (
  F_z8 x0 r49 8 (fun r113 =>
  F_zb r113 (fun r114 =>
  let b115 : Bool := (!r114)
  cond b115 (
  F_za x3 (fun r116 =>
  cond (Nat.beq ((1 + n53) + 1) ((1 + n53) + 1)) (k 0 0 false y0 y1 (GFault.mk r116 y2.Value y2.Place y2.GVA) y3 false ((1 + n53) + 1) (fun i => bif Nat.blt i (1 + n53) then (fun i => (fun i => bif Nat.blt i 1 then (fun i => (fun i => (upd (fun _ => 0) 0 t22) (0 + i)) (0 + i)) i else (fun i => tf54 (0 + i)) (i - 1)) (0 + i)) i else (fun i => (upd (fun _ => 0) 0 t112) (0 + i)) (i - (1 + n53)))) none)) (
  F_z6 r113 (fun r117 =>
  let b118 : Bool := (!r117)
  cond b118 (
  F_za x3 (fun r119 =>
  cond (Nat.beq ((1 + n53) + 1) ((1 + n53) + 1)) (k 0 0 false y0 y1 (GFault.mk r119 y2.Value y2.Place y2.GVA) y3 false ((1 + n53) + 1) (fun i => bif Nat.blt i (1 + n53) then (fun i => (fun i => bif Nat.blt i 1 then (fun i => (fun i => (upd (fun _ => 0) 0 t22) (0 + i)) (0 + i)) i else (fun i => tf54 (0 + i)) (i - 1)) (0 + i)) i else (fun i => (upd (fun _ => 0) 0 t112) (0 + i)) (i - (1 + n53)))) none)) (
  F_z6 r113 (fun r120 =>
  cond r120 (
  F_z6 r113 (fun r121 =>
  cond r121 (
  F_z4 r113 (fun r122 =>
  cond (Nat.beq ((1 + n53) + 1) ((1 + n53) + 1)) (k r113 r122 true y0 y1 y2 y3 false ((1 + n53) + 1) (fun i => bif Nat.blt i (1 + n53) then (fun i => (fun i => bif Nat.blt i 1 then (fun i => (fun i => (upd (fun _ => 0) 0 t22) (0 + i)) (0 + i)) i else (fun i => tf54 (0 + i)) (i - 1)) (0 + i)) i else (fun i => (upd (fun _ => 0) 0 t112) (0 + i)) (i - (1 + n53)))) none)) (
  F_z4 r113 (fun r123 =>
  cond (Nat.beq ((1 + n53) + 1) ((1 + n53) + 1)) (k 0 0 false y0 y1 y2 y3 false ((1 + n53) + 1) (fun i => bif Nat.blt i (1 + n53) then (fun i => (fun i => bif Nat.blt i 1 then (fun i => (fun i => (upd (fun _ => 0) 0 t22) (0 + i)) (0 + i)) i else (fun i => tf54 (0 + i)) (i - 1)) (0 + i)) i else (fun i => (upd (fun _ => 0) 0 t112) (0 + i)) (i - (1 + n53)))) none)))) (
  F_z6 r113 (fun r124 =>
  cond r124 (
  F_z4 r113 (fun r125 =>
  cond (Nat.beq ((1 + n53) + 1) ((1 + n53) + 1)) (k r113 r125 true y0 y1 y2 y3 false ((1 + n53) + 1) (fun i => bif Nat.blt i (1 + n53) then (fun i => (fun i => bif Nat.blt i 1 then (fun i => (fun i => (upd (fun _ => 0) 0 t22) (0 + i)) (0 + i)) i else (fun i => tf54 (0 + i)) (i - 1)) (0 + i)) i else (fun i => (upd (fun _ => 0) 0 t112) (0 + i)) (i - (1 + n53)))) none)) (
  F_z4 r113 (fun r126 =>
  cond (Nat.beq ((1 + n53) + 1) ((1 + n53) + 1)) (k 0 0 false y0 y1 y2 y3 false ((1 + n53) + 1) (fun i => bif Nat.blt i (1 + n53) then (fun i => (fun i => bif Nat.blt i 1 then (fun i => (fun i => (upd (fun _ => 0) 0 t22) (0 + i)) (0 + i)) i else (fun i => tf54 (0 + i)) (i - 1)) (0 + i)) i else (fun i => (upd (fun _ => 0) 0 t112) (0 + i)) (i - (1 + n53)))) none))))))))))) none) none))))) none)) none)))))))))) (
  F_z6 r23 (fun r127 =>
  cond r127 (
  F_z4 r23 (fun r128 =>
  let t129 : Int := (gshr .u64 x2 8)
  let t130 : Int := (bitop .and .u64 t129 15)
  let t131 : Int := (IntKind.i64.wrap t130)
  let t132 : Int := (bitop .or .i64 r128 t131)
  k r23 t132 true y0 y1 y2 y3 false 1 (fun i => (upd (fun _ => 0) 0 t22) (0 + i)))) (
  F_z6 r23 (fun r133 =>
  cond r133 (
  F_z4 r23 (fun r134 =>
  k r23 r134 true y0 y1 y2 y3 false 1 (fun i => (upd (fun _ => 0) 0 t22) (0 + i)))) (
  F_z4 r23 (fun r135 =>
  let t136 : Int := (gshr .u64 x2 12)
  let t137 : Int := (bitop .and .u64 t136 15)
  let t138 : Int := (gshr .u64 x2 8)
  let t139 : Int := (bitop .and .u64 t138 15)
  let t140 : Int := (IntKind.u64.wrap r135)
  let t141 : Int := (gshl .u64 t140 8)
  let t142 : Int := (IntKind.u64.wrap (8 * t139))
  let t143 : Int := (IntKind.u64.wrap (t141 + t142))
  F_zm x0 x1 t143 1 false (fun r144 r145 r146 nl147 n148 tf149 =>
  cond nl147 (
  let b150 : Bool := (r146 == 1)
  cond b150 (
  F_z9 x3 (fun r151 =>
  let t152 : Int := (IntKind.u64.wrap (Int.tdiv t143 4))
  k 0 0 false y0 y1 (GFault.mk r151 y2.Value t152 y2.GVA) y3 false 1 (fun i => (upd (fun _ => 0) 0 t22) (0 + i)))) (
  let b153 : Bool := (r146 == 2)
  cond b153 (
  F_z2 x3 (fun r154 =>
  k 0 0 false y0 y1 (GFault.mk r154 y2.Value y2.Place y2.GVA) y3 false 1 (fun i => (upd (fun _ => 0) 0 t22) (0 + i)))) (
  F_z7 x0 r144 8 (fun r155 =>
  let b156 : Bool := (r155 != 0)
  cond b156 (
  F_z2 x3 (fun r157 =>
  k 0 0 false y0 y1 (GFault.mk r157 y2.Value y2.Place y2.GVA) y3 false 1 (fun i => (upd (fun _ => 0) 0 t22) (0 + i)))) (
  let t158 : Int := (gshr .u64 r144 8)
  let t159 : Int := (IntKind.i64.wrap t158)
  F_z8 x0 r144 8 (fun r160 =>
  F_zb r160 (fun r161 =>
  let b162 : Bool := (!r161)
  cond b162 (
  F_za x3 (fun r163 =>
  k 0 0 false y0 y1 (GFault.mk r163 y2.Value y2.Place y2.GVA) y3 false 2 (fun i => bif Nat.blt i 1 then (fun i => (fun i => (upd (fun _ => 0) 0 t22) (0 + i)) (0 + i)) i else (fun i => (upd (fun _ => 0) 0 t159) (0 + i)) (i - 1)))) (
  F_z6 r160 (fun r164 =>
  let b165 : Bool := (!r164)
  cond b165 (
  F_za x3 (fun r166 =>
  k 0 0 false y0 y1 (GFault.mk r166 y2.Value y2.Place y2.GVA) y3 false 2 (fun i => bif Nat.blt i 1 then (fun i => (fun i => (upd (fun _ => 0) 0 t22) (0 + i)) (0 + i)) i else (fun i => (upd (fun _ => 0) 0 t159) (0 + i)) (i - 1)))) (
  F_z6 r160 (fun r167 =>
  cond r167 (
  F_z6 r160 (fun r168 =>
  cond r168 (
  F_z4 r160 (fun r169 =>
  k r160 r169 true y0 y1 y2 y3 false 2 (fun i => bif Nat.blt i 1 then (fun i => (fun i => (upd (fun _ => 0) 0 t22) (0 + i)) (0 + i)) i else (fun i => (upd (fun _ => 0) 0 t159) (0 + i)) (i - 1)))) (
  F_z4 r160 (fun r170 =>
  k 0 0 false y0 y1 y2 y3 false 2 (fun i => bif Nat.blt i 1 then (fun i => (fun i => (upd (fun _ => 0) 0 t22) (0 + i)) (0 + i)) i else (fun i => (upd (fun _ => 0) 0 t159) (0 + i)) (i - 1)))))) (
  F_z6 r160 (fun r171 =>
  cond r171 (
  F_z4 r160 (fun r172 =>
  k r160 r172 true y0 y1 y2 y3 false 2 (fun i => bif Nat.blt i 1 then (fun i => (fun i => (upd (fun _ => 0) 0 t22) (0 + i)) (0 + i)) i else (fun i => (upd (fun _ => 0) 0 t159) (0 + i)) (i - 1)))) (
  F_z4 r160 (fun r173 =>
  k 0 0 false y0 y1 y2 y3 false 2 (fun i => bif Nat.blt i 1 then (fun i => (fun i => (upd (fun _ => 0) 0 t22) (0 + i)) (0 + i)) i else (fun i => (upd (fun _ => 0) 0 t159) (0 + i)) (i - 1))))))))))))))))) (
  cond (decide (0 + n148 ≤ n148)) (
  cond (Nat.beq n148 0) (
  let b174 : Bool := (r146 == 1)
  cond b174 (
  F_z9 x3 (fun r175 =>
  let t176 : Int := (IntKind.u64.wrap (Int.tdiv t143 4))
  k 0 0 false y0 y1 (GFault.mk r175 y2.Value t176 y2.GVA) y3 false 1 (fun i => (upd (fun _ => 0) 0 t22) (0 + i)))) (
  let b177 : Bool := (r146 == 2)
  cond b177 (
  F_z2 x3 (fun r178 =>
  k 0 0 false y0 y1 (GFault.mk r178 y2.Value y2.Place y2.GVA) y3 false 1 (fun i => (upd (fun _ => 0) 0 t22) (0 + i)))) (
  F_z7 x0 r144 8 (fun r179 =>
  let b180 : Bool := (r179 != 0)
  cond b180 (
  F_z2 x3 (fun r181 =>
  k 0 0 false y0 y1 (GFault.mk r181 y2.Value y2.Place y2.GVA) y3 false 1 (fun i => (upd (fun _ => 0) 0 t22) (0 + i)))) (
  let t182 : Int := (gshr .u64 r144 8)
  let t183 : Int := (IntKind.i64.wrap t182)
  F_z8 x0 r144 8 (fun r184 =>
  F_zb r184 (fun r185 =>
  let b186 : Bool := (!r185)
  cond b186 (
  F_za x3 (fun r187 =>
  k 0 0 false y0 y1 (GFault.mk r187 y2.Value y2.Place y2.GVA) y3 false 2 (fun i => bif Nat.blt i 1 then (fun i => (fun i => (upd (fun _ => 0) 0 t22) (0 + i)) (0 + i)) i else (fun i => (upd (fun _ => 0) 0 t183) (0 + i)) (i - 1)))) (
  F_z6 r184 (fun r188 =>
  let b189 : Bool := (!r188)
  cond b189 (
  F_za x3 (fun r190 =>
  k 0 0 false y0 y1 (GFault.mk r190 y2.Value y2.Place y2.GVA) y3 false 2 (fun i => bif Nat.blt i 1 then (fun i => (fun i => (upd (fun _ => 0) 0 t22) (0 + i)) (0 + i)) i else (fun i => (upd (fun _ => 0) 0 t183) (0 + i)) (i - 1)))) (
  F_z6 r184 (fun r191 =>
  cond r191 (
  F_z6 r184 (fun r192 =>
  cond r192 (
  F_z4 r184 (fun r193 =>
  k r184 r193 true y0 y1 y2 y3 false 2 (fun i => bif Nat.blt i 1 then (fun i => (fun i => (upd (fun _ => 0) 0 t22) (0 + i)) (0 + i)) i else (fun i => (upd (fun _ => 0) 0 t183) (0 + i)) (i - 1)))) (
  F_z4 r184 (fun r194 =>
  k 0 0 false y0 y1 y2 y3 false 2 (fun i => bif Nat.blt i 1 then (fun i => (fun i => (upd (fun _ => 0) 0 t22) (0 + i)) (0 + i)) i else (fun i => (upd (fun _ => 0) 0 t183) (0 + i)) (i - 1)))))) (
  F_z6 r184 (fun r195 =>
  cond r195 (
  F_z4 r184 (fun r196 =>
  k r184 r196 true y0 y1 y2 y3 false 2 (fun i => bif Nat.blt i 1 then (fun i => (fun i => (upd (fun _ => 0) 0 t22) (0 + i)) (0 + i)) i else (fun i => (upd (fun _ => 0) 0 t183) (0 + i)) (i - 1)))) (
  F_z4 r184 (fun r197 =>
  k 0 0 false y0 y1 y2 y3 false 2 (fun i => bif Nat.blt i 1 then (fun i => (fun i => (upd (fun _ => 0) 0 t22) (0 + i)) (0 + i)) i else (fun i => (upd (fun _ => 0) 0 t183) (0 + i)) (i - 1))))))))))))))))) (
  cond (decide ((1 + n148) * 8 ≤ 140737488355328) && decide ((1 + n148) ≤ 4611686018427387904)) (
  let b198 : Bool := (r146 == 1)
  cond b198 (
  F_z9 x3 (fun r199 =>
  let t200 : Int := (IntKind.u64.wrap (Int.tdiv t143 4))
  cond (Nat.beq (1 + n148) (1 + n148)) (k 0 0 false y0 y1 (GFault.mk r199 y2.Value t200 y2.GVA) y3 false (1 + n148) (fun i => bif Nat.blt i 1 then (fun i => (fun i => (upd (fun _ => 0) 0 t22) (0 + i)) (0 + i)) i else (fun i => tf149 (0 + i)) (i - 1))) none)) (
  let b201 : Bool := (r146 == 2)
  cond b201 (
  F_z2 x3 (fun r202 =>
  cond (Nat.beq (1 + n148) (1 + n148)) (k 0 0 false y0 y1 (GFault.mk r202 y2.Value y2.Place y2.GVA) y3 false (1 + n148) (fun i => bif Nat.blt i 1 then (fun i => (fun i => (upd (fun _ => 0) 0 t22) (0 + i)) (0 + i)) i else (fun i => tf149 (0 + i)) (i - 1))) none)) (
  F_z7 x0 r144 8 (fun r203 =>
  let b204 : Bool := (r203 != 0)
  cond b204 (
  F_z2 x3 (fun r205 =>
  cond (Nat.beq (1 + n148) (1 + n148)) (k 0 0 false y0 y1 (GFault.mk r205 y2.Value y2.Place y2.GVA) y3 false (1 + n148) (fun i => bif Nat.blt i 1 then (fun i => (fun i => (upd (fun _ => 0) 0 t22) (0 + i)) (0 + i)) i else (fun i => tf149 (0 + i)) (i - 1))) none)) (
  let t206 : Int := (gshr .u64 r144 8)
  let t207 : Int := (IntKind.i64.wrap t206)
  cond (decide (0 + (1 + n148) ≤ (1 + n148))) (
  cond (decide (((1 + n148) + 1) * 8 ≤ 140737488355328) && decide (((1 + n148) + 1) ≤ 4611686018427387904)) (
  F_z8 x0 r144 8 (fun r208 =>
  F_zb r208 (fun r209 =>
  let b210 : Bool := (!r209)
  cond b210 (
  F_za x3 (fun r211 =>
  cond (Nat.beq ((1 + n148) + 1) ((1 + n148) + 1)) (k 0 0 false y0 y1 (GFault.mk r211 y2.Value y2.Place y2.GVA) y3 false ((1 + n148) + 1) (fun i => bif Nat.blt i (1 + n148) then (fun i => (fun i => bif Nat.blt i 1 then (fun i => (fun i => (upd (fun _ => 0) 0 t22) (0 + i)) (0 + i)) i else (fun i => tf149 (0 + i)) (i - 1)) (0 + i)) i else (fun i => (upd (fun _ => 0) 0 t207) (0 + i)) (i - (1 + n148)))) none)) (
  F_z6 r208 (fun r212 =>
  let b213 : Bool := (!r212)
  cond b213 (
  F_za x3 (fun r214 =>
  cond (Nat.beq ((1 + n148) + 1) ((1 + n148) + 1)) (k 0 0 false y0 y1 (GFault.mk r214 y2.Value y2.Place y2.GVA) y3 false ((1 + n148) + 1) (fun i => bif Nat.blt i (1 + n148) then (fun i => (fun i => bif Nat.blt i 1 then (fun i => (fun i => (upd (fun _ => 0) 0 t22) (0 + i)) (0 + i)) i else (fun i => tf149 (0 + i)) (i - 1)) (0 + i)) i else (fun i => (upd (fun _ => 0) 0 t207) (0 + i)) (i - (1 + n148)))) none)) (
  F_z6 r208 (fun r215 =>
  cond r215 (
  F_z6 r208 (fun r216 =>
  cond r216 (
  F_z4 r208 (fun r217 =>
  cond (Nat.beq ((1 + n148) + 1) ((1 + n148) + 1)) (k r208 r217 true y0 y1 y2 y3 false ((1 + n148) + 1) (fun i => bif Nat.blt i (1 + n148) then (fun i => (fun i => bif Nat.blt i 1 then (fun i => (fun i => (upd (fun _ => 0) 0 t22) (0 + i)) (0 + i)) i else (fun i => tf149 (0 + i)) (i - 1)) (0 + i)) i else (fun i => (upd (fun _ => 0) 0 t207) (0 + i)) (i - (1 + n148)))) none)) (
  F_z4 r208 (fun r218 =>
  cond (Nat.beq ((1 + n148) + 1) ((1 + n148) + 1)) (k 0 0 false y0 y1 y2 y3 false ((1 + n148) + 1) (fun i => bif Nat.blt i (1 + n148) then (fun i => (fun i => bif Nat.blt i 1 then (fun i => (fun i => (upd (fun _ => 0) 0 t22) (0 + i)) (0 + i)) i else (fun i => tf149 (0 + i)) (i - 1)) (0 + i)) i else (fun i => (upd (fun _ => 0) 0 t207) (0 + i)) (i - (1 + n148)))) none)))) (
  F_z6 r208 (fun r219 =>
  cond r219 (
  F_z4 r208 (fun r220 =>
  cond (Nat.beq ((1 + n148) + 1) ((1 + n148) + 1)) (k r208 r220 true y0 y1 y2 y3 false ((1 + n148) + 1) (fun i => bif Nat.blt i (1 + n148) then (fun i => (fun i => bif Nat.blt i 1 then (fun i => (fun i => (upd (fun _ => 0) 0 t22) (0 + i)) (0 + i)) i else (fun i => tf149 (0 + i)) (i - 1)) (0 + i)) i else (fun i => (upd (fun _ => 0) 0 t207) (0 + i)) (i - (1 + n148)))) none)) (
  F_z4 r208 (fun r221 =>
  cond (Nat.beq ((1 + n148) + 1) ((1 + n148) + 1)) (k 0 0 false y0 y1 y2 y3 false ((1 + n148) + 1) (fun i => bif Nat.blt i (1 + n148) then (fun i => (fun i => bif Nat.blt i 1 then (fun i => (fun i => (upd (fun _ => 0) 0 t22) (0 + i)) (0 + i)) i else (fun i => tf149 (0 + i)) (i - 1)) (0 + i)) i else (fun i => (upd (fun _ => 0) 0 t207) (0 + i)) (i - (1 + n148)))) none))))))))))) none) none))))) none)) none))))))))))))))))) (
  cond (decide (0 + n11 ≤ n11)) (
  cond (Nat.beq n11 0) (
  let b222 : Bool := (r9 == 1)
  cond b222 (
  F_z9 x3 (fun r223 =>
  let t224 : Int := (IntKind.u64.wrap (Int.tdiv t6 4))
  k 0 0 false y0 y1 (GFault.mk r223 y2.Value t224 y2.GVA) y3 true 0 (fun _ => 0))) (
  let b225 : Bool := (r9 == 2)
  cond b225 (
  F_z2 x3 (fun r226 =>
  k 0 0 false y0 y1 (GFault.mk r226 y2.Value y2.Place y2.GVA) y3 true 0 (fun _ => 0))) (
  F_z7 x0 r7 8 (fun r227 =>
  let b228 : Bool := (r227 != 0)
  cond b228 (
  F_z2 x3 (fun r229 =>
  k 0 0 false y0 y1 (GFault.mk r229 y2.Value y2.Place y2.GVA) y3 true 0 (fun _ => 0))) (
  let t230 : Int := (gshr .u64 r7 8)
  let t231 : Int := (IntKind.i64.wrap t230)
  F_z8 x0 r7 8 (fun r232 =>
  F_zb r232 (fun r233 =>
  let b234 : Bool := (!r233)
  cond b234 (
  F_za x3 (fun r235 =>
  k 0 0 false y0 y1 (GFault.mk r235 y2.Value y2.Place y2.GVA) y3 false 1 (fun i => (upd (fun _ => 0) 0 t231) (0 + i)))) (
  F_z6 r232 (fun r236 =>
  cond r236 (
  F_z4 r232 (fun r237 =>
  let t238 : Int := (bitop .and .i64 r237 15)
  let b239 : Bool := (t238 != 0)
  cond b239 (
  F_za x3 (fun r240 =>
  k 0 0 false y0 y1 (GFault.mk r240 y2.Value y2.Place y2.GVA) y3 false 1 (fun i => (upd (fun _ => 0) 0 t231) (0 + i)))) (
  F_z6 r232 (fun r241 =>
  cond r241 (
  F_z4 r232 (fun r242 =>
  let t243 : Int := (gshr .u64 x2 8)
  let t244 : Int := (bitop .and .u64 t243 15)
  let t245 : Int := (IntKind.i64.wrap t244)
  let t246 : Int := (bitop .or .i64 r242 t245)
  k r232 t246 true y0 y1 y2 y3 false 1 (fun i => (upd (fun _ => 0) 0 t231) (0 + i)))) (
  F_z6 r232 (fun r247 =>
  cond r247 (
  F_z4 r232 (fun r248 =>
  k r232 r248 true y0 y1 y2 y3 false 1 (fun i => (upd (fun _ => 0) 0 t231) (0 + i)))) (
  F_z4 r232 (fun r249 =>
  let t250 : Int := (gshr .u64 x2 12)
  let t251 : Int := (bitop .and .u64 t250 15)
  let t252 : Int := (gshr .u64 x2 8)
  let t253 : Int := (bitop .and .u64 t252 15)
  let t254 : Int := (IntKind.u64.wrap r249)
  let t255 : Int := (gshl .u64 t254 8)
  let t256 : Int := (IntKind.u64.wrap (8 * t253))
  let t257 : Int := (IntKind.u64.wrap (t255 + t256))
  F_zm x0 x1 t257 1 false (fun r258 r259 r260 nl261 n262 tf263 =>
  cond nl261 (
  let b264 : Bool := (r260 == 1)
  cond b264 (
  F_z9 x3 (fun r265 =>
  let t266 : Int := (IntKind.u64.wrap (Int.tdiv t257 4))
  k 0 0 false y0 y1 (GFault.mk r265 y2.Value t266 y2.GVA) y3 false 1 (fun i => (upd (fun _ => 0) 0 t231) (0 + i)))) (
  let b267 : Bool := (r260 == 2)
  cond b267 (
  F_z2 x3 (fun r268 =>
  k 0 0 false y0 y1 (GFault.mk r268 y2.Value y2.Place y2.GVA) y3 false 1 (fun i => (upd (fun _ => 0) 0 t231) (0 + i)))) (
  F_z7 x0 r258 8 (fun r269 =>
  let b270 : Bool := (r269 != 0)
  cond b270 (
  F_z2 x3 (fun r271 =>
  k 0 0 false y0 y1 (GFault.mk r271 y2.Value y2.Place y2.GVA) y3 false 1 (fun i => (upd (fun _ => 0) 0 t231) (0 + i)))) (
  let t272 : Int := (gshr .u64 r258 8)
  let t273 : Int := (IntKind.i64.wrap t272)
  F_z8 x0 r258 8 (fun r274 =>
  F_zb r274 (fun r275 =>
  let b276 : Bool := (!r275)
  cond b276 (
  F_za x3 (fun r277 =>
  k 0 0 false y0 y1 (GFault.mk r277 y2.Value y2.Place y2.GVA) y3 false 2 (fun i => bif Nat.blt i 1 then (fun i => (fun i => (upd (fun _ => 0) 0 t231) (0 + i)) (0 + i)) i else (fun i => (upd (fun _ => 0) 0 t273) (0 + i)) (i - 1)))) (
  F_z6 r274 (fun r278 =>
  let b279 : Bool := (!r278)
  cond b279 (
  F_za x3 (fun r280 =>
  k 0 0 false y0 y1 (GFault.mk r280 y2.Value y2.Place y2.GVA) y3 false 2 (fun i => bif Nat.blt i 1 then (fun i => (fun i => (upd (fun _ => 0) 0 t231) (0 + i)) (0 + i)) i else (fun i => (upd (fun _ => 0) 0 t273) (0 + i)) (i - 1)))) (
  F_z6 r274 (fun r281 =>
  cond r281 (
  F_z6 r274 (fun r282 =>
  cond r282 (
  F_z4 r274 (fun r283 =>
  k r274 r283 true y0 y1 y2 y3 false 2 (fun i => bif Nat.blt i 1 then (fun i => (fun i => (upd (fun _ => 0) 0 t231) (0 + i)) (0 + i)) i else (fun i => (upd (fun _ => 0) 0 t273) (0 + i)) (i - 1)))) (
  F_z4 r274 (fun r284 =>
  k 0 0 false y0 y1 y2 y3 false 2 (fun i => bif Nat.blt i 1 then (fun i => (fun i => (upd (fun _ => 0) 0 t231) (0 + i)) (0 + i)) i else (fun i => (upd (fun _ => 0) 0 t273) (0 + i)) (i - 1)))))) (
  F_z6 r274 (fun r285 =>
  cond r285 (
  F_z4 r274 (fun r286 =>
  k r274 r286 true y0 y1 y2 y3 false 2 (fun i => bif Nat.blt i 1 then (fun i => (fun i => (upd (fun _ => 0) 0 t231) (0 + i)) (0 + i)) i else (fun i => (upd (fun _ => 0) 0 t273) (0 + i)) (i - 1)))) (
  F_z4 r274 (fun r287 =>
  k 0 0 false y0 y1 y2 y3 false 2 (fun i => bif Nat.blt i 1 then (fun i => (fun i => (upd (fun _ => 0) 0 t231) (0 + i)) (0 + i)) i else (fun i => (upd (fun _ => 0) 0 t273) (0 + i)) (i - 1))))))))))))))))) (
  cond (decide (0 + n262 ≤ n262)) (
  cond (Nat.beq n262 0) (
  let b288 : Bool := (r260 == 1)
  cond b288 (
  F_z9 x3 (fun r289 =>
  let t290 : Int := (IntKind.u64.wrap (Int.tdiv t257 4))
  k 0 0 false y0 y1 (GFault.mk r289 y2.Value t290 y2.GVA) y3 false 1 (fun i => (upd (fun _ => 0) 0 t231) (0 + i)))) (
  let b291 : Bool := (r260 == 2)
  cond b291 (
  F_z2 x3 (fun r292 =>
  k 0 0 false y0 y1 (GFault.mk r292 y2.Value y2.Place y2.GVA) y3 false 1 (fun i => (upd (fun _ => 0) 0 t231) (0 + i)))) (
  F_z7 x0 r258 8 (fun r293 =>
  let b294 : Bool := (r293 != 0)
  cond b294 (
  F_z2 x3 (fun r295 =>
  k 0 0 false y0 y1 (GFault.mk r295 y2.Value y2.Place y2.GVA) y3 false 1 (fun i => (upd (fun _ => 0) 0 t231) (0 + i)))) (
  let t296 : Int := (gshr .u64 r258 8)
  let t297 : Int := (IntKind.i64.wrap t296)
  F_z8 x0 r258 8 (fun r298 =>
  F_zb r298 (fun r299 =>
  let b300 : Bool := (!r299)
  cond b300 (
  F_za x3 (fun r301 =>
  k 0 0 false y0 y1 (GFault.mk r301 y2.Value y2.Place y2.GVA) y3 false 2 (fun i => bif Nat.blt i 1 then (fun i => (fun i => (upd (fun _ => 0) 0 t231) (0 + i)) (0 + i)) i else (fun i => (upd (fun _ => 0) 0 t297) (0 + i)) (i - 1)))) (
  F_z6 r298 (fun r302 =>
  let b303 : Bool := (!r302)
  cond b303 (
  F_za x3 (fun r304 =>
  k 0 0 false y0 y1 (GFault.mk r304 y2.Value y2.Place y2.GVA) y3 false 2 (fun i => bif Nat.blt i 1 then (fun i => (fun i => (upd (fun _ => 0) 0 t231) (0 + i)) (0 + i)) i else (fun i => (upd (fun _ => 0) 0 t297) (0 + i)) (i - 1)))) (
  F_z6 r298 (fun r305 =>
  cond r305 (
  F_z6 r298 (fun r306 =>
  cond r306 (
  F_z4 r298 (fun r307 =>
  k r298 r307 true y0 y1 y2 y3 false 2 (fun i => bif Nat.blt i 1 then (fun i => (fun i => (upd (fun _ => 0) 0 t231) (0 + i)) (0 + i)) i else (fun i => (upd (fun _ => 0) 0 t297) (0 + i)) (i - 1)))) (
  F_z4 r298 (fun r308 =>
  k 0 0 false y0 y1 y2 y3 false 2 (fun i => bif Nat.blt i 1 then (fun i => (fun i => (upd (fun _ => 0) 0 t231) (0 + i)) (0 + i)) i else (fun i => (upd (fun _ => 0) 0 t297) (0 + i)) (i - 1)))))) (
  F_z6 r298 (fun r309 =>
  cond r309 (
  F_z4 r298 (fun r310 =>
  k r298 r310 true y0 y1 y2 y3 false 2 (fun i => bif Nat.blt i 1 then (fun i => (fun i => (upd (fun _ => 0) 0 t231) (0 + i)) (0 + i)) i else (fun i => (upd (fun _ => 0) 0 t297) (0 + i)) (i - 1)))) (
  F_z4 r298 (fun r311 =>
  k 0 0 false y0 y1 y2 y3 false 2 (fun i => bif Nat.blt i 1 then (fun i => (fun i => (upd (fun _ => 0) 0 t231) (0 + i)) (0 + i)) i else (fun i => (upd (fun _ => 0) 0 t297) (0 + i)) (i - 1))))))))))))))))) (
  cond (decide ((1 + n262) * 8 ≤ 140737488355328) && decide ((1 + n262) ≤ 4611686018427387904)) (
  let b312 : Bool := (r260 == 1)
  cond b312 (
  F_z9 x3 (fun r313 =>
  let t314 : Int := (IntKind.u64.wrap (Int.tdiv t257 4))
  cond (Nat.beq (1 + n262) (1 + n262)) (k 0 0 false y0 y1 (GFault.mk r313 y2.Value t314 y2.GVA) y3 false (1 + n262) (fun i => bif Nat.blt i 1 then (fun i => (fun i => (upd (fun _ => 0) 0 t231) (0 + i)) (0 + i)) i else (fun i => tf263 (0 + i)) (i - 1))) none)) (
  let b315 : Bool := (r260 == 2)
  cond b315 (
  F_z2 x3 (fun r316 =>
  cond (Nat.beq (1 + n262) (1 + n262)) (k 0 0 false y0 y1 (GFault.mk r316 y2.Value y2.Place y2.GVA) y3 false (1 + n262) (fun i => bif Nat.blt i 1 then (fun i => (fun i => (upd (fun _ => 0) 0 t231) (0 + i)) (0 + i)) i else (fun i => tf263 (0 + i)) (i - 1))) none)) (
  F_z7 x0 r258 8 (fun r317 =>
  let b318 : Bool := (r317 != 0)
  cond b318 (
  F_z2 x3 (fun r319 =>
  cond (Nat.beq (1 + n262) (1 + n262)) (k 0 0 false y0 y1 (GFault.mk r319 y2.Value y2.Place y2.GVA) y3 false (1 + n262) (fun i => bif Nat.blt i 1 then (fun i => (fun i => (upd (fun _ => 0) 0 t231) (0 + i)) (0 + i)) i else (fun i => tf263 (0 + i)) (i - 1))) none)) (
  let t320 : Int := (gshr .u64 r258 8)
  let t321 : Int := (IntKind.i64.wrap t320)
  cond (decide (0 + (1 + n262) ≤ (1 + n262))) (
  cond (decide (((1 + n262) + 1) * 8 ≤ 140737488355328) && decide (((1 + n262) + 1) ≤ 4611686018427387904)) (
  F_z8 x0 r258 8 (fun r322 =>
  F_zb r322 (fun r323 =>
  let b324 : Bool := (!r323)
  cond b324 (
  F_za x3 (fun r325 =>
  cond (Nat.beq ((1 + n262) + 1) ((1 + n262) + 1)) (k 0 0 false y0 y1 (GFault.mk r325 y2.Value y2.Place y2.GVA) y3 false ((1 + n262) + 1) (fun i => bif Nat.blt i (1 + n262) then (fun i => (fun i => bif Nat.blt i 1 then (fun i => (fun i => (upd (fun _ => 0) 0 t231) (0 + i)) (0 + i)) i else (fun i => tf263 (0 + i)) (i - 1)) (0 + i)) i else (fun i => (upd (fun _ => 0) 0 t321) (0 + i)) (i - (1 + n262)))) none)) (
  F_z6 r322 (fun r326 =>
  let b327 : Bool := (!r326)
  cond b327 (
  F_za x3 (fun r328 =>
  cond (Nat.beq ((1 + n262) + 1) ((1 + n262) + 1)) (k 0 0 false y0 y1 (GFault.mk r328 y2.Value y2.Place y2.GVA) y3 false ((1 + n262) + 1) (fun i => bif Nat.blt i (1 + n262) then (fun i => (fun i => bif Nat.blt i 1 then (fun i => (fun i => (upd (fun _ => 0) 0 t231) (0 + i)) (0 + i)) i else (fun i => tf263 (0 + i)) (i - 1)) (0 + i)) i else (fun i => (upd (fun _ => 0) 0 t321) (0 + i)) (i - (1 + n262)))) none)) (
  F_z6 r322 (fun r329 =>
  cond r329 (
  F_z6 r322 (fun r330 =>
  cond r330 (
  F_z4 r322 (fun r331 =>
  cond (Nat.beq ((1 + n262) + 1) ((1 + n262) + 1)) (k r322 r331 true y0 y1 y2 y3 false ((1 + n262) + 1) (fun i => bif Nat.blt i (1 + n262) then (fun i => (fun i => bif Nat.blt i 1 then (fun i => (fun i => (upd (fun _ => 0) 0 t231) (0 + i)) (0 + i)) i else (fun i => tf263 (0 + i)) (i - 1)) (0 + i)) i else (fun i => (upd (fun _ => 0) 0 t321) (0 + i)) (i - (1 + n262)))) none)) (
  F_z4 r322 (fun r332 =>
  cond (Nat.beq ((1 + n262) + 1) ((1 + n262) + 1)) (k 0 0 false y0 y1 y2 y3 false ((1 + n262) + 1) (fun i => bif Nat.blt i (1 + n262) then (fun i => (fun i => bif Nat.blt i 1 then (fun i => (fun i => (upd (fun _ => 0) 0 t231) (0 + i)) (0 + i)) i else (fun i => tf263 (0 + i)) (i - 1)) (0 + i)) i else (fun i => (upd (fun _ => 0) 0 t321) (0 + i)) (i - (1 + n262)))) none)))) (
  F_z6 r322 (fun r333 =>
  cond r333 (
  F_z4 r322 (fun r334 =>
  cond (Nat.beq ((1 + n262) + 1) ((1 + n262) + 1)) (k r322 r334 true y0 y1 y2 y3 false ((1 + n262) + 1) (fun i => bif Nat.blt i (1 + n262) then (fun i => (fun i => bif Nat.blt i 1 then (fun i => (fun i => (upd (fun _ => 0) 0 t231) (0 + i)) (0 + i)) i else (fun i => tf263 (0 + i)) (i - 1)) (0 + i)) i else (fun i => (upd (fun _ => 0) 0 t321) (0 + i)) (i - (1 + n262)))) none)) (
  F_z4 r322 (fun r335 =>
  cond (Nat.beq ((1 + n262) + 1) ((1 + n262) + 1)) (k 0 0 false y0 y1 y2 y3 false ((1 + n262) + 1) (fun i => bif Nat.blt i (1 + n262) then (fun i => (fun i => bif Nat.blt i 1 then (fun i => (fun i => (upd (fun _ => 0) 0 t231) (0 + i)) (0 + i)) i else (fun i => tf263 (0 + i)) (i - 1)) (0 + i)) i else (fun i => (upd (fun _ => 0) 0 t321) (0 + i)) (i - (1 + n262)))) none))))))))))) none) none))))) none)) none)))))))))) (
  F_z6 r232 (fun r336 =>
  cond r336 (
  F_z4 r232 (fun r337 =>
  let t338 : Int := (gshr .u64 x2 8)
  let t339 : Int := (bitop .and .u64 t338 15)
  let t340 : Int := (IntKind.i64.wrap t339)
  let t341 : Int := (bitop .or .i64 r337 t340)
  k r232 t341 true y0 y1 y2 y3 false 1 (fun i => (upd (fun _ => 0) 0 t231) (0 + i)))) (
  F_z6 r232 (fun r342 =>
  cond r342 (
  F_z4 r232 (fun r343 =>
  k r232 r343 true y0 y1 y2 y3 false 1 (fun i => (upd (fun _ => 0) 0 t231) (0 + i)))) (
  F_z4 r232 (fun r344 =>
  let t345 : Int := (gshr .u64 x2 12)
  let t346 : Int := (bitop .and .u64 t345 15)
  let t347 : Int := (gshr .u64 x2 8)
  let t348 : Int := (bitop .and .u64 t347 15)
  let t349 : Int := (IntKind.u64.wrap r344)
  let t350 : Int := (gshl .u64 t349 8)
  let t351 : Int := (IntKind.u64.wrap (8 * t348))
  let t352 : Int := (IntKind.u64.wrap (t350 + t351))
  F_zm x0 x1 t352 1 false (fun r353 r354 r355 nl356 n357 tf358 =>
  cond nl356 (
  let b359 : Bool := (r355 == 1)
  cond b359 (
  F_z9 x3 (fun r360 =>
  let t361 : Int := (IntKind.u64.wrap (Int.tdiv t352 4))
  k 0 0 false y0 y1 (GFault.mk r360 y2.Value t361 y2.GVA) y3 false 1 (fun i => (upd (fun _ => 0) 0 t231) (0 + i)))) (
  let b362 : Bool := (r355 == 2)
  cond b362 (
  F_z2 x3 (fun r363 =>
  k 0 0 false y0 y1 (GFault.mk r363 y2.Value y2.Place y2.GVA) y3 false 1 (fun i => (upd (fun _ => 0) 0 t231) (0 + i)))) (
  F_z7 x0 r353 8 (fun r364 =>
  let b365 : Bool := (r364 != 0)
  cond b365 (
  F_z2 x3 (fun r366 =>
  k 0 0 false y0 y1 (GFault.mk r366 y2.Value y2.Place y2.GVA) y3 false 1 (fun i => (upd (fun _ => 0) 0 t231) (0 + i)))) (
  let t367 : Int := (gshr .u64 r353 8)
  let t368 : Int := (IntKind.i64.wrap t367)
  F_z8 x0 r353 8 (fun r369 =>
  F_zb r369 (fun r370 =>
  let b371 : Bool := (!r370)
  cond b371 (
  F_za x3 (fun r372 =>
  k 0 0 false y0 y1 (GFault.mk r372 y2.Value y2.Place y2.GVA) y3 false 2 (fun i => bif Nat.blt i 1 then (fun i => (fun i => (upd (fun _ => 0) 0 t231) (0 + i)) (0 + i)) i else (fun i => (upd (fun _ => 0) 0 t368) (0 + i)) (i - 1)))) (
  F_z6 r369 (fun r373 =>
  let b374 : Bool := (!r373)
  cond b374 (
  F_za x3 (fun r375 =>
  k 0 0 false y0 y1 (GFault.mk r375 y2.Value y2.Place y2.GVA) y3 false 2 (fun i => bif Nat.blt i 1 then (fun i => (fun i => (upd (fun _ => 0) 0 t231) (0 + i)) (0 + i)) i else (fun i => (upd (fun _ => 0) 0 t368) (0 + i)) (i - 1)))) (
  F_z6 r369 (fun r376 =>
  cond r376 (
  F_z6 r369 (fun r377 =>
  cond r377 (
  F_z4 r369 (fun r378 =>
  k r369 r378 true y0 y1 y2 y3 false 2 (fun i => bif Nat.blt i 1 then (fun i => (fun i => (upd (fun _ => 0) 0 t231) (0 + i)) (0 + i)) i else (fun i => (upd (fun _ => 0) 0 t368) (0 + i)) (i - 1)))) (
  F_z4 r369 (fun r379 =>
  k 0 0 false y0 y1 y2 y3 false 2 (fun i => bif Nat.blt i 1 then (fun i => (fun i => (upd (fun _ => 0) 0 t231) (0 + i)) (0 + i)) i else (fun i => (upd (fun _ => 0) 0 t368) (0 + i)) (i - 1)))))) (
  F_z6 r369 (fun r380 =>
  cond r380 (
  F_z4 r369 (fun r381 =>
  k r369 r381 true y0 y1 y2 y3 false 2 (fun i => bif Nat.blt i 1 then (fun i => (fun i => (upd (fun _ => 0) 0 t231) (0 + i)) (0 + i)) i else (fun i => (upd (fun _ => 0) 0 t368) (0 + i)) (i - 1)))) (
  F_z4 r369 (fun r382 =>
  k 0 0 false y0 y1 y2 y3 false 2 (fun i => bif Nat.blt i 1 then (fun i => (fun i => (upd (fun _ => 0) 0 t231) (0 + i)) (0 + i)) i else (fun i => (upd (fun _ => 0) 0 t368) (0 + i)) (i - 1))))))))))))))))) (
  cond (decide (0 + n357 ≤ n357)) (
  cond (Nat.beq n357 0) (
  let b383 : Bool := (r355 == 1)
  cond b383 (
  F_z9 x3 (fun r384 =>
  let t385 : Int := (IntKind.u64.wrap (Int.tdiv t352 4))
  k 0 0 false y0 y1 (GFault.mk r384 y2.Value t385 y2.GVA) y3 false 1 (fun i => (upd (fun _ => 0) 0 t231) (0 + i)))) (
  let b386 : Bool := (r355 == 2)
  cond b386 (
  F_z2 x3 (fun r387 =>
  k 0 0 false y0 y1 (GFault.mk r387 y2.Value y2.Place y2.GVA) y3 false 1 (fun i => (upd (fun _ => 0) 0 t231) (0 + i)))) (
  F_z7 x0 r353 8 (fun r388 =>
  let b389 : Bool := (r388 != 0)
  cond b389 (
  F_z2 x3 (fun r390 =>
  k 0 0 false y0 y1 (GFault.mk r390 y2.Value y2.Place y2.GVA) y3 false 1 (fun i => (upd (fun _ => 0) 0 t231) (0 + i)))) (
  let t391 : Int := (gshr .u64 r353 8)
  let t392 : Int := (IntKind.i64.wrap t391)
  F_z8 x0 r353 8 (fun r393 =>
  F_zb r393 (fun r394 =>
  let b395 : Bool := (!r394)
  cond b395 (
  F_za x3 (fun r396 =>
  k 0 0 false y0 y1 (GFault.mk r396 y2.Value y2.Place y2.GVA) y3 false 2 (fun i => bif Nat.blt i 1 then (fun i => (fun i => (upd (fun _ => 0) 0 t231) (0 + i)) (0 + i)) i else (fun i => (upd (fun _ => 0) 0 t392) (0 + i)) (i - 1)))) (
  F_z6 r393 (fun r397 =>
  let b398 : Bool := (!r397)
  cond b398 (
  F_za x3 (fun r399 =>
  k 0 0 false y0 y1 (GFault.mk r399 y2.Value y2.Place y2.GVA) y3 false 2 (fun i => bif Nat.blt i 1 then (fun i => (fun i => (upd (fun _ => 0) 0 t231) (0 + i)) (0 + i)) i else (fun i => (upd (fun _ => 0) 0 t392) (0 + i)) (i - 1)))) (
  F_z6 r393 (fun r400 =>
  cond r400 (
  F_z6 r393 (fun r401 =>
  cond r401 (
  F_z4 r393 (fun r402 =>
  k r393 r402 true y0 y1 y2 y3 false 2 (fun i => bif Nat.blt i 1 then (fun i => (fun i => (upd (fun _ => 0) 0 t231) (0 + i)) (0 + i)) i else (fun i => (upd (fun _ => 0) 0 t392) (0 + i)) (i - 1)))) (
  F_z4 r393 (fun r403 =>
  k 0 0 false y0 y1 y2 y3 false 2 (fun i => bif Nat.blt i 1 then (fun i => (fun i => (upd (fun _ => 0) 0 t231) (0 + i)) (0 + i)) i else (fun i => (upd (fun _ => 0) 0 t392) (0 + i)) (i - 1)))))) (
  F_z6 r393 (fun r404 =>
  cond r404 (
  F_z4 r393 (fun r405 =>
  k r393 r405 true y0 y1 y2 y3 false 2 (fun i => bif Nat.blt i 1 then (fun i => (fun i => (upd (fun _ => 0) 0 t231) (0 + i)) (0 + i)) i else (fun i => (upd (fun _ => 0) 0 t392) (0 + i)) (i - 1)))) (
  F_z4 r393 (fun r406 =>
  k 0 0 false y0 y1 y2 y3 false 2 (fun i => bif Nat.blt i 1 then (fun i => (fun i => (upd (fun _ => 0) 0 t231) (0 + i)) (0 + i)) i else (fun i => (upd (fun _ => 0) 0 t392) (0 + i)) (i - 1))))))))))))))))) (
  cond (decide ((1 + n357) * 8 ≤ 140737488355328) && decide ((1 + n357) ≤ 4611686018427387904)) (
  let b407 : Bool := (r355 == 1)
  cond b407 (
  F_z9 x3 (fun r408 =>
  let t409 : Int := (IntKind.u64.wrap (Int.tdiv t352 4))
  cond (Nat.beq (1 + n357) (1 + n357)) (k 0 0 false y0 y1 (GFault.mk r408 y2.Value t409 y2.GVA) y3 false (1 + n357) (fun i => bif Nat.blt i 1 then (fun i => (fun i => (upd (fun _ => 0) 0 t231) (0 + i)) (0 + i)) i else (fun i => tf358 (0 + i)) (i - 1))) none)) (
  let b410 : Bool := (r355 == 2)
  cond b410 (
  F_z2 x3 (fun r411 =>
  cond (Nat.beq (1 + n357) (1 + n357)) (k 0 0 false y0 y1 (GFault.mk r411 y2.Value y2.Place y2.GVA) y3 false (1 + n357) (fun i => bif Nat.blt i 1 then (fun i => (fun i => (upd (fun _ => 0) 0 t231) (0 + i)) (0 + i)) i else (fun i => tf358 (0 + i)) (i - 1))) none)) (
  F_z7 x0 r353 8 (fun r412 =>
  let b413 : Bool := (r412 != 0)
  cond b413 (
  F_z2 x3 (fun r414 =>
  cond (Nat.beq (1 + n357) (1 + n357)) (k 0 0 false y0 y1 (GFault.mk r414 y2.Value y2.Place y2.GVA) y3 false (1 + n357) (fun i => bif Nat.blt i 1 then (fun i => (fun i => (upd (fun _ => 0) 0 t231) (0 + i)) (0 + i)) i else (fun i => tf358 (0 + i)) (i - 1))) none)) (
  let t415 : Int := (gshr .u64 r353 8)
  let t416 : Int := (IntKind.i64.wrap t415)
  cond (decide (0 + (1 + n357) ≤ (1 + n357))) (
  cond (decide (((1 + n357) + 1) * 8 ≤ 140737488355328) && decide (((1 + n357) + 1) ≤ 4611686018427387904)) (
  F_z8 x0 r353 8 (fun r417 =>
  F_zb r417 (fun r418 =>
  let b419 : Bool := (!r418)
  cond b419 (
  F_za x3 (fun r420 =>
  cond (Nat.beq ((1 + n357) + 1) ((1 + n357) + 1)) (k 0 0 false y0 y1 (GFault.mk r420 y2.Value y2.Place y2.GVA) y3 false ((1 + n357) + 1) (fun i => bif Nat.blt i (1 + n357) then (fun i => (fun i => bif Nat.blt i 1 then (fun i => (fun i => (upd (fun _ => 0) 0 t231) (0 + i)) (0 + i)) i else (fun i => tf358 (0 + i)) (i - 1)) (0 + i)) i else (fun i => (upd (fun _ => 0) 0 t416) (0 + i)) (i - (1 + n357)))) none)) (
  F_z6 r417 (fun r421 =>
  let b422 : Bool := (!r421)
  cond b422 (
  F_za x3 (fun r423 =>
  cond (Nat.beq ((1 + n357) + 1) ((1 + n357) + 1)) (k 0 0 false y0 y1 (GFault.mk r423 y2.Value y2.Place y2.GVA) y3 false ((1 + n357) + 1) (fun i => bif Nat.blt i (1 + n357) then (fun i => (fun i => bif Nat.blt i 1 then (fun i => (fun i => (upd (fun _ => 0) 0 t231) (0 + i)) (0 + i)) i else (fun i => tf358 (0 + i)) (i - 1)) (0 + i)) i else (fun i => (upd (fun _ => 0) 0 t416) (0 + i)) (i - (1 + n357)))) none)) (
  F_z6 r417 (fun r424 =>
  cond r424 (
  F_z6 r417 (fun r425 =>
  cond r425 (
  F_z4 r417 (fun r426 =>
  cond (Nat.beq ((1 + n357) + 1) ((1 + n357) + 1)) (k r417 r426 true y0 y1 y2 y3 false ((1 + n357) + 1) (fun i => bif Nat.blt i (1 + n357) then (fun i => (fun i => bif Nat.blt i 1 then (fun i => (fun i => (upd (fun _ => 0) 0 t231) (0 + i)) (0 + i)) i else (fun i => tf358 (0 + i)) (i - 1)) (0 + i)) i else (fun i => (upd (fun _ => 0) 0 t416) (0 + i)) (i - (1 + n357)))) none)) (
  F_z4 r417 (fun r427 =>
  cond (Nat.beq ((1 + n357) + 1) ((1 + n357) + 1)) (k 0 0 false y0 y1 y2 y3 false ((1 + n357) + 1) (fun i => bif Nat.blt i (1 + n357) then (fun i => (fun i => bif Nat.blt i 1 then (fun i => (fun i => (upd (fun _ => 0) 0 t231) (0 + i)) (0 + i)) i else (fun i => tf358 (0 + i)) (i - 1)) (0 + i)) i else (fun i => (upd (fun _ => 0) 0 t416) (0 + i)) (i - (1 + n357)))) none)))) (
  F_z6 r417 (fun r428 =>
  cond r428 (
  F_z4 r417 (fun r429 =>
  cond (Nat.beq ((1 + n357) + 1) ((1 + n357) + 1)) (k r417 r429 true y0 y1 y2 y3 false ((1 + n357) + 1) (fun i => bif Nat.blt i (1 + n357) then (fun i => (fun i => bif Nat.blt i 1 then (fun i => (fun i => (upd (fun _ => 0) 0 t231) (0 + i)) (0 + i)) i else (fun i => tf358 (0 + i)) (i - 1)) (0 + i)) i else (fun i => (upd (fun _ => 0) 0 t416) (0 + i)) (i - (1 + n357)))) none)) (
  F_z4 r417 (fun r430 =>
  cond (Nat.beq ((1 + n357) + 1) ((1 + n357) + 1)) (k 0 0 false y0 y1 y2 y3 false ((1 + n357) + 1) (fun i => bif Nat.blt i (1 + n357) then (fun i => (fun i => bif Nat.blt i 1 then (fun i => (fun i => (upd (fun _ => 0) 0 t231) (0 + i)) (0 + i)) i else (fun i => tf358 (0 + i)) (i - 1)) (0 + i)) i else (fun i => (upd (fun _ => 0) 0 t416) (0 + i)) (i - (1 + n357)))) none))))))))))) none) none))))) none)) none))))))))))))))))) (
  cond (decide (n11 * 8 ≤ 140737488355328) && decide (n11 ≤ 4611686018427387904)) (
  let b431 : Bool := (r9 == 1)
  cond b431 (
  F_z9 x3 (fun r432 =>
  let t433 : Int := (IntKind.u64.wrap (Int.tdiv t6 4))
  cond (Nat.beq n11 n11) (k 0 0 false y0 y1 (GFault.mk r432 y2.Value t433 y2.GVA) y3 false n11 (fun i => tf12 (0 + i))) none)) (
  let b434 : Bool := (r9 == 2)
  cond b434 (
  F_z2 x3 (fun r435 =>
  cond (Nat.beq n11 n11) (k 0 0 false y0 y1 (GFault.mk r435 y2.Value y2.Place y2.GVA) y3 false n11 (fun i => tf12 (0 + i))) none)) (
  F_z7 x0 r7 8 (fun r436 =>
  let b437 : Bool := (r436 != 0)
  cond b437 (
  F_z2 x3 (fun r438 =>
  cond (Nat.beq n11 n11) (k 0 0 false y0 y1 (GFault.mk r438 y2.Value y2.Place y2.GVA) y3 false n11 (fun i => tf12 (0 + i))) none)) (
  let t439 : Int := (gshr .u64 r7 8)
  let t440 : Int := (IntKind.i64.wrap t439)
  cond (decide (0 + n11 ≤ n11)) (
  cond (decide ((n11 + 1) * 8 ≤ 140737488355328) && decide ((n11 + 1) ≤ 4611686018427387904)) (
  F_z8 x0 r7 8 (fun r441 =>
  F_zb r441 (fun r442 =>
  let b443 : Bool := (!r442)
  cond b443 (
  F_za x3 (fun r444 =>
  cond (Nat.beq (n11 + 1) (n11 + 1)) (k 0 0 false y0 y1 (GFault.mk r444 y2.Value y2.Place y2.GVA) y3 false (n11 + 1) (fun i => bif Nat.blt i n11 then (fun i => (fun i => tf12 (0 + i)) (0 + i)) i else (fun i => (upd (fun _ => 0) 0 t440) (0 + i)) (i - n11))) none)) (
  F_z6 r441 (fun r445 =>
  cond r445 (
  F_z4 r441 (fun r446 =>
  let t447 : Int := (bitop .and .i64 r446 15)
  let b448 : Bool := (t447 != 0)
  cond b448 (
  F_za x3 (fun r449 =>
  cond (Nat.beq (n11 + 1) (n11 + 1)) (k 0 0 false y0 y1 (GFault.mk r449 y2.Value y2.Place y2.GVA) y3 false (n11 + 1) (fun i => bif Nat.blt i n11 then (fun i => (fun i => tf12 (0 + i)) (0 + i)) i else (fun i => (upd (fun _ => 0) 0 t440) (0 + i)) (i - n11))) none)) (
  F_z6 r441 (fun r450 =>
  cond r450 (
  F_z4 r441 (fun r451 =>
  let t452 : Int := (gshr .u64 x2 8)
  let t453 : Int := (bitop .and .u64 t452 15)
  let t454 : Int := (IntKind.i64.wrap t453)
  let t455 : Int := (bitop .or .i64 r451 t454)
  cond (Nat.beq (n11 + 1) (n11 + 1)) (k r441 t455 true y0 y1 y2 y3 false (n11 + 1) (fun i => bif Nat.blt i n11 then (fun i => (fun i => tf12 (0 + i)) (0 + i)) i else (fun i => (upd (fun _ => 0) 0 t440) (0 + i)) (i - n11))) none)) (
  F_z6 r441 (fun r456 =>
  cond r456 (
  F_z4 r441 (fun r457 =>
  cond (Nat.beq (n11 + 1) (n11 + 1)) (k r441 r457 true y0 y1 y2 y3 false (n11 + 1) (fun i => bif Nat.blt i n11 then (fun i => (fun i => tf12 (0 + i)) (0 + i)) i else (fun i => (upd (fun _ => 0) 0 t440) (0 + i)) (i - n11))) none)) (
  F_z4 r441 (fun r458 =>
  let t459 : Int := (gshr .u64 x2 12)
  let t460 : Int := (bitop .and .u64 t459 15)
  let t461 : Int := (gshr .u64 x2 8)
  let t462 : Int := (bitop .and .u64 t461 15)
  let t463 : Int := (IntKind.u64.wrap r458)
  let t464 : Int := (gshl .u64 t463 8)
  let t465 : Int := (IntKind.u64.wrap (8 * t462))
  let t466 : Int := (IntKind.u64.wrap (t464 + t465))
  F_zm x0 x1 t466 1 false (fun r467 r468 r469 nl470 n471 tf472 =>
  cond nl470 (
  cond (decide (0 + (n11 + 1) ≤ (n11 + 1))) (
  let b473 : Bool := (r469 == 1)
  cond b473 (
  F_z9 x3 (fun r474 =>
  let t475 : Int := (IntKind.u64.wrap (Int.tdiv t466 4))
  cond (Nat.beq (n11 + 1) (n11 + 1)) (k 0 0 false y0 y1 (GFault.mk r474 y2.Value t475 y2.GVA) y3 false (n11 + 1) (fun i => bif Nat.blt i n11 then (fun i => (fun i => tf12 (0 + i)) (0 + i)) i else (fun i => (upd (fun _ => 0) 0 t440) (0 + i)) (i - n11))) none)) (
  let b476 : Bool := (r469 == 2)
  cond b476 (
  F_z2 x3 (fun r477 =>
  cond (Nat.beq (n11 + 1) (n11 + 1)) (k 0 0 false y0 y1 (GFault.mk r477 y2.Value y2.Place y2.GVA) y3 false (n11 + 1) (fun i => bif Nat.blt i n11 then (fun i => (fun i => tf12 (0 + i)) (0 + i)) i else (fun i => (upd (fun _ => 0) 0 t440) (0 + i)) (i - n11))) none)) (
  F_z7 x0 r467 8 (fun r478 =>
  let b479 : Bool := (r478 != 0)
  cond b479 (
  F_z2 x3 (fun r480 =>
  cond (Nat.beq (n11 + 1) (n11 + 1)) (k 0 0 false y0 y1 (GFault.mk r480 y2.Value y2.Place y2.GVA) y3 false (n11 + 1) (fun i => bif Nat.blt i n11 then (fun i => (fun i => tf12 (0 + i)) (0 + i)) i else (fun i => (upd (fun _ => 0) 0 t440) (0 + i)) (i - n11))) none)) (
  let t481 : Int := (gshr .u64 r467 8)
  let t482 : Int := (IntKind.i64.wrap t481)
  cond (decide (0 + (n11 + 1) ≤ (n11 + 1))) (
  cond (decide (((n11 + 1) + 1) * 8 ≤ 140737488355328) && decide (((n11 + 1) + 1) ≤ 4611686018427387904)) (
  F_z8 x0 r467 8 (fun r483 =>
  F_zb r483 (fun r484 =>
  let b485 : Bool := (!r484)
  cond b485 (
  F_za x3 (fun r486 =>
  cond (Nat.beq ((n11 + 1) + 1) ((n11 + 1) + 1)) (k 0 0 false y0 y1 (GFault.mk r486 y2.Value y2.Place y2.GVA) y3 false ((n11 + 1) + 1) (fun i => bif Nat.blt i (n11 + 1) then (fun i => (fun i => bif Nat.blt i n11 then (fun i => (fun i => tf12 (0 + i)) (0 + i)) i else (fun i => (upd (fun _ => 0) 0 t440) (0 + i)) (i - n11)) (0 + i)) i else (fun i => (upd (fun _ => 0) 0 t482) (0 + i)) (i - (n11 + 1)))) none)) (
  F_z6 r483 (fun r487 =>
  let b488 : Bool := (!r487)
  cond b488 (
  F_za x3 (fun r489 =>
  cond (Nat.beq ((n11 + 1) + 1) ((n11 + 1) + 1)) (k 0 0 false y0 y1 (GFault.mk r489 y2.Value y2.Place y2.GVA) y3 false ((n11 + 1) + 1) (fun i => bif Nat.blt i (n11 + 1) then (fun i => (fun i => bif Nat.blt i n11 then (fun i => (fun i => tf12 (0 + i)) (0 + i)) i else (fun i => (upd (fun _ => 0) 0 t440) (0 + i)) (i - n11)) (0 + i)) i else (fun i => (upd (fun _ => 0) 0 t482) (0 + i)) (i - (n11 + 1)))) none)) (
  F_z6 r483 (fun r490 =>
  cond r490 (
  F_z6 r483 (fun r491 =>
  cond r491 (
  F_z4 r483 (fun r492 =>
  cond (Nat.beq ((n11 + 1) + 1) ((n11 + 1) + 1)) (k r483 r492 true y0 y1 y2 y3 false ((n11 + 1) + 1) (fun i => bif Nat.blt i (n11 + 1) then (fun i => (fun i => bif Nat.blt i n11 then (fun i => (fun i => tf12 (0 + i)) (0 + i)) i else (fun i => (upd (fun _ => 0) 0 t440) (0 + i)) (i - n11)) (0 + i)) i else (fun i => (upd (fun _ => 0) 0 t482) (0 + i)) (i - (n11 + 1)))) none)) (
  F_z4 r483 (fun r493 =>
  cond (Nat.beq ((n11 + 1) + 1) ((n11 + 1) + 1)) (k 0 0 false y0 y1 y2 y3 false ((n11 + 1) + 1) (fun i => bif Nat.blt i (n11 + 1) then (fun i => (fun i => bif Nat.blt i n11 then (fun i => (fun i => tf12 (0 + i)) (0 + i)) i else (fun i => (upd (fun _ => 0) 0 t440) (0 + i)) (i - n11)) (0 + i)) i else (fun i => (upd (fun _ => 0) 0 t482) (0 + i)) (i - (n11 + 1)))) none)))) (
  F_z6 r483 (fun r494 =>
  cond r494 (
  F_z4 r483 (fun r495 =>
  cond (Nat.beq ((n11 + 1) + 1) ((n11 + 1) + 1)) (k r483 r495 true y0 y1 y2 y3 false ((n11 + 1) + 1) (fun i => bif Nat.blt i (n11 + 1) then (fun i => (fun i => bif Nat.blt i n11 then (fun i => (fun i => tf12 (0 + i)) (0 + i)) i else (fun i => (upd (fun _ => 0) 0 t440) (0 + i)) (i - n11)) (0 + i)) i else (fun i => (upd (fun _ => 0) 0 t482) (0 + i)) (i - (n11 + 1)))) none)) (
  F_z4 r483 (fun r496 =>
  cond (Nat.beq ((n11 + 1) + 1) ((n11 + 1) + 1)) (k 0 0 false y0 y1 y2 y3 false ((n11 + 1) + 1) (fun i => bif Nat.blt i (n11 + 1) then (fun i => (fun i => bif Nat.blt i n11 then (fun i => (fun i => tf12 (0 + i)) (0 + i)) i else (fun i => (upd (fun _ => 0) 0 t440) (0 + i)) (i - n11)) (0 + i)) i else (fun i => (upd (fun _ => 0) 0 t482) (0 + i)) (i - (n11 + 1)))) none))))))))))) none) none))))) none) (
  cond (decide (0 + n471 ≤ n471)) (
  cond (Nat.beq n471 0) (
  cond (decide (0 + (n11 + 1) ≤ (n11 + 1))) (
  let b497 : Bool := (r469 == 1)
  cond b497 (
  F_z9 x3 (fun r498 =>
  let t499 : Int := (IntKind.u64.wrap (Int.tdiv t466 4))
  cond (Nat.beq (n11 + 1) (n11 + 1)) (k 0 0 false y0 y1 (GFault.mk r498 y2.Value t499 y2.GVA) y3 false (n11 + 1) (fun i => bif Nat.blt i n11 then (fun i => (fun i => tf12 (0 + i)) (0 + i)) i else (fun i => (upd (fun _ => 0) 0 t440) (0 + i)) (i - n11))) none)) (
  let b500 : Bool := (r469 == 2)
  cond b500 (
  F_z2 x3 (fun r501 =>
  cond (Nat.beq (n11 + 1) (n11 + 1)) (k 0 0 false y0 y1 (GFault.mk r501 y2.Value y2.Place y2.GVA) y3 false (n11 + 1) (fun i => bif Nat.blt i n11 then (fun i => (fun i => tf12 (0 + i)) (0 + i)) i else (fun i => (upd (fun _ => 0) 0 t440) (0 + i)) (i - n11))) none)) (
  F_z7 x0 r467 8 (fun r502 =>
  let b503 : Bool := (r502 != 0)
  cond b503 (
  F_z2 x3 (fun r504 =>
  cond (Nat.beq (n11 + 1) (n11 + 1)) (k 0 0 false y0 y1 (GFault.mk r504 y2.Value y2.Place y2.GVA) y3 false (n11 + 1) (fun i => bif Nat.blt i n11 then (fun i => (fun i => tf12 (0 + i)) (0 + i)) i else (fun i => (upd (fun _ => 0) 0 t440) (0 + i)) (i - n11))) none)) (
  let t505 : Int := (gshr .u64 r467 8)
  let t506 : Int := (IntKind.i64.wrap t505)
  cond (decide (0 + (n11 + 1) ≤ (n11 + 1))) (
  cond (decide (((n11 + 1) + 1) * 8 ≤ 140737488355328) && decide (((n11 + 1) + 1) ≤ 4611686018427387904)) (
  F_z8 x0 r467 8 (fun r507 =>
  F_zb r507 (fun r508 =>
  let b509 : Bool := (!r508)
  cond b509 (
  F_za x3 (fun r510 =>
  cond (Nat.beq ((n11 + 1) + 1) ((n11 + 1) + 1)) (k 0 0 false y0 y1 (GFault.mk r510 y2.Value y2.Place y2.GVA) y3 false ((n11 + 1) + 1) (fun i => bif Nat.blt i (n11 + 1) then (fun i => (fun i => bif Nat.blt i n11 then (fun i => (fun i => tf12 (0 + i)) (0 + i)) i else (fun i => (upd (fun _ => 0) 0 t440) (0 + i)) (i - n11)) (0 + i)) i else (fun i => (upd (fun _ => 0) 0 t506) (0 + i)) (i - (n11 + 1)))) none)) (
  F_z6 r507 (fun r511 =>
  let b512 : Bool := (!r511)
  cond b512 (
  F_za x3 (fun r513 =>
  cond (Nat.beq ((n11 + 1) + 1) ((n11 + 1) + 1)) (k 0 0 false y0 y1 (GFault.mk r513 y2.Value y2.Place y2.GVA) y3 false ((n11 + 1) + 1) (fun i => bif Nat.blt i (n11 + 1) then (fun i => (fun i => bif Nat.blt i n11 then (fun i => (fun i => tf12 (0 + i)) (0 + i)) i else (fun i => (upd (fun _ => 0) 0 t440) (0 + i)) (i - n11)) (0 + i)) i else (fun i => (upd (fun _ => 0) 0 t506) (0 + i)) (i - (n11 + 1)))) none)) (
  F_z6 r507 (fun r514 =>
  cond r514 (
  F_z6 r507 (fun r515 =>
  cond r515 (
  F_z4 r507 (fun r516 =>
  cond (Nat.beq ((n11 + 1) + 1) ((n11 + 1) + 1)) (k r507 r516 true y0 y1 y2 y3 false ((n11 + 1) + 1) (fun i => bif Nat.blt i (n11 + 1) then (fun i => (fun i => bif Nat.blt i n11 then (fun i => (fun i => tf12 (0 + i)) (0 + i)) i else (fun i => (upd (fun _ => 0) 0 t440) (0 + i)) (i - n11)) (0 + i)) i else (fun i => (upd (fun _ => 0) 0 t506) (0 + i)) (i - (n11 + 1)))) none)) (
  F_z4 r507 (fun r517 =>
  cond (Nat.beq ((n11 + 1) + 1) ((n11 + 1) + 1)) (k 0 0 false y0 y1 y2 y3 false ((n11 + 1) + 1) (fun i => bif Nat.blt i (n11 + 1) then (fun i => (fun i => bif Nat.blt i n11 then (fun i => (fun i => tf12 (0 + i)) (0 + i)) i else (fun i => (upd (fun _ => 0) 0 t440) (0 + i)) (i - n11)) (0 + i)) i else (fun i => (upd (fun _ => 0) 0 t506) (0 + i)) (i - (n11 + 1)))) none)))) (
  F_z6 r507 (fun r518 =>
  cond r518 (
  F_z4 r507 (fun r519 =>
  cond (Nat.beq ((n11 + 1) + 1) ((n11 + 1) + 1)) (k r507 r519 true y0 y1 y2 y3 false ((n11 + 1) + 1) (fun i => bif Nat.blt i (n11 + 1) then (fun i => (fun i => bif Nat.blt i n11 then (fun i => (fun i => tf12 (0 + i)) (0 + i)) i else (fun i => (upd (fun _ => 0) 0 t440) (0 + i)) (i - n11)) (0 + i)) i else (fun i => (upd (fun _ => 0) 0 t506) (0 + i)) (i - (n11 + 1)))) none)) (
  F_z4 r507 (fun r520 =>
  cond (Nat.beq ((n11 + 1) + 1) ((n11 + 1) + 1)) (k 0 0 false y0 y1 y2 y3 false ((n11 + 1) + 1) (fun i => bif Nat.blt i (n11 + 1) then (fun i => (fun i => bif Nat.blt i n11 then (fun i => (fun i => tf12 (0 + i)) (0 + i)) i else (fun i => (upd (fun _ => 0) 0 t440) (0 + i)) (i - n11)) (0 + i)) i else (fun i => (upd (fun _ => 0) 0 t506) (0 + i)) (i - (n11 + 1)))) none))))))))))) none) none))))) none) (
  cond (decide (0 + (n11 + 1) ≤ (n11 + 1))) (
  cond (decide (((n11 + 1) + n471) * 8 ≤ 140737488355328) && decide (((n11 + 1) + n471) ≤ 4611686018427387904)) (
  let b521 : Bool := (r469 == 1)
  cond b521 (
  F_z9 x3 (fun r522 =>
  let t523 : Int := (IntKind.u64.wrap (Int.tdiv t466 4))
  cond (Nat.beq ((n11 + 1) + n471) ((n11 + 1) + n471)) (k 0 0 false y0 y1 (GFault.mk r522 y2.Value t523 y2.GVA) y3 false ((n11 + 1) + n471) (fun i => bif Nat.blt i (n11 + 1) then (fun i => (fun i => bif Nat.blt i n11 then (fun i => (fun i => tf12 (0 + i)) (0 + i)) i else (fun i => (upd (fun _ => 0) 0 t440) (0 + i)) (i - n11)) (0 + i)) i else (fun i => tf472 (0 + i)) (i - (n11 + 1)))) none)) (
  let b524 : Bool := (r469 == 2)
  cond b524 (
  F_z2 x3 (fun r525 =>
  cond (Nat.beq ((n11 + 1) + n471) ((n11 + 1) + n471)) (k 0 0 false y0 y1 (GFault.mk r525 y2.Value y2.Place y2.GVA) y3 false ((n11 + 1) + n471) (fun i => bif Nat.blt i (n11 + 1) then (fun i => (fun i => bif Nat.blt i n11 then (fun i => (fun i => tf12 (0 + i)) (0 + i)) i else (fun i => (upd (fun _ => 0) 0 t440) (0 + i)) (i - n11)) (0 + i)) i else (fun i => tf472 (0 + i)) (i - (n11 + 1)))) none)) (
  F_z7 x0 r467 8 (fun r526 =>
  let b527 : Bool := (r526 != 0)
  cond b527 (
  F_z2 x3 (fun r528 =>
  cond (Nat.beq ((n11 + 1) + n471) ((n11 + 1) + n471)) (k 0 0 false y0 y1 (GFault.mk r528 y2.Value y2.Place y2.GVA) y3 false ((n11 + 1) + n471) (fun i => bif Nat.blt i (n11 + 1) then (fun i => (fun i => bif Nat.blt i n11 then (fun i => (fun i => tf12 (0 + i)) (0 + i)) i else (fun i => (upd (fun _ => 0) 0 t440) (0 + i)) (i - n11)) (0 + i)) i else (fun i => tf472 (0 + i)) (i - (n11 + 1)))) none)) (
  let t529 : Int := (gshr .u64 r467 8)
  let t530 : Int := (IntKind.i64.wrap t529)
  cond (decide (0 + ((n11 + 1) + n471) ≤ ((n11 + 1) + n471))) (
  cond (decide ((((n11 + 1) + n471) + 1) * 8 ≤ 140737488355328) && decide ((((n11 + 1) + n471) + 1) ≤ 4611686018427387904)) (
  F_z8 x0 r467 8 (fun r531 =>
  F_zb r531 (fun r532 =>
  let b533 : Bool := (!r532)
  cond b533 (
  F_za x3 (fun r534 =>
  cond (Nat.beq (((n11 + 1) + n471) + 1) (((n11 + 1) + n471) + 1)) (k 0 0 false y0 y1 (GFault.mk r534 y2.Value y2.Place y2.GVA) y3 false (((n11 + 1) + n471) + 1) (fun i => bif Nat.blt i ((n11 + 1) + n471) then (fun i => (fun i => bif Nat.blt i (n11 + 1) then (fun i => (fun i => bif Nat.blt i n11 then (fun i => (fun i => tf12 (0 + i)) (0 + i)) i else (fun i => (upd (fun _ => 0) 0 t440) (0 + i)) (i - n11)) (0 + i)) i else (fun i => tf472 (0 + i)) (i - (n11 + 1))) (0 + i)) i else (fun i => (upd (fun _ => 0) 0 t530) (0 + i)) (i - ((n11 + 1) + n471)))) none)) (
  F_z6 r531 (fun r535 =>
  let b536 : Bool := (!r535)
  cond b536 (
  F_za x3 (fun r537 =>
  cond (Nat.beq (((n11 + 1) + n471) + 1) (((n11 + 1) + n471) + 1)) (k 0 0 false y0 y1 (GFault.mk r537 y2.Value y2.Place y2.GVA) y3 false (((n11 + 1) + n471) + 1) (fun i => bif Nat.blt i ((n11 + 1) + n471) then (fun i => (fun i => bif Nat.blt i (n11 + 1) then (fun i => (fun i => bif Nat.blt i n11 then (fun i => (fun i => tf12 (0 + i)) (0 + i)) i else (fun i => (upd (fun _ => 0) 0 t440) (0 + i)) (i - n11)) (0 + i)) i else (fun i => tf472 (0 + i)) (i - (n11 + 1))) (0 + i)) i else (fun i => (upd (fun _ => 0) 0 t530) (0 + i)) (i - ((n11 + 1) + n471)))) none)) (
  F_z6 r531 (fun r538 =>
  cond r538 (
  F_z6 r531 (fun r539 =>
  cond r539 (
  F_z4 r531 (fun r540 =>
  cond (Nat.beq (((n11 + 1) + n471) + 1) (((n11 + 1) + n471) + 1)) (k r531 r540 true y0 y1 y2 y3 false (((n11 + 1) + n471) + 1) (fun i => bif Nat.blt i ((n11 + 1) + n471) then (fun i => (fun i => bif Nat.blt i (n11 + 1) then (fun i => (fun i => bif Nat.blt i n11 then (fun i => (fun i => tf12 (0 + i)) (0 + i)) i else (fun i => (upd (fun _ => 0) 0 t440) (0 + i)) (i - n11)) (0 + i)) i else (fun i => tf472 (0 + i)) (i - (n11 + 1))) (0 + i)) i else (fun i => (upd (fun _ => 0) 0 t530) (0 + i)) (i - ((n11 + 1) + n471)))) none)) (
  F_z4 r531 (fun r541 =>
  cond (Nat.beq (((n11 + 1) + n471) + 1) (((n11 + 1) + n471) + 1)) (k 0 0 false y0 y1 y2 y3 false (((n11 + 1) + n471) + 1) (fun i => bif Nat.blt i ((n11 + 1) + n471) then (fun i => (fun i => bif Nat.blt i (n11 + 1) then (fun i => (fun i => bif Nat.blt i n11 then (fun i => (fun i => tf12 (0 + i)) (0 + i)) i else (fun i => (upd (fun _ => 0) 0 t440) (0 + i)) (i - n11)) (0 + i)) i else (fun i => tf472 (0 + i)) (i - (n11 + 1))) (0 + i)) i else (fun i => (upd (fun _ => 0) 0 t530) (0 + i)) (i - ((n11 + 1) + n471)))) none)))) (
  F_z6 r531 (fun r542 =>
  cond r542 (
  F_z4 r531 (fun r543 =>
  cond (Nat.beq (((n11 + 1) + n471) + 1) (((n11 + 1) + n471) + 1)) (k r531 r543 true y0 y1 y2 y3 false (((n11 + 1) + n471) + 1) (fun i => bif Nat.blt i ((n11 + 1) + n471) then (fun i => (fun i => bif Nat.blt i (n11 + 1) then (fun i => (fun i => bif Nat.blt i n11 then (fun i => (fun i => tf12 (0 + i)) (0 + i)) i else (fun i => (upd (fun _ => 0) 0 t440) (0 + i)) (i - n11)) (0 + i)) i else (fun i => tf472 (0 + i)) (i - (n11 + 1))) (0 + i)) i else (fun i => (upd (fun _ => 0) 0 t530) (0 + i)) (i - ((n11 + 1) + n471)))) none)) (
  F_z4 r531 (fun r544 =>
  cond (Nat.beq (((n11 + 1) + n471) + 1) (((n11 + 1) + n471) + 1)) (k 0 0 false y0 y1 y2 y3 false (((n11 + 1) + n471) + 1) (fun i => bif Nat.blt i ((n11 + 1) + n471) then (fun i => (fun i => bif Nat.blt i (n11 + 1) then (fun i => (fun i => bif Nat.blt i n11 then (fun i => (fun i => tf12 (0 + i)) (0 + i)) i else (fun i => (upd (fun _ => 0) 0 t440) (0 + i)) (i - n11)) (0 + i)) i else (fun i => tf472 (0 + i)) (i - (n11 + 1))) (0 + i)) i else (fun i => (upd (fun _ => 0) 0 t530) (0 + i)) (i - ((n11 + 1) + n471)))) none))))))))))) none) none))))) none) none)) none)))))))))) (
  F_z6 r441 (fun r545 =>
  cond r545 (
  F_z4 r441 (fun r546 =>
  let t547 : Int := (gshr .u64 x2 8)
  let t548 : Int := (bitop .and .u64 t547 15)
  let t549 : Int := (IntKind.i64.wrap t548)
  let t550 : Int := (bitop .or .i64 r546 t549)
  cond (Nat.beq (n11 + 1) (n11 + 1)) (k r441 t550 true y0 y1 y2 y3 false (n11 + 1) (fun i => bif Nat.blt i n11 then (fun i => (fun i => tf12 (0 + i)) (0 + i)) i else (fun i => (upd (fun _ => 0) 0 t440) (0 + i)) (i - n11))) none)) (
  F_z6 r441 (fun r551 =>
  cond r551 (
  F_z4 r441 (fun r552 =>
  cond (Nat.beq (n11 + 1) (n11 + 1)) (k r441 r552 true y0 y1 y2 y3 false (n11 + 1) (fun i => bif Nat.blt i n11 then (fun i => (fun i => tf12 (0 + i)) (0 + i)) i else (fun i => (upd (fun _ => 0) 0 t440) (0 + i)) (i - n11))) none)) (
  F_z4 r441 (fun r553 =>
  let t554 : Int := (gshr .u64 x2 12)
  let t555 : Int := (bitop .and .u64 t554 15)
  let t556 : Int := (gshr .u64 x2 8)
  let t557 : Int := (bitop .and .u64 t556 15)
  let t558 : Int := (IntKind.u64.wrap r553)
  let t559 : Int := (gshl .u64 t558 8)
  let t560 : Int := (IntKind.u64.wrap (8 * t557))
  let t561 : Int := (IntKind.u64.wrap (t559 + t560))
  F_zm x0 x1 t561 1 false (fun r562 r563 r564 nl565 n566 tf567 =>
  cond nl565 (
  cond (decide (0 + (n11 + 1) ≤ (n11 + 1))) (
  let b568 : Bool := (r564 == 1)
  cond b568 (
  F_z9 x3 (fun r569 =>
  let t570 : Int := (IntKind.u64.wrap (Int.tdiv t561 4))
  cond (Nat.beq (n11 + 1) (n11 + 1)) (k 0 0 false y0 y1 (GFault.mk r569 y2.Value t570 y2.GVA) y3 false (n11 + 1) (fun i => bif Nat.blt i n11 then (fun i => (fun i => tf12 (0 + i)) (0 + i)) i else (fun i => (upd (fun _ => 0) 0 t440) (0 + i)) (i - n11))) none)) (
  let b571 : Bool := (r564 == 2)
  cond b571 (
  F_z2 x3 (fun r572 =>
  cond (Nat.beq (n11 + 1) (n11 + 1)) (k 0 0 false y0 y1 (GFault.mk r572 y2.Value y2.Place y2.GVA) y3 false (n11 + 1) (fun i => bif Nat.blt i n11 then (fun i => (fun i => tf12 (0 + i)) (0 + i)) i else (fun i => (upd (fun _ => 0) 0 t440) (0 + i)) (i - n11))) none)) (
  F_z7 x0 r562 8 (fun r573 =>
  let b574 : Bool := (r573 != 0)
  cond b574 (
  F_z2 x3 (fun r575 =>
  cond (Nat.beq (n11 + 1) (n11 + 1)) (k 0 0 false y0 y1 (GFault.mk r575 y2.Value y2.Place y2.GVA) y3 false (n11 + 1) (fun i => bif Nat.blt i n11 then (fun i => (fun i => tf12 (0 + i)) (0 + i)) i else (fun i => (upd (fun _ => 0) 0 t440) (0 + i)) (i - n11))) none)) (
  let t576 : Int := (gshr .u64 r562 8)
  let t577 : Int := (IntKind.i64.wrap t576)
  cond (decide (0 + (n11 + 1) ≤ (n11 + 1))) (
  cond (decide (((n11 + 1) + 1) * 8 ≤ 140737488355328) && decide (((n11 + 1) + 1) ≤ 4611686018427387904)) (
  F_z8 x0 r562 8 (fun r578 =>
  F_zb r578 (fun r579 =>
  let b580 : Bool := (!r579)
  cond b580 (
  F_za x3 (fun r581 =>
  cond (Nat.beq ((n11 + 1) + 1) ((n11 + 1) + 1)) (k 0 0 false y0 y1 (GFault.mk r581 y2.Value y2.Place y2.GVA) y3 false ((n11 + 1) + 1) (fun i => bif Nat.blt i (n11 + 1) then (fun i => (fun i => bif Nat.blt i n11 then (fun i => (fun i => tf12 (0 + i)) (0 + i)) i else (fun i => (upd (fun _ => 0) 0 t440) (0 + i)) (i - n11)) (0 + i)) i else (fun i => (upd (fun _ => 0) 0 t577) (0 + i)) (i - (n11 + 1)))) none)) (
  F_z6 r578 (fun r582 =>
  let b583 : Bool := (!r582)
  cond b583 (
  F_za x3 (fun r584 =>
  cond (Nat.beq ((n11 + 1) + 1) ((n11 + 1) + 1)) (k 0 0 false y0 y1 (GFault.mk r584 y2.Value y2.Place y2.GVA) y3 false ((n11 + 1) + 1) (fun i => bif Nat.blt i (n11 + 1) then (fun i => (fun i => bif Nat.blt i n11 then (fun i => (fun i => tf12 (0 + i)) (0 + i)) i else (fun i => (upd (fun _ => 0) 0 t440) (0 + i)) (i - n11)) (0 + i)) i else (fun i => (upd (fun _ => 0) 0 t577) (0 + i)) (i - (n11 + 1)))) none)) (
  F_z6 r578 (fun r585 =>
  cond r585 (
  F_z6 r578 (fun r586 =>
  cond r586 (
  F_z4 r578 (fun r587 =>
  cond (Nat.beq ((n11 + 1) + 1) ((n11 + 1) + 1)) (k r578 r587 true y0 y1 y2 y3 false ((n11 + 1) + 1) (fun i => bif Nat.blt i (n11 + 1) then (fun i => (fun i => bif Nat.blt i n11 then (fun i => (fun i => tf12 (0 + i)) (0 + i)) i else (fun i => (upd (fun _ => 0) 0 t440) (0 + i)) (i - n11)) (0 + i)) i else (fun i => (upd (fun _ => 0) 0 t577) (0 + i)) (i - (n11 + 1)))) none)) (
  F_z4 r578 (fun r588 =>
  cond (Nat.beq ((n11 + 1) + 1) ((n11 + 1) + 1)) (k 0 0 false y0 y1 y2 y3 false ((n11 + 1) + 1) (fun i => bif Nat.blt i (n11 + 1) then (fun i => (fun i => bif Nat.blt i n11 then (fun i => (fun i => tf12 (0 + i)) (0 + i)) i else (fun i => (upd (fun _ => 0) 0 t440) (0 + i)) (i - n11)) (0 + i)) i else (fun i => (upd (fun _ => 0) 0 t577) (0 + i)) (i - (n11 + 1)))) none)))) (
  F_z6 r578 (fun r589 =>
  cond r589 (
  F_z4 r578 (fun r590 =>
  cond (Nat.beq ((n11 + 1) + 1) ((n11 + 1) + 1)) (k r578 r590 true y0 y1 y2 y3 false ((n11 + 1) + 1) (fun i => bif Nat.blt i (n11 + 1) then (fun i => (fun i => bif Nat.blt i n11 then (fun i => (fun i => tf12 (0 + i)) (0 + i)) i else (fun i => (upd (fun _ => 0) 0 t440) (0 + i)) (i - n11)) (0 + i)) i else (fun i => (upd (fun _ => 0) 0 t577) (0 + i)) (i - (n11 + 1)))) none)) (
  F_z4 r578 (fun r591 =>
  cond (Nat.beq ((n11 + 1) + 1) ((n11 + 1) + 1)) (k 0 0 false y0 y1 y2 y3 false ((n11 + 1) + 1) (fun i => bif Nat.blt i (n11 + 1) then (fun i => (fun i => bif Nat.blt i n11 then (fun i => (fun i => tf12 (0 + i)) (0 + i)) i else (fun i => (upd (fun _ => 0) 0 t440) (0 + i)) (i - n11)) (0 + i)) i else (fun i => (upd (fun _ => 0) 0 t577) (0 + i)) (i - (n11 + 1)))) none))))))))))) none) none))))) none) (
  cond (decide (0 + n566 ≤ n566)) (
  cond (Nat.beq n566 0) (
  cond (decide (0 + (n11 + 1) ≤ (n11 + 1))) (
  let b592 : Bool := (r564 == 1)
  cond b592 (
  F_z9 x3 (fun r593 =>
  let t594 : Int := (IntKind.u64.wrap (Int.tdiv t561 4))
  cond (Nat.beq (n11 + 1) (n11 + 1)) (k 0 0 false y0 y1 (GFault.mk r593 y2.Value t594 y2.GVA) y3 false (n11 + 1) (fun i => bif Nat.blt i n11 then (fun i => (fun i => tf12 (0 + i)) (0 + i)) i else (fun i => (upd (fun _ => 0) 0 t440) (0 + i)) (i - n11))) none)) (
  let b595 : Bool := (r564 == 2)
  cond b595 (
  F_z2 x3 (fun r596 =>
  cond (Nat.beq (n11 + 1) (n11 + 1)) (k 0 0 false y0 y1 (GFault.mk r596 y2.Value y2.Place y2.GVA) y3 false (n11 + 1) (fun i => bif Nat.blt i n11 then (fun i => (fun i => tf12 (0 + i)) (0 + i)) i else (fun i => (upd (fun _ => 0) 0 t440) (0 + i)) (i - n11))) none)) (
  F_z7 x0 r562 8 (fun r597 =>
  let b598 : Bool := (r597 != 0)
  cond b598 (
  F_z2 x3 (fun r599 =>
  cond (Nat.beq (n11 + 1) (n11 + 1)) (k 0 0 false y0 y1 (GFault.mk r599 y2.Value y2.Place y2.GVA) y3 false (n11 + 1) (fun i => bif Nat.blt i n11 then (fun i => (fun i => tf12 (0 + i)) (0 + i)) i else (fun i => (upd (fun _ => 0) 0 t440) (0 + i)) (i - n11))) none)) (
  let t600 : Int := (gshr .u64 r562 8)
  let t601 : Int := (IntKind.i64.wrap t600)
  cond (decide (0 + (n11 + 1) ≤ (n11 + 1))) (
  cond (decide (((n11 + 1) + 1) * 8 ≤ 140737488355328) && decide (((n11 + 1) + 1) ≤ 4611686018427387904)) (
  F_z8 x0 r562 8 (fun r602 =>
  F_zb r602 (fun r603 =>
  let b604 : Bool := (!r603)
  cond b604 (
  F_za x3 (fun r605 =>
  cond (Nat.beq ((n11 + 1) + 1) ((n11 + 1) + 1)) (k 0 0 false y0 y1 (GFault.mk r605 y2.Value y2.Place y2.GVA) y3 false ((n11 + 1) + 1) (fun i => bif Nat.blt i (n11 + 1) then (fun i => (fun i => bif Nat.blt i n11 then (fun i => (fun i => tf12 (0 + i)) (0 + i)) i else (fun i => (upd (fun _ => 0) 0 t440) (0 + i)) (i - n11)) (0 + i)) i else (fun i => (upd (fun _ => 0) 0 t601) (0 + i)) (i - (n11 + 1)))) none)) (
  F_z6 r602 (fun r606 =>
  let b607 : Bool := (!r606)
  cond b607 (
  F_za x3 (fun r608 =>
  cond (Nat.beq ((n11 + 1) + 1) ((n11 + 1) + 1)) (k 0 0 false y0 y1 (GFault.mk r608 y2.Value y2.Place y2.GVA) y3 false ((n11 + 1) + 1) (fun i => bif Nat.blt i (n11 + 1) then (fun i => (fun i => bif Nat.blt i n11 then (fun i => (fun i => tf12 (0 + i)) (0 + i)) i else (fun i => (upd (fun _ => 0) 0 t440) (0 + i)) (i - n11)) (0 + i)) i else (fun i => (upd (fun _ => 0) 0 t601) (0 + i)) (i - (n11 + 1)))) none)) (
  F_z6 r602 (fun r609 =>
  cond r609 (
  F_z6 r602 (fun r610 =>
  cond r610 (
  F_z4 r602 (fun r611 =>
  cond (Nat.beq ((n11 + 1) + 1) ((n11 + 1) + 1)) (k r602 r611 true y0 y1 y2 y3 false ((n11 + 1) + 1) (fun i => bif Nat.blt i (n11 + 1) then (fun i => (fun i => bif Nat.blt i n11 then (fun i => (fun i => tf12 (0 + i)) (0 + i)) i else (fun i => (upd (fun _ => 0) 0 t440) (0 + i)) (i - n11)) (0 + i)) i else (fun i => (upd (fun _ => 0) 0 t601) (0 + i)) (i - (n11 + 1)))) none)) (
  F_z4 r602 (fun r612 =>
  cond (Nat.beq ((n11 + 1) + 1) ((n11 + 1) + 1)) (k 0 0 false y0 y1 y2 y3 false ((n11 + 1) + 1) (fun i => bif Nat.blt i (n11 + 1) then (fun i => (fun i => bif Nat.blt i n11 then (fun i => (fun i => tf12 (0 + i)) (0 + i)) i else (fun i => (upd (fun _ => 0) 0 t440) (0 + i)) (i - n11)) (0 + i)) i else (fun i => (upd (fun _ => 0) 0 t601) (0 + i)) (i - (n11 + 1)))) none)))) (
  F_z6 r602 (fun r613 =>
  cond r613 (
  F_z4 r602 (fun r614 =>
  cond (Nat.beq ((n11 + 1) + 1) ((n11 + 1) + 1)) (k r602 r614 true y0 y1 y2 y3 false ((n11 + 1) + 1) (fun i => bif Nat.blt i (n11 + 1) then (fun i => (fun i => bif Nat.blt i n11 then (fun i => (fun i => tf12 (0 + i)) (0 + i)) i else (fun i => (upd (fun _ => 0) 0 t440) (0 + i)) (i - n11)) (0 + i)) i else (fun i => (upd (fun _ => 0) 0 t601) (0 + i)) (i - (n11 + 1)))) none)) (
  F_z4 r602 (fun r615 =>
  cond (Nat.beq ((n11 + 1) + 1) ((n11 + 1) + 1)) (k 0 0 false y0 y1 y2 y3 false ((n11 + 1) + 1) (fun i => bif Nat.blt i (n11 + 1) then (fun i => (fun i => bif Nat.blt i n11 then (fun i => (fun i => tf12 (0 + i)) (0 + i)) i else (fun i => (upd (fun _ => 0) 0 t440) (0 + i)) (i - n11)) (0 + i)) i else (fun i => (upd (fun _ => 0) 0 t601) (0 + i)) (i - (n11 + 1)))) none))))))))))) none) none))))) none) (
  cond (decide (0 + (n11 + 1) ≤ (n11 + 1))) (
  cond (decide (((n11 + 1) + n566) * 8 ≤ 140737488355328) && decide (((n11 + 1) + n566) ≤ 4611686018427387904)) (
  let b616 : Bool := (r564 == 1)
  cond b616 (
  F_z9 x3 (fun r617 =>
  let t618 : Int := (IntKind.u64.wrap (Int.tdiv t561 4))
  cond (Nat.beq ((n11 + 1) + n566) ((n11 + 1) + n566)) (k 0 0 false y0 y1 (GFault.mk r617 y2.Value t618 y2.GVA) y3 false ((n11 + 1) + n566) (fun i => bif Nat.blt i (n11 + 1) then (fun i => (fun i => bif Nat.blt i n11 then (fun i => (fun i => tf12 (0 + i)) (0 + i)) i else (fun i => (upd (fun _ => 0) 0 t440) (0 + i)) (i - n11)) (0 + i)) i else (fun i => tf567 (0 + i)) (i - (n11 + 1)))) none)) (
  let b619 : Bool := (r564 == 2)
  cond b619 (
  F_z2 x3 (fun r620 =>
  cond (Nat.beq ((n11 + 1) + n566) ((n11 + 1) + n566)) (k 0 0 false y0 y1 (GFault.mk r620 y2.Value y2.Place y2.GVA) y3 false ((n11 + 1) + n566) (fun i => bif Nat.blt i (n11 + 1) then (fun i => (fun i => bif Nat.blt i n11 then (fun i => (fun i => tf12 (0 + i)) (0 + i)) i else (fun i => (upd (fun _ => 0) 0 t440) (0 + i)) (i - n11)) (0 + i)) i else (fun i => tf567 (0 + i)) (i - (n11 + 1)))) none)) (
  F_z7 x0 r562 8 (fun r621 =>
  let b622 : Bool := (r621 != 0)
  cond b622 (
  F_z2 x3 (fun r623 =>
  cond (Nat.beq ((n11 + 1) + n566) ((n11 + 1) + n566)) (k 0 0 false y0 y1 (GFault.mk r623 y2.Value y2.Place y2.GVA) y3 false ((n11 + 1) + n566) (fun i => bif Nat.blt i (n11 + 1) then (fun i => (fun i => bif Nat.blt i n11 then (fun i => (fun i => tf12 (0 + i)) (0 + i)) i else (fun i => (upd (fun _ => 0) 0 t440) (0 + i)) (i - n11)) (0 + i)) i else (fun i => tf567 (0 + i)) (i - (n11 + 1)))) none)) (
  let t624 : Int := (gshr .u64 r562 8)
  let t625 : Int := (IntKind.i64.wrap t624)
  cond (decide (0 + ((n11 + 1) + n566) ≤ ((n11 + 1) + n566))) (
  cond (decide ((((n11 + 1) + n566) + 1) * 8 ≤ 140737488355328) && decide ((((n11 + 1) + n566) + 1) ≤ 4611686018427387904)) (
  F_z8 x0 r562 8 (fun r626 =>
  F_zb r626 (fun r627 =>
  let b628 : Bool := (!r627)
  cond b628 (
  F_za x3 (fun r629 =>
  cond (Nat.beq (((n11 + 1) + n566) + 1) (((n11 + 1) + n566) + 1)) (k 0 0 false y0 y1 (GFault.mk r629 y2.Value y2.Place y2.GVA) y3 false (((n11 + 1) + n566) + 1) (fun i => bif Nat.blt i ((n11 + 1) + n566) then (fun i => (fun i => bif Nat.blt i (n11 + 1) then (fun i => (fun i => bif Nat.blt i n11 then (fun i => (fun i => tf12 (0 + i)) (0 + i)) i else (fun i => (upd (fun _ => 0) 0 t440) (0 + i)) (i - n11)) (0 + i)) i else (fun i => tf567 (0 + i)) (i - (n11 + 1))) (0 + i)) i else (fun i => (upd (fun _ => 0) 0 t625) (0 + i)) (i - ((n11 + 1) + n566)))) none)) (
  F_z6 r626 (fun r630 =>
  let b631 : Bool := (!r630)
  cond b631 (
  F_za x3 (fun r632 =>
  cond (Nat.beq (((n11 + 1) + n566) + 1) (((n11 + 1) + n566) + 1)) (k 0 0 false y0 y1 (GFault.mk r632 y2.Value y2.Place y2.GVA) y3 false (((n11 + 1) + n566) + 1) (fun i => bif Nat.blt i ((n11 + 1) + n566) then (fun i => (fun i => bif Nat.blt i (n11 + 1) then (fun i => (fun i => bif Nat.blt i n11 then (fun i => (fun i => tf12 (0 + i)) (0 + i)) i else (fun i => (upd (fun _ => 0) 0 t440) (0 + i)) (i - n11)) (0 + i)) i else (fun i => tf567 (0 + i)) (i - (n11 + 1))) (0 + i)) i else (fun i => (upd (fun _ => 0) 0 t625) (0 + i)) (i - ((n11 + 1) + n566)))) none)) (
  F_z6 r626 (fun r633 =>
  cond r633 (
  F_z6 r626 (fun r634 =>
  cond r634 (
  F_z4 r626 (fun r635 =>
  cond (Nat.beq (((n11 + 1) + n566) + 1) (((n11 + 1) + n566) + 1)) (k r626 r635 true y0 y1 y2 y3 false (((n11 + 1) + n566) + 1) (fun i => bif Nat.blt i ((n11 + 1) + n566) then (fun i => (fun i => bif Nat.blt i (n11 + 1) then (fun i => (fun i => bif Nat.blt i n11 then (fun i => (fun i => tf12 (0 + i)) (0 + i)) i else (fun i => (upd (fun _ => 0) 0 t440) (0 + i)) (i - n11)) (0 + i)) i else (fun i => tf567 (0 + i)) (i - (n11 + 1))) (0 + i)) i else (fun i => (upd (fun _ => 0) 0 t625) (0 + i)) (i - ((n11 + 1) + n566)))) none)) (
  F_z4 r626 (fun r636 =>
  cond (Nat.beq (((n11 + 1) + n566) + 1) (((n11 + 1) + n566) + 1)) (k 0 0 false y0 y1 y2 y3 false (((n11 + 1) + n566) + 1) (fun i => bif Nat.blt i ((n11 + 1) + n566) then (fun i => (fun i => bif Nat.blt i (n11 + 1) then (fun i => (fun i => bif Nat.blt i n11 then (fun i => (fun i => tf12 (0 + i)) (0 + i)) i else (fun i => (upd (fun _ => 0) 0 t440) (0 + i)) (i - n11)) (0 + i)) i else (fun i => tf567 (0 + i)) (i - (n11 + 1))) (0 + i)) i else (fun i => (upd (fun _ => 0) 0 t625) (0 + i)) (i - ((n11 + 1) + n566)))) none)))) (
  F_z6 r626 (fun r637 =>
  cond r637 (
  F_z4 r626 (fun r638 =>
  cond (Nat.beq (((n11 + 1) + n566) + 1) (((n11 + 1) + n566) + 1)) (k r626 r638 true y0 y1 y2 y3 false (((n11 + 1) + n566) + 1) (fun i => bif Nat.blt i ((n11 + 1) + n566) then (fun i => (fun i => bif Nat.blt i (n11 + 1) then (fun i => (fun i => bif Nat.blt i n11 then (fun i => (fun i => tf12 (0 + i)) (0 + i)) i else (fun i => (upd (fun _ => 0) 0 t440) (0 + i)) (i - n11)) (0 + i)) i else (fun i => tf567 (0 + i)) (i - (n11 + 1))) (0 + i)) i else (fun i => (upd (fun _ => 0) 0 t625) (0 + i)) (i - ((n11 + 1) + n566)))) none)) (
  F_z4 r626 (fun r639 =>
  cond (Nat.beq (((n11 + 1) + n566) + 1) (((n11 + 1) + n566) + 1)) (k 0 0 false y0 y1 y2 y3 false (((n11 + 1) + n566) + 1) (fun i => bif Nat.blt i ((n11 + 1) + n566) then (fun i => (fun i => bif Nat.blt i (n11 + 1) then (fun i => (fun i => bif Nat.blt i n11 then (fun i => (fun i => tf12 (0 + i)) (0 + i)) i else (fun i => (upd (fun _ => 0) 0 t440) (0 + i)) (i - n11)) (0 + i)) i else (fun i => tf567 (0 + i)) (i - (n11 + 1))) (0 + i)) i else (fun i => (upd (fun _ => 0) 0 t625) (0 + i)) (i - ((n11 + 1) + n566)))) none))))))))))) none) none))))) none) none)) none))))))))))))) none) none))))) none)) none))
theorem le_z1e {α : Type} {F F' : Sg_z1e α} (h : ∀ x0 x1 x2 x3 y0 y1 y2 y3 k r, F' x0 x1 x2 x3 y0 y1 y2 y3 k = some r → F x0 x1 x2 x3 y0 y1 y2 y3 k = some r) {args : List SV} {σ : Heap} {k : SV → Heap → R α} {r : α} (hk : ad_z1e F' args σ k = some r) : ad_z1e F args σ k = some r := by
  unfold ad_z1e at hk
  split at hk <;> try (cases hk; done)
  obtain ⟨b, b1, g0, g1, x0, rfl, h0, h1, hne, hk0⟩ := withMem_spec hk
  obtain ⟨c, g2, v, rfl, h2, hk1⟩ := withCell_spec hk0
  obtain ⟨hcb, hk2⟩ := bif_some hk1
  split at hk2 <;> try (cases hk2; done)
  obtain ⟨y0, rfl, hk3⟩ := decI_spec hk2
  obtain ⟨y1, rfl, hk4⟩ := GEntry.dec_spec hk3
  obtain ⟨y2, rfl, hk5⟩ := GFault.dec_spec hk4
  obtain ⟨y3, rfl, hk6⟩ := decB_spec hk5
  obtain ⟨rfl, hk7⟩ := decNil_spec hk6
  obtain ⟨x1, rfl, hk8⟩ := GAsking.dec_spec hk7
  obtain ⟨x2, rfl, hk9⟩ := decI_spec hk8
  obtain ⟨x3, rfl, hk10⟩ := decI_spec hk9
  have hkz := hk10
  unfold ad_z1e
  dsimp only
  rw [withMem_eq h0 h1 hne, withCell_eq h2, hcb]
  exact h x0 x1 x2 x3 y0 y1 y2 y3 _ _ hkz
abbrev Sg_zy (α : Type) := (Nat → Int) → GState → Int → Int → Int → Bool → Bool → (Int → GEntry → GFault → Bool → Bool → Nat → (Nat → Int) → R α) → R α
def ad_zy {α : Type} (F : Sg_zy α) : FF α := fun args σ k => match args with
  | [a0, a1, a2, a3, a4, a5, a6] => withMem σ a0 fun _ b1 _ g1 x0 => GState.dec a1 fun x1 => decI .u64 a2 fun x2 => decI .i64 a3 fun x3 => decI .i64 a4 fun x4 => decB a5 fun x5 => decB a6 fun x6 => F x0 x1 x2 x3 x4 x5 x6 (fun r0 r1 r2 r3 nl n tf => cond nl (k (.agg [(.int .u64 r0), (GEntry.sv r1), (GFault.sv r2), (.bool r3), .nils]) σ) (k (.agg [(.int .u64 r0), (GEntry.sv r1), (GFault.sv r2), (.bool r3), (.slc σ.next [] 1 0 n none)]) ⟨σ.next + 1, [(σ.next, .cells (some 1) (.ints .i64 n tf))] ++ σ.blocks⟩))
  | _ => none
def dR_ref11_Translate {α : Type} (v : SV) (σ1 : Heap) (k : Int → GEntry → GFault → Bool → Bool → Nat → (Nat → Int) → R α) : R α := bif kept 2 σ1 then (match v with | .agg [a0, a1, a2, a3, a4] => decI .u64 a0 fun r0 => GEntry.dec a1 fun r1 => GFault.dec a2 fun r2 => decB a3 fun r3 => decR 2 .i64 a4 σ1 fun nl n tf => k r0 r1 r2 r3 nl n tf | _ => none) else none
def p_zy {α : Type} (F_z1j : Sg_z1j α) (F_za : Sg_za α) (F_z9 : Sg_z9 α) (F_z1e : Sg_z1e α) (F_zs : Sg_zs α) (F_zm : Sg_zm α) (F_z2 : Sg_z2 α) (x0 : (Nat → Int)) (x1 : GState) (x2 : Int) (x3 : Int) (x4 : Int) (x5 : Bool) (x6 : Bool) (k : Int → GEntry → GFault → Bool → Bool → Nat → (Nat → Int) → R α) : R α :=
  F_z1j x1 x4 x5 (fun r1 =>
  let b2 : Bool := (!r1.First)
  cond b2 (
  let b3 : Bool := (!r1.Second)
  cond b3 (
  let b4 : Bool := (ltB x2 65536)
  cond b4 (
  let t5 : Int := (gshr .u64 x2 8)
  let t6 : Int := (IntKind.i64.wrap t5)
  k x2 (GEntry.mk true x5 t6 r1.Asid r1.Vmid t6 255 255 t6) (GFault.mk 0 0 0 false) true true 0 (fun _ => 0)) (
  k x2 (GEntry.mk true x5 0 r1.Asid r1.Vmid 0 255 255 0) (GFault.mk 0 0 0 false) true true 0 (fun _ => 0))) (
  let t7 : Int := (gshr .u64 x2 8)
  let t8 : Int := (bitop .and .u64 t7 255)
  let t9 : Int := (IntKind.i64.wrap t8)
  let b10 : Bool := (leB 65536 x2)
  cond b10 (
  F_za x3 (fun r11 =>
  let b12 : Bool := (!r1.First)
  cond b12 (
  F_z9 x3 (fun r13 =>
  let t14 : Int := (IntKind.u64.wrap (Int.tdiv x2 4))
  k 0 (GEntry.mk false false 0 0 0 0 0 0 0) (GFault.mk r13 x2 t14 x5) false true 0 (fun _ => 0))) (
  k 0 (GEntry.mk false false 0 0 0 0 0 0 0) (GFault.mk r11 x2 0 x5) false true 0 (fun _ => 0)))) (
  cond r1.First (
  F_z1e x0 r1 x2 x3 0 (GEntry.mk true x5 t9 r1.Asid r1.Vmid 0 255 255 0) (GFault.mk 0 x2 0 x5) false (fun r15 r16 r17 r18 r19 r20 r21 nl22 n23 tf24 =>
  cond nl22 (
  cond r17 (
  let t25 : Int := (bitop .and .u64 r15 255)
  let t26 : Int := (IntKind.i64.wrap t25)
  let b27 : Bool := (x4 == 0)
  F_zs t26 x3 b27 r1.Sum r1.Mxr x6 (fun r28 =>
  let b29 : Bool := (!r28)
  cond b29 (
  F_za x3 (fun r30 =>
  k r18 (GEntry.mk false false 0 0 0 0 0 0 0) (GFault.mk r30 r20.Value r20.Place r20.GVA) r21 true 0 (fun _ => 0))) (
  let b31 : Bool := (!r17)
  cond b31 (
  k r18 (GEntry.mk false false 0 0 0 0 0 0 0) r20 r21 true 0 (fun _ => 0)) (
  let t32 : Int := (bitop .and .u64 r15 255)
  let t33 : Int := (IntKind.i64.wrap t32)
  let t34 : Int := (IntKind.u64.wrap r16)
  let t35 : Int := (gshl .u64 t34 8)
  let t36 : Int := (bitop .and .u64 x2 255)
  let t37 : Int := (bitop .or .u64 t35 t36)
  F_zm x0 r1 t37 x3 x6 (fun r38 r39 r40 nl41 n42 tf43 =>
  cond nl41 (
  let b44 : Bool := (r40 != 0)
  cond b44 (
  F_z2 x3 (fun r45 =>
  let b46 : Bool := (r40 == 1)
  cond b46 (
  F_z9 x3 (fun r47 =>
  let t48 : Int := (IntKind.u64.wrap (Int.tdiv t37 4))
  k r18 (GEntry.mk false false 0 0 0 0 0 0 0) (GFault.mk r47 r20.Value t48 r20.GVA) r21 true 0 (fun _ => 0))) (
  k r18 (GEntry.mk false false 0 0 0 0 0 0 0) (GFault.mk r45 r20.Value r20.Place r20.GVA) r21 true 0 (fun _ => 0)))) (
  let t49 : Int := (gshr .u64 t37 8)
  let t50 : Int := (IntKind.i64.wrap t49)
  let t51 : Int := (gshr .u64 r38 8)
  let t52 : Int := (IntKind.i64.wrap t51)
  k r38 (GEntry.mk r19.Valid r19.V r19.Page r19.Asid r19.Vmid t52 t33 r39 t50) (GFault.mk 0 0 0 false) true true 0 (fun _ => 0))) (
  cond (decide (0 + n42 ≤ n42)) (
  cond (Nat.beq n42 0) (
  let b53 : Bool := (r40 != 0)
  cond b53 (
  F_z2 x3 (fun r54 =>
  let b55 : Bool := (r40 == 1)
  cond b55 (
  F_z9 x3 (fun r56 =>
  let t57 : Int := (IntKind.u64.wrap (Int.tdiv t37 4))
  k r18 (GEntry.mk false false 0 0 0 0 0 0 0) (GFault.mk r56 r20.Value t57 r20.GVA) r21 true 0 (fun _ => 0))) (
  k r18 (GEntry.mk false false 0 0 0 0 0 0 0) (GFault.mk r54 r20.Value r20.Place r20.GVA) r21 true 0 (fun _ => 0)))) (
  let t58 : Int := (gshr .u64 t37 8)
  let t59 : Int := (IntKind.i64.wrap t58)
  let t60 : Int := (gshr .u64 r38 8)
  let t61 : Int := (IntKind.i64.wrap t60)
  k r38 (GEntry.mk r19.Valid r19.V r19.Page r19.Asid r19.Vmid t61 t33 r39 t59) (GFault.mk 0 0 0 false) true true 0 (fun _ => 0))) (
  cond (decide (n42 * 8 ≤ 140737488355328) && decide (n42 ≤ 4611686018427387904)) (
  let b62 : Bool := (r40 != 0)
  cond b62 (
  F_z2 x3 (fun r63 =>
  let b64 : Bool := (r40 == 1)
  cond b64 (
  F_z9 x3 (fun r65 =>
  let t66 : Int := (IntKind.u64.wrap (Int.tdiv t37 4))
  cond (Nat.beq n42 n42) (k r18 (GEntry.mk false false 0 0 0 0 0 0 0) (GFault.mk r65 r20.Value t66 r20.GVA) r21 false n42 (fun i => tf43 (0 + i))) none)) (
  cond (Nat.beq n42 n42) (k r18 (GEntry.mk false false 0 0 0 0 0 0 0) (GFault.mk r63 r20.Value r20.Place r20.GVA) r21 false n42 (fun i => tf43 (0 + i))) none))) (
  let t67 : Int := (gshr .u64 t37 8)
  let t68 : Int := (IntKind.i64.wrap t67)
  let t69 : Int := (gshr .u64 r38 8)
  let t70 : Int := (IntKind.i64.wrap t69)
  cond (Nat.beq n42 n42) (k r38 (GEntry.mk r19.Valid r19.V r19.Page r19.Asid r19.Vmid t70 t33 r39 t68) (GFault.mk 0 0 0 false) true false n42 (fun i => tf43 (0 + i))) none)) none)) none)))))) (
  let b71 : Bool := (!r17)
  cond b71 (
  k r18 (GEntry.mk false false 0 0 0 0 0 0 0) r20 r21 true 0 (fun _ => 0)) (
  let t72 : Int := (bitop .and .u64 r15 255)
  let t73 : Int := (IntKind.i64.wrap t72)
  let t74 : Int := (IntKind.u64.wrap r16)
  let t75 : Int := (gshl .u64 t74 8)
  let t76 : Int := (bitop .and .u64 x2 255)
  let t77 : Int := (bitop .or .u64 t75 t76)
  F_zm x0 r1 t77 x3 x6 (fun r78 r79 r80 nl81 n82 tf83 =>
  cond nl81 (
  let b84 : Bool := (r80 != 0)
  cond b84 (
  F_z2 x3 (fun r85 =>
  let b86 : Bool := (r80 == 1)
  cond b86 (
  F_z9 x3 (fun r87 =>
  let t88 : Int := (IntKind.u64.wrap (Int.tdiv t77 4))
  k r18 (GEntry.mk false false 0 0 0 0 0 0 0) (GFault.mk r87 r20.Value t88 r20.GVA) r21 true 0 (fun _ => 0))) (
  k r18 (GEntry.mk false false 0 0 0 0 0 0 0) (GFault.mk r85 r20.Value r20.Place r20.GVA) r21 true 0 (fun _ => 0)))) (
  let t89 : Int := (gshr .u64 t77 8)
  let t90 : Int := (IntKind.i64.wrap t89)
  let t91 : Int := (gshr .u64 r78 8)
  let t92 : Int := (IntKind.i64.wrap t91)
  k r78 (GEntry.mk r19.Valid r19.V r19.Page r19.Asid r19.Vmid t92 t73 r79 t90) (GFault.mk 0 0 0 false) true true 0 (fun _ => 0))) (
  cond (decide (0 + n82 ≤ n82)) (
  cond (Nat.beq n82 0) (
  let b93 : Bool := (r80 != 0)
  cond b93 (
  F_z2 x3 (fun r94 =>
  let b95 : Bool := (r80 == 1)
  cond b95 (
  F_z9 x3 (fun r96 =>
  let t97 : Int := (IntKind.u64.wrap (Int.tdiv t77 4))
  k r18 (GEntry.mk false false 0 0 0 0 0 0 0) (GFault.mk r96 r20.Value t97 r20.GVA) r21 true 0 (fun _ => 0))) (
  k r18 (GEntry.mk false false 0 0 0 0 0 0 0) (GFault.mk r94 r20.Value r20.Place r20.GVA) r21 true 0 (fun _ => 0)))) (
  let t98 : Int := (gshr .u64 t77 8)
  let t99 : Int := (IntKind.i64.wrap t98)
  let t100 : Int := (gshr .u64 r78 8)
  let t101 : Int := (IntKind.i64.wrap t100)
  k r78 (GEntry.mk r19.Valid r19.V r19.Page r19.Asid r19.Vmid t101 t73 r79 t99) (GFault.mk 0 0 0 false) true true 0 (fun _ => 0))) (
  cond (decide (n82 * 8 ≤ 140737488355328) && decide (n82 ≤ 4611686018427387904)) (
  let b102 : Bool := (r80 != 0)
  cond b102 (
  F_z2 x3 (fun r103 =>
  let b104 : Bool := (r80 == 1)
  cond b104 (
  F_z9 x3 (fun r105 =>
  let t106 : Int := (IntKind.u64.wrap (Int.tdiv t77 4))
  cond (Nat.beq n82 n82) (k r18 (GEntry.mk false false 0 0 0 0 0 0 0) (GFault.mk r105 r20.Value t106 r20.GVA) r21 false n82 (fun i => tf83 (0 + i))) none)) (
  cond (Nat.beq n82 n82) (k r18 (GEntry.mk false false 0 0 0 0 0 0 0) (GFault.mk r103 r20.Value r20.Place r20.GVA) r21 false n82 (fun i => tf83 (0 + i))) none))) (
  let t107 : Int := (gshr .u64 t77 8)
  let t108 : Int := (IntKind.i64.wrap t107)
  let t109 : Int := (gshr .u64 r78 8)
  let t110 : Int := (IntKind.i64.wrap t109)
  cond (Nat.beq n82 n82) (k r78 (GEntry.mk r19.Valid r19.V r19.Page r19.Asid r19.Vmid t110 t73 r79 t108) (GFault.mk 0 0 0 false) true false n82 (fun i => tf83 (0 + i))) none)) none)) none))))) (
  cond r17 (
  let t111 : Int := (bitop .and .u64 r15 255)
  let t112 : Int := (IntKind.i64.wrap t111)
  let b113 : Bool := (x4 == 0)
  F_zs t112 x3 b113 r1.Sum r1.Mxr x6 (fun r114 =>
  let b115 : Bool := (!r114)
  cond b115 (
  F_za x3 (fun r116 =>
  cond (Nat.beq n23 n23) (k r18 (GEntry.mk false false 0 0 0 0 0 0 0) (GFault.mk r116 r20.Value r20.Place r20.GVA) r21 false n23 tf24) none)) (
  let b117 : Bool := (!r17)
  cond b117 (
  cond (Nat.beq n23 n23) (k r18 (GEntry.mk false false 0 0 0 0 0 0 0) r20 r21 false n23 tf24) none) (
  let t118 : Int := (bitop .and .u64 r15 255)
  let t119 : Int := (IntKind.i64.wrap t118)
  let t120 : Int := (IntKind.u64.wrap r16)
  let t121 : Int := (gshl .u64 t120 8)
  let t122 : Int := (bitop .and .u64 x2 255)
  let t123 : Int := (bitop .or .u64 t121 t122)
  F_zm x0 r1 t123 x3 x6 (fun r124 r125 r126 nl127 n128 tf129 =>
  cond nl127 (
  cond (decide (0 + n23 ≤ n23)) (
  let b130 : Bool := (r126 != 0)
  cond b130 (
  F_z2 x3 (fun r131 =>
  let b132 : Bool := (r126 == 1)
  cond b132 (
  F_z9 x3 (fun r133 =>
  let t134 : Int := (IntKind.u64.wrap (Int.tdiv t123 4))
  cond (Nat.beq n23 n23) (k r18 (GEntry.mk false false 0 0 0 0 0 0 0) (GFault.mk r133 r20.Value t134 r20.GVA) r21 false n23 tf24) none)) (
  cond (Nat.beq n23 n23) (k r18 (GEntry.mk false false 0 0 0 0 0 0 0) (GFault.mk r131 r20.Value r20.Place r20.GVA) r21 false n23 tf24) none))) (
  let t135 : Int := (gshr .u64 t123 8)
  let t136 : Int := (IntKind.i64.wrap t135)
  let t137 : Int := (gshr .u64 r124 8)
  let t138 : Int := (IntKind.i64.wrap t137)
  cond (Nat.beq n23 n23) (k r124 (GEntry.mk r19.Valid r19.V r19.Page r19.Asid r19.Vmid t138 t119 r125 t136) (GFault.mk 0 0 0 false) true false n23 tf24) none)) none) (
  cond (decide (0 + n128 ≤ n128)) (
  cond (Nat.beq n128 0) (
  cond (decide (0 + n23 ≤ n23)) (
  let b139 : Bool := (r126 != 0)
  cond b139 (
  F_z2 x3 (fun r140 =>
  let b141 : Bool := (r126 == 1)
  cond b141 (
  F_z9 x3 (fun r142 =>
  let t143 : Int := (IntKind.u64.wrap (Int.tdiv t123 4))
  cond (Nat.beq n23 n23) (k r18 (GEntry.mk false false 0 0 0 0 0 0 0) (GFault.mk r142 r20.Value t143 r20.GVA) r21 false n23 tf24) none)) (
  cond (Nat.beq n23 n23) (k r18 (GEntry.mk false false 0 0 0 0 0 0 0) (GFault.mk r140 r20.Value r20.Place r20.GVA) r21 false n23 tf24) none))) (
  let t144 : Int := (gshr .u64 t123 8)
  let t145 : Int := (IntKind.i64.wrap t144)
  let t146 : Int := (gshr .u64 r124 8)
  let t147 : Int := (IntKind.i64.wrap t146)
  cond (Nat.beq n23 n23) (k r124 (GEntry.mk r19.Valid r19.V r19.Page r19.Asid r19.Vmid t147 t119 r125 t145) (GFault.mk 0 0 0 false) true false n23 tf24) none)) none) (
  cond (decide (0 + n23 ≤ n23)) (
  cond (decide ((n23 + n128) * 8 ≤ 140737488355328) && decide ((n23 + n128) ≤ 4611686018427387904)) (
  let b148 : Bool := (r126 != 0)
  cond b148 (
  F_z2 x3 (fun r149 =>
  let b150 : Bool := (r126 == 1)
  cond b150 (
  F_z9 x3 (fun r151 =>
  let t152 : Int := (IntKind.u64.wrap (Int.tdiv t123 4))
  cond (Nat.beq (n23 + n128) (n23 + n128)) (k r18 (GEntry.mk false false 0 0 0 0 0 0 0) (GFault.mk r151 r20.Value t152 r20.GVA) r21 false (n23 + n128) (fun i => bif Nat.blt i n23 then (fun i => tf24 (0 + i)) i else (fun i => tf129 (0 + i)) (i - n23))) none)) (
  cond (Nat.beq (n23 + n128) (n23 + n128)) (k r18 (GEntry.mk false false 0 0 0 0 0 0 0) (GFault.mk r149 r20.Value r20.Place r20.GVA) r21 false (n23 + n128) (fun i => bif Nat.blt i n23 then (fun i => tf24 (0 + i)) i else (fun i => tf129 (0 + i)) (i - n23))) none))) (
  let t153 : Int := (gshr .u64 t123 8)
  let t154 : Int := (IntKind.i64.wrap t153)
  let t155 : Int := (gshr .u64 r124 8)
  let t156 : Int := (IntKind.i64.wrap t155)
  cond (Nat.beq (n23 + n128) (n23 + n128)) (k r124 (GEntry.mk r19.Valid r19.V r19.Page r19.Asid r19.Vmid t156 t119 r125 t154) (GFault.mk 0 0 0 false) true false (n23 + n128) (fun i => bif Nat.blt i n23 then (fun i => tf24 (0 + i)) i else (fun i => tf129 (0 + i)) (i - n23))) none)) none) none)) none)))))) (
  let b157 : Bool := (!r17)
  cond b157 (
  cond (Nat.beq n23 n23) (k r18 (GEntry.mk false false 0 0 0 0 0 0 0) r20 r21 false n23 tf24) none) (
  let t158 : Int := (bitop .and .u64 r15 255)
  let t159 : Int := (IntKind.i64.wrap t158)
  let t160 : Int := (IntKind.u64.wrap r16)
  let t161 : Int := (gshl .u64 t160 8)
  let t162 : Int := (bitop .and .u64 x2 255)
  let t163 : Int := (bitop .or .u64 t161 t162)
  F_zm x0 r1 t163 x3 x6 (fun r164 r165 r166 nl167 n168 tf169 =>
  cond nl167 (
  cond (decide (0 + n23 ≤ n23)) (
  let b170 : Bool := (r166 != 0)
  cond b170 (
  F_z2 x3 (fun r171 =>
  let b172 : Bool := (r166 == 1)
  cond b172 (
  F_z9 x3 (fun r173 =>
  let t174 : Int := (IntKind.u64.wrap (Int.tdiv t163 4))
  cond (Nat.beq n23 n23) (k r18 (GEntry.mk false false 0 0 0 0 0 0 0) (GFault.mk r173 r20.Value t174 r20.GVA) r21 false n23 tf24) none)) (
  cond (Nat.beq n23 n23) (k r18 (GEntry.mk false false 0 0 0 0 0 0 0) (GFault.mk r171 r20.Value r20.Place r20.GVA) r21 false n23 tf24) none))) (
  let t175 : Int := (gshr .u64 t163 8)
  let t176 : Int := (IntKind.i64.wrap t175)
  let t177 : Int := (gshr .u64 r164 8)
  let t178 : Int := (IntKind.i64.wrap t177)
  cond (Nat.beq n23 n23) (k r164 (GEntry.mk r19.Valid r19.V r19.Page r19.Asid r19.Vmid t178 t159 r165 t176) (GFault.mk 0 0 0 false) true false n23 tf24) none)) none) (
  cond (decide (0 + n168 ≤ n168)) (
  cond (Nat.beq n168 0) (
  cond (decide (0 + n23 ≤ n23)) (
  let b179 : Bool := (r166 != 0)
  cond b179 (
  F_z2 x3 (fun r180 =>
  let b181 : Bool := (r166 == 1)
  cond b181 (
  F_z9 x3 (fun r182 =>
  let t183 : Int := (IntKind.u64.wrap (Int.tdiv t163 4))
  cond (Nat.beq n23 n23) (k r18 (GEntry.mk false false 0 0 0 0 0 0 0) (GFault.mk r182 r20.Value t183 r20.GVA) r21 false n23 tf24) none)) (
  cond (Nat.beq n23 n23) (k r18 (GEntry.mk false false 0 0 0 0 0 0 0) (GFault.mk r180 r20.Value r20.Place r20.GVA) r21 false n23 tf24) none))) (
  let t184 : Int := (gshr .u64 t163 8)
  let t185 : Int := (IntKind.i64.wrap t184)
  let t186 : Int := (gshr .u64 r164 8)
  let t187 : Int := (IntKind.i64.wrap t186)
  cond (Nat.beq n23 n23) (k r164 (GEntry.mk r19.Valid r19.V r19.Page r19.Asid r19.Vmid t187 t159 r165 t185) (GFault.mk 0 0 0 false) true false n23 tf24) none)) none) (
  cond (decide (0 + n23 ≤ n23)) (
  cond (decide ((n23 + n168) * 8 ≤ 140737488355328) && decide ((n23 + n168) ≤ 4611686018427387904)) (
  let b188 : Bool := (r166 != 0)
  cond b188 (
  F_z2 x3 (fun r189 =>
  let b190 : Bool := (r166 == 1)
  cond b190 (
  F_z9 x3 (fun r191 =>
  let t192 : Int := (IntKind.u64.wrap (Int.tdiv t163 4))
  cond (Nat.beq (n23 + n168) (n23 + n168)) (k r18 (GEntry.mk false false 0 0 0 0 0 0 0) (GFault.mk r191 r20.Value t192 r20.GVA) r21 false (n23 + n168) (fun i => bif Nat.blt i n23 then (fun i => tf24 (0 + i)) i else (fun i => tf169 (0 + i)) (i - n23))) none)) (
  cond (Nat.beq (n23 + n168) (n23 + n168)) (k r18 (GEntry.mk false false 0 0 0 0 0 0 0) (GFault.mk r189 r20.Value r20.Place r20.GVA) r21 false (n23 + n168) (fun i => bif Nat.blt i n23 then (fun i => tf24 (0 + i)) i else (fun i => tf169 (0 + i)) (i - n23))) none))) (
  let t193 : Int := (gshr .u64 t163 8)
  let t194 : Int := (IntKind.i64.wrap t193)
  let t195 : Int := (gshr .u64 r164 8)
  let t196 : Int := (IntKind.i64.wrap t195)
  cond (Nat.beq (n23 + n168) (n23 + n168)) (k r164 (GEntry.mk r19.Valid r19.V r19.Page r19.Asid r19.Vmid t196 t159 r165 t194) (GFault.mk 0 0 0 false) true false (n23 + n168) (fun i => bif Nat.blt i n23 then (fun i => tf24 (0 + i)) i else (fun i => tf169 (0 + i)) (i - n23))) none)) none) none)) none))))))) (
  F_zm x0 r1 x2 x3 x6 (fun r197 r198 r199 nl200 n201 tf202 =>
  cond nl200 (
  let b203 : Bool := (r199 != 0)
  cond b203 (
  F_z2 x3 (fun r204 =>
  let b205 : Bool := (r199 == 1)
  cond b205 (
  F_z9 x3 (fun r206 =>
  let t207 : Int := (IntKind.u64.wrap (Int.tdiv x2 4))
  k 0 (GEntry.mk false false 0 0 0 0 0 0 0) (GFault.mk r206 x2 t207 x5) false true 0 (fun _ => 0))) (
  k 0 (GEntry.mk false false 0 0 0 0 0 0 0) (GFault.mk r204 x2 0 x5) false true 0 (fun _ => 0)))) (
  let t208 : Int := (gshr .u64 x2 8)
  let t209 : Int := (IntKind.i64.wrap t208)
  let t210 : Int := (gshr .u64 r197 8)
  let t211 : Int := (IntKind.i64.wrap t210)
  k r197 (GEntry.mk true x5 t9 r1.Asid r1.Vmid t211 255 r198 t209) (GFault.mk 0 0 0 false) true true 0 (fun _ => 0))) (
  cond (decide (0 + n201 ≤ n201)) (
  cond (Nat.beq n201 0) (
  let b212 : Bool := (r199 != 0)
  cond b212 (
  F_z2 x3 (fun r213 =>
  let b214 : Bool := (r199 == 1)
  cond b214 (
  F_z9 x3 (fun r215 =>
  let t216 : Int := (IntKind.u64.wrap (Int.tdiv x2 4))
  k 0 (GEntry.mk false false 0 0 0 0 0 0 0) (GFault.mk r215 x2 t216 x5) false true 0 (fun _ => 0))) (
  k 0 (GEntry.mk false false 0 0 0 0 0 0 0) (GFault.mk r213 x2 0 x5) false true 0 (fun _ => 0)))) (
  let t217 : Int := (gshr .u64 x2 8)
  let t218 : Int := (IntKind.i64.wrap t217)
  let t219 : Int := (gshr .u64 r197 8)
  let t220 : Int := (IntKind.i64.wrap t219)
  k r197 (GEntry.mk true x5 t9 r1.Asid r1.Vmid t220 255 r198 t218) (GFault.mk 0 0 0 false) true true 0 (fun _ => 0))) (
  cond (decide (n201 * 8 ≤ 140737488355328) && decide (n201 ≤ 4611686018427387904)) (
  let b221 : Bool := (r199 != 0)
  cond b221 (
  F_z2 x3 (fun r222 =>
  let b223 : Bool := (r199 == 1)
  cond b223 (
  F_z9 x3 (fun r224 =>
  let t225 : Int := (IntKind.u64.wrap (Int.tdiv x2 4))
  cond (Nat.beq n201 n201) (k 0 (GEntry.mk false false 0 0 0 0 0 0 0) (GFault.mk r224 x2 t225 x5) false false n201 (fun i => tf202 (0 + i))) none)) (
  cond (Nat.beq n201 n201) (k 0 (GEntry.mk false false 0 0 0 0 0 0 0) (GFault.mk r222 x2 0 x5) false false n201 (fun i => tf202 (0 + i))) none))) (
  let t226 : Int := (gshr .u64 x2 8)
  let t227 : Int := (IntKind.i64.wrap t226)
  let t228 : Int := (gshr .u64 r197 8)
  let t229 : Int := (IntKind.i64.wrap t228)
  cond (Nat.beq n201 n201) (k r197 (GEntry.mk true x5 t9 r1.Asid r1.Vmid t229 255 r198 t227) (GFault.mk 0 0 0 false) true false n201 (fun i => tf202 (0 + i))) none)) none)) none)))))) (
  let t230 : Int := (gshr .u64 x2 8)
  let t231 : Int := (bitop .and .u64 t230 255)
  let t232 : Int := (IntKind.i64.wrap t231)
  let b233 : Bool := (leB 65536 x2)
  cond b233 (
  F_za x3 (fun r234 =>
  let b235 : Bool := (!r1.First)
  cond b235 (
  F_z9 x3 (fun r236 =>
  let t237 : Int := (IntKind.u64.wrap (Int.tdiv x2 4))
  k 0 (GEntry.mk false false 0 0 0 0 0 0 0) (GFault.mk r236 x2 t237 x5) false true 0 (fun _ => 0))) (
  k 0 (GEntry.mk false false 0 0 0 0 0 0 0) (GFault.mk r234 x2 0 x5) false true 0 (fun _ => 0)))) (
  cond r1.First (
  F_z1e x0 r1 x2 x3 0 (GEntry.mk true x5 t232 r1.Asid r1.Vmid 0 255 255 0) (GFault.mk 0 x2 0 x5) false (fun r238 r239 r240 r241 r242 r243 r244 nl245 n246 tf247 =>
  cond nl245 (
  cond r240 (
  let t248 : Int := (bitop .and .u64 r238 255)
  let t249 : Int := (IntKind.i64.wrap t248)
  let b250 : Bool := (x4 == 0)
  F_zs t249 x3 b250 r1.Sum r1.Mxr x6 (fun r251 =>
  let b252 : Bool := (!r251)
  cond b252 (
  F_za x3 (fun r253 =>
  k r241 (GEntry.mk false false 0 0 0 0 0 0 0) (GFault.mk r253 r243.Value r243.Place r243.GVA) r244 true 0 (fun _ => 0))) (
  let b254 : Bool := (!r240)
  cond b254 (
  k r241 (GEntry.mk false false 0 0 0 0 0 0 0) r243 r244 true 0 (fun _ => 0)) (
  let t255 : Int := (bitop .and .u64 r238 255)
  let t256 : Int := (IntKind.i64.wrap t255)
  let t257 : Int := (IntKind.u64.wrap r239)
  let t258 : Int := (gshl .u64 t257 8)
  let t259 : Int := (bitop .and .u64 x2 255)
  let t260 : Int := (bitop .or .u64 t258 t259)
  F_zm x0 r1 t260 x3 x6 (fun r261 r262 r263 nl264 n265 tf266 =>
  cond nl264 (
  let b267 : Bool := (r263 != 0)
  cond b267 (
  F_z2 x3 (fun r268 =>
  let b269 : Bool := (r263 == 1)
  cond b269 (
  F_z9 x3 (fun r270 =>
  let t271 : Int := (IntKind.u64.wrap (Int.tdiv t260 4))
  k r241 (GEntry.mk false false 0 0 0 0 0 0 0) (GFault.mk r270 r243.Value t271 r243.GVA) r244 true 0 (fun _ => 0))) (
  k r241 (GEntry.mk false false 0 0 0 0 0 0 0) (GFault.mk r268 r243.Value r243.Place r243.GVA) r244 true 0 (fun _ => 0)))) (
  let t272 : Int := (gshr .u64 t260 8)
  let t273 : Int := (IntKind.i64.wrap t272)
  let t274 : Int := (gshr .u64 r261 8)
  let t275 : Int := (IntKind.i64.wrap t274)
  k r261 (GEntry.mk r242.Valid r242.V r242.Page r242.Asid r242.Vmid t275 t256 r262 t273) (GFault.mk 0 0 0 false) true true 0 (fun _ => 0))) (
  cond (decide (0 + n265 ≤ n265)) (
  cond (Nat.beq n265 0) (
  let b276 : Bool := (r263 != 0)
  cond b276 (
  F_z2 x3 (fun r277 =>
  let b278 : Bool := (r263 == 1)
  cond b278 (
  F_z9 x3 (fun r279 =>
  let t280 : Int := (IntKind.u64.wrap (Int.tdiv t260 4))
  k r241 (GEntry.mk false false 0 0 0 0 0 0 0) (GFault.mk r279 r243.Value t280 r243.GVA) r244 true 0 (fun _ => 0))) (
  k r241 (GEntry.mk false false 0 0 0 0 0 0 0) (GFault.mk r277 r243.Value r243.Place r243.GVA) r244 true 0 (fun _ => 0)))) (
  let t281 : Int := (gshr .u64 t260 8)
  let t282 : Int := (IntKind.i64.wrap t281)
  let t283 : Int := (gshr .u64 r261 8)
  let t284 : Int := (IntKind.i64.wrap t283)
  k r261 (GEntry.mk r242.Valid r242.V r242.Page r242.Asid r242.Vmid t284 t256 r262 t282) (GFault.mk 0 0 0 false) true true 0 (fun _ => 0))) (
  cond (decide (n265 * 8 ≤ 140737488355328) && decide (n265 ≤ 4611686018427387904)) (
  let b285 : Bool := (r263 != 0)
  cond b285 (
  F_z2 x3 (fun r286 =>
  let b287 : Bool := (r263 == 1)
  cond b287 (
  F_z9 x3 (fun r288 =>
  let t289 : Int := (IntKind.u64.wrap (Int.tdiv t260 4))
  cond (Nat.beq n265 n265) (k r241 (GEntry.mk false false 0 0 0 0 0 0 0) (GFault.mk r288 r243.Value t289 r243.GVA) r244 false n265 (fun i => tf266 (0 + i))) none)) (
  cond (Nat.beq n265 n265) (k r241 (GEntry.mk false false 0 0 0 0 0 0 0) (GFault.mk r286 r243.Value r243.Place r243.GVA) r244 false n265 (fun i => tf266 (0 + i))) none))) (
  let t290 : Int := (gshr .u64 t260 8)
  let t291 : Int := (IntKind.i64.wrap t290)
  let t292 : Int := (gshr .u64 r261 8)
  let t293 : Int := (IntKind.i64.wrap t292)
  cond (Nat.beq n265 n265) (k r261 (GEntry.mk r242.Valid r242.V r242.Page r242.Asid r242.Vmid t293 t256 r262 t291) (GFault.mk 0 0 0 false) true false n265 (fun i => tf266 (0 + i))) none)) none)) none)))))) (
  let b294 : Bool := (!r240)
  cond b294 (
  k r241 (GEntry.mk false false 0 0 0 0 0 0 0) r243 r244 true 0 (fun _ => 0)) (
  let t295 : Int := (bitop .and .u64 r238 255)
  let t296 : Int := (IntKind.i64.wrap t295)
  let t297 : Int := (IntKind.u64.wrap r239)
  let t298 : Int := (gshl .u64 t297 8)
  let t299 : Int := (bitop .and .u64 x2 255)
  let t300 : Int := (bitop .or .u64 t298 t299)
  F_zm x0 r1 t300 x3 x6 (fun r301 r302 r303 nl304 n305 tf306 =>
  cond nl304 (
  let b307 : Bool := (r303 != 0)
  cond b307 (
  F_z2 x3 (fun r308 =>
  let b309 : Bool := (r303 == 1)
  cond b309 (
  F_z9 x3 (fun r310 =>
  let t311 : Int := (IntKind.u64.wrap (Int.tdiv t300 4))
  k r241 (GEntry.mk false false 0 0 0 0 0 0 0) (GFault.mk r310 r243.Value t311 r243.GVA) r244 true 0 (fun _ => 0))) (
  k r241 (GEntry.mk false false 0 0 0 0 0 0 0) (GFault.mk r308 r243.Value r243.Place r243.GVA) r244 true 0 (fun _ => 0)))) (
  let t312 : Int := (gshr .u64 t300 8)
  let t313 : Int := (IntKind.i64.wrap t312)
  let t314 : Int := (gshr .u64 r301 8)
  let t315 : Int := (IntKind.i64.wrap t314)
  k r301 (GEntry.mk r242.Valid r242.V r242.Page r242.Asid r242.Vmid t315 t296 r302 t313) (GFault.mk 0 0 0 false) true true 0 (fun _ => 0))) (
  cond (decide (0 + n305 ≤ n305)) (
  cond (Nat.beq n305 0) (
  let b316 : Bool := (r303 != 0)
  cond b316 (
  F_z2 x3 (fun r317 =>
  let b318 : Bool := (r303 == 1)
  cond b318 (
  F_z9 x3 (fun r319 =>
  let t320 : Int := (IntKind.u64.wrap (Int.tdiv t300 4))
  k r241 (GEntry.mk false false 0 0 0 0 0 0 0) (GFault.mk r319 r243.Value t320 r243.GVA) r244 true 0 (fun _ => 0))) (
  k r241 (GEntry.mk false false 0 0 0 0 0 0 0) (GFault.mk r317 r243.Value r243.Place r243.GVA) r244 true 0 (fun _ => 0)))) (
  let t321 : Int := (gshr .u64 t300 8)
  let t322 : Int := (IntKind.i64.wrap t321)
  let t323 : Int := (gshr .u64 r301 8)
  let t324 : Int := (IntKind.i64.wrap t323)
  k r301 (GEntry.mk r242.Valid r242.V r242.Page r242.Asid r242.Vmid t324 t296 r302 t322) (GFault.mk 0 0 0 false) true true 0 (fun _ => 0))) (
  cond (decide (n305 * 8 ≤ 140737488355328) && decide (n305 ≤ 4611686018427387904)) (
  let b325 : Bool := (r303 != 0)
  cond b325 (
  F_z2 x3 (fun r326 =>
  let b327 : Bool := (r303 == 1)
  cond b327 (
  F_z9 x3 (fun r328 =>
  let t329 : Int := (IntKind.u64.wrap (Int.tdiv t300 4))
  cond (Nat.beq n305 n305) (k r241 (GEntry.mk false false 0 0 0 0 0 0 0) (GFault.mk r328 r243.Value t329 r243.GVA) r244 false n305 (fun i => tf306 (0 + i))) none)) (
  cond (Nat.beq n305 n305) (k r241 (GEntry.mk false false 0 0 0 0 0 0 0) (GFault.mk r326 r243.Value r243.Place r243.GVA) r244 false n305 (fun i => tf306 (0 + i))) none))) (
  let t330 : Int := (gshr .u64 t300 8)
  let t331 : Int := (IntKind.i64.wrap t330)
  let t332 : Int := (gshr .u64 r301 8)
  let t333 : Int := (IntKind.i64.wrap t332)
  cond (Nat.beq n305 n305) (k r301 (GEntry.mk r242.Valid r242.V r242.Page r242.Asid r242.Vmid t333 t296 r302 t331) (GFault.mk 0 0 0 false) true false n305 (fun i => tf306 (0 + i))) none)) none)) none))))) (
  cond r240 (
  let t334 : Int := (bitop .and .u64 r238 255)
  let t335 : Int := (IntKind.i64.wrap t334)
  let b336 : Bool := (x4 == 0)
  F_zs t335 x3 b336 r1.Sum r1.Mxr x6 (fun r337 =>
  let b338 : Bool := (!r337)
  cond b338 (
  F_za x3 (fun r339 =>
  cond (Nat.beq n246 n246) (k r241 (GEntry.mk false false 0 0 0 0 0 0 0) (GFault.mk r339 r243.Value r243.Place r243.GVA) r244 false n246 tf247) none)) (
  let b340 : Bool := (!r240)
  cond b340 (
  cond (Nat.beq n246 n246) (k r241 (GEntry.mk false false 0 0 0 0 0 0 0) r243 r244 false n246 tf247) none) (
  let t341 : Int := (bitop .and .u64 r238 255)
  let t342 : Int := (IntKind.i64.wrap t341)
  let t343 : Int := (IntKind.u64.wrap r239)
  let t344 : Int := (gshl .u64 t343 8)
  let t345 : Int := (bitop .and .u64 x2 255)
  let t346 : Int := (bitop .or .u64 t344 t345)
  F_zm x0 r1 t346 x3 x6 (fun r347 r348 r349 nl350 n351 tf352 =>
  cond nl350 (
  cond (decide (0 + n246 ≤ n246)) (
  let b353 : Bool := (r349 != 0)
  cond b353 (
  F_z2 x3 (fun r354 =>
  let b355 : Bool := (r349 == 1)
  cond b355 (
  F_z9 x3 (fun r356 =>
  let t357 : Int := (IntKind.u64.wrap (Int.tdiv t346 4))
  cond (Nat.beq n246 n246) (k r241 (GEntry.mk false false 0 0 0 0 0 0 0) (GFault.mk r356 r243.Value t357 r243.GVA) r244 false n246 tf247) none)) (
  cond (Nat.beq n246 n246) (k r241 (GEntry.mk false false 0 0 0 0 0 0 0) (GFault.mk r354 r243.Value r243.Place r243.GVA) r244 false n246 tf247) none))) (
  let t358 : Int := (gshr .u64 t346 8)
  let t359 : Int := (IntKind.i64.wrap t358)
  let t360 : Int := (gshr .u64 r347 8)
  let t361 : Int := (IntKind.i64.wrap t360)
  cond (Nat.beq n246 n246) (k r347 (GEntry.mk r242.Valid r242.V r242.Page r242.Asid r242.Vmid t361 t342 r348 t359) (GFault.mk 0 0 0 false) true false n246 tf247) none)) none) (
  cond (decide (0 + n351 ≤ n351)) (
  cond (Nat.beq n351 0) (
  cond (decide (0 + n246 ≤ n246)) (
  let b362 : Bool := (r349 != 0)
  cond b362 (
  F_z2 x3 (fun r363 =>
  let b364 : Bool := (r349 == 1)
  cond b364 (
  F_z9 x3 (fun r365 =>
  let t366 : Int := (IntKind.u64.wrap (Int.tdiv t346 4))
  cond (Nat.beq n246 n246) (k r241 (GEntry.mk false false 0 0 0 0 0 0 0) (GFault.mk r365 r243.Value t366 r243.GVA) r244 false n246 tf247) none)) (
  cond (Nat.beq n246 n246) (k r241 (GEntry.mk false false 0 0 0 0 0 0 0) (GFault.mk r363 r243.Value r243.Place r243.GVA) r244 false n246 tf247) none))) (
  let t367 : Int := (gshr .u64 t346 8)
  let t368 : Int := (IntKind.i64.wrap t367)
  let t369 : Int := (gshr .u64 r347 8)
  let t370 : Int := (IntKind.i64.wrap t369)
  cond (Nat.beq n246 n246) (k r347 (GEntry.mk r242.Valid r242.V r242.Page r242.Asid r242.Vmid t370 t342 r348 t368) (GFault.mk 0 0 0 false) true false n246 tf247) none)) none) (
  cond (decide (0 + n246 ≤ n246)) (
  cond (decide ((n246 + n351) * 8 ≤ 140737488355328) && decide ((n246 + n351) ≤ 4611686018427387904)) (
  let b371 : Bool := (r349 != 0)
  cond b371 (
  F_z2 x3 (fun r372 =>
  let b373 : Bool := (r349 == 1)
  cond b373 (
  F_z9 x3 (fun r374 =>
  let t375 : Int := (IntKind.u64.wrap (Int.tdiv t346 4))
  cond (Nat.beq (n246 + n351) (n246 + n351)) (k r241 (GEntry.mk false false 0 0 0 0 0 0 0) (GFault.mk r374 r243.Value t375 r243.GVA) r244 false (n246 + n351) (fun i => bif Nat.blt i n246 then (fun i => tf247 (0 + i)) i else (fun i => tf352 (0 + i)) (i - n246))) none)) (
  cond (Nat.beq (n246 + n351) (n246 + n351)) (k r241 (GEntry.mk false false 0 0 0 0 0 0 0) (GFault.mk r372 r243.Value r243.Place r243.GVA) r244 false (n246 + n351) (fun i => bif Nat.blt i n246 then (fun i => tf247 (0 + i)) i else (fun i => tf352 (0 + i)) (i - n246))) none))) (
  let t376 : Int := (gshr .u64 t346 8)
  let t377 : Int := (IntKind.i64.wrap t376)
  let t378 : Int := (gshr .u64 r347 8)
  let t379 : Int := (IntKind.i64.wrap t378)
  cond (Nat.beq (n246 + n351) (n246 + n351)) (k r347 (GEntry.mk r242.Valid r242.V r242.Page r242.Asid r242.Vmid t379 t342 r348 t377) (GFault.mk 0 0 0 false) true false (n246 + n351) (fun i => bif Nat.blt i n246 then (fun i => tf247 (0 + i)) i else (fun i => tf352 (0 + i)) (i - n246))) none)) none) none)) none)))))) (
  let b380 : Bool := (!r240)
  cond b380 (
  cond (Nat.beq n246 n246) (k r241 (GEntry.mk false false 0 0 0 0 0 0 0) r243 r244 false n246 tf247) none) (
  let t381 : Int := (bitop .and .u64 r238 255)
  let t382 : Int := (IntKind.i64.wrap t381)
  let t383 : Int := (IntKind.u64.wrap r239)
  let t384 : Int := (gshl .u64 t383 8)
  let t385 : Int := (bitop .and .u64 x2 255)
  let t386 : Int := (bitop .or .u64 t384 t385)
  F_zm x0 r1 t386 x3 x6 (fun r387 r388 r389 nl390 n391 tf392 =>
  cond nl390 (
  cond (decide (0 + n246 ≤ n246)) (
  let b393 : Bool := (r389 != 0)
  cond b393 (
  F_z2 x3 (fun r394 =>
  let b395 : Bool := (r389 == 1)
  cond b395 (
  F_z9 x3 (fun r396 =>
  let t397 : Int := (IntKind.u64.wrap (Int.tdiv t386 4))
  cond (Nat.beq n246 n246) (k r241 (GEntry.mk false false 0 0 0 0 0 0 0) (GFault.mk r396 r243.Value t397 r243.GVA) r244 false n246 tf247) none)) (
  cond (Nat.beq n246 n246) (k r241 (GEntry.mk false false 0 0 0 0 0 0 0) (GFault.mk r394 r243.Value r243.Place r243.GVA) r244 false n246 tf247) none))) (
  let t398 : Int := (gshr .u64 t386 8)
  let t399 : Int := (IntKind.i64.wrap t398)
  let t400 : Int := (gshr .u64 r387 8)
  let t401 : Int := (IntKind.i64.wrap t400)
  cond (Nat.beq n246 n246) (k r387 (GEntry.mk r242.Valid r242.V r242.Page r242.Asid r242.Vmid t401 t382 r388 t399) (GFault.mk 0 0 0 false) true false n246 tf247) none)) none) (
  cond (decide (0 + n391 ≤ n391)) (
  cond (Nat.beq n391 0) (
  cond (decide (0 + n246 ≤ n246)) (
  let b402 : Bool := (r389 != 0)
  cond b402 (
  F_z2 x3 (fun r403 =>
  let b404 : Bool := (r389 == 1)
  cond b404 (
  F_z9 x3 (fun r405 =>
  let t406 : Int := (IntKind.u64.wrap (Int.tdiv t386 4))
  cond (Nat.beq n246 n246) (k r241 (GEntry.mk false false 0 0 0 0 0 0 0) (GFault.mk r405 r243.Value t406 r243.GVA) r244 false n246 tf247) none)) (
  cond (Nat.beq n246 n246) (k r241 (GEntry.mk false false 0 0 0 0 0 0 0) (GFault.mk r403 r243.Value r243.Place r243.GVA) r244 false n246 tf247) none))) (
  let t407 : Int := (gshr .u64 t386 8)
  let t408 : Int := (IntKind.i64.wrap t407)
  let t409 : Int := (gshr .u64 r387 8)
  let t410 : Int := (IntKind.i64.wrap t409)
  cond (Nat.beq n246 n246) (k r387 (GEntry.mk r242.Valid r242.V r242.Page r242.Asid r242.Vmid t410 t382 r388 t408) (GFault.mk 0 0 0 false) true false n246 tf247) none)) none) (
  cond (decide (0 + n246 ≤ n246)) (
  cond (decide ((n246 + n391) * 8 ≤ 140737488355328) && decide ((n246 + n391) ≤ 4611686018427387904)) (
  let b411 : Bool := (r389 != 0)
  cond b411 (
  F_z2 x3 (fun r412 =>
  let b413 : Bool := (r389 == 1)
  cond b413 (
  F_z9 x3 (fun r414 =>
  let t415 : Int := (IntKind.u64.wrap (Int.tdiv t386 4))
  cond (Nat.beq (n246 + n391) (n246 + n391)) (k r241 (GEntry.mk false false 0 0 0 0 0 0 0) (GFault.mk r414 r243.Value t415 r243.GVA) r244 false (n246 + n391) (fun i => bif Nat.blt i n246 then (fun i => tf247 (0 + i)) i else (fun i => tf392 (0 + i)) (i - n246))) none)) (
  cond (Nat.beq (n246 + n391) (n246 + n391)) (k r241 (GEntry.mk false false 0 0 0 0 0 0 0) (GFault.mk r412 r243.Value r243.Place r243.GVA) r244 false (n246 + n391) (fun i => bif Nat.blt i n246 then (fun i => tf247 (0 + i)) i else (fun i => tf392 (0 + i)) (i - n246))) none))) (
  let t416 : Int := (gshr .u64 t386 8)
  let t417 : Int := (IntKind.i64.wrap t416)
  let t418 : Int := (gshr .u64 r387 8)
  let t419 : Int := (IntKind.i64.wrap t418)
  cond (Nat.beq (n246 + n391) (n246 + n391)) (k r387 (GEntry.mk r242.Valid r242.V r242.Page r242.Asid r242.Vmid t419 t382 r388 t417) (GFault.mk 0 0 0 false) true false (n246 + n391) (fun i => bif Nat.blt i n246 then (fun i => tf247 (0 + i)) i else (fun i => tf392 (0 + i)) (i - n246))) none)) none) none)) none))))))) (
  F_zm x0 r1 x2 x3 x6 (fun r420 r421 r422 nl423 n424 tf425 =>
  cond nl423 (
  let b426 : Bool := (r422 != 0)
  cond b426 (
  F_z2 x3 (fun r427 =>
  let b428 : Bool := (r422 == 1)
  cond b428 (
  F_z9 x3 (fun r429 =>
  let t430 : Int := (IntKind.u64.wrap (Int.tdiv x2 4))
  k 0 (GEntry.mk false false 0 0 0 0 0 0 0) (GFault.mk r429 x2 t430 x5) false true 0 (fun _ => 0))) (
  k 0 (GEntry.mk false false 0 0 0 0 0 0 0) (GFault.mk r427 x2 0 x5) false true 0 (fun _ => 0)))) (
  let t431 : Int := (gshr .u64 x2 8)
  let t432 : Int := (IntKind.i64.wrap t431)
  let t433 : Int := (gshr .u64 r420 8)
  let t434 : Int := (IntKind.i64.wrap t433)
  k r420 (GEntry.mk true x5 t232 r1.Asid r1.Vmid t434 255 r421 t432) (GFault.mk 0 0 0 false) true true 0 (fun _ => 0))) (
  cond (decide (0 + n424 ≤ n424)) (
  cond (Nat.beq n424 0) (
  let b435 : Bool := (r422 != 0)
  cond b435 (
  F_z2 x3 (fun r436 =>
  let b437 : Bool := (r422 == 1)
  cond b437 (
  F_z9 x3 (fun r438 =>
  let t439 : Int := (IntKind.u64.wrap (Int.tdiv x2 4))
  k 0 (GEntry.mk false false 0 0 0 0 0 0 0) (GFault.mk r438 x2 t439 x5) false true 0 (fun _ => 0))) (
  k 0 (GEntry.mk false false 0 0 0 0 0 0 0) (GFault.mk r436 x2 0 x5) false true 0 (fun _ => 0)))) (
  let t440 : Int := (gshr .u64 x2 8)
  let t441 : Int := (IntKind.i64.wrap t440)
  let t442 : Int := (gshr .u64 r420 8)
  let t443 : Int := (IntKind.i64.wrap t442)
  k r420 (GEntry.mk true x5 t232 r1.Asid r1.Vmid t443 255 r421 t441) (GFault.mk 0 0 0 false) true true 0 (fun _ => 0))) (
  cond (decide (n424 * 8 ≤ 140737488355328) && decide (n424 ≤ 4611686018427387904)) (
  let b444 : Bool := (r422 != 0)
  cond b444 (
  F_z2 x3 (fun r445 =>
  let b446 : Bool := (r422 == 1)
  cond b446 (
  F_z9 x3 (fun r447 =>
  let t448 : Int := (IntKind.u64.wrap (Int.tdiv x2 4))
  cond (Nat.beq n424 n424) (k 0 (GEntry.mk false false 0 0 0 0 0 0 0) (GFault.mk r447 x2 t448 x5) false false n424 (fun i => tf425 (0 + i))) none)) (
  cond (Nat.beq n424 n424) (k 0 (GEntry.mk false false 0 0 0 0 0 0 0) (GFault.mk r445 x2 0 x5) false false n424 (fun i => tf425 (0 + i))) none))) (
  let t449 : Int := (gshr .u64 x2 8)
  let t450 : Int := (IntKind.i64.wrap t449)
  let t451 : Int := (gshr .u64 r420 8)
  let t452 : Int := (IntKind.i64.wrap t451)
  cond (Nat.beq n424 n424) (k r420 (GEntry.mk true x5 t232 r1.Asid r1.Vmid t452 255 r421 t450) (GFault.mk 0 0 0 false) true false n424 (fun i => tf425 (0 + i))) none)) none)) none))))))
theorem le_zy {α : Type} {F F' : Sg_zy α} (h : ∀ x0 x1 x2 x3 x4 x5 x6 k r, F' x0 x1 x2 x3 x4 x5 x6 k = some r → F x0 x1 x2 x3 x4 x5 x6 k = some r) {args : List SV} {σ : Heap} {k : SV → Heap → R α} {r : α} (hk : ad_zy F' args σ k = some r) : ad_zy F args σ k = some r := by
  unfold ad_zy at hk
  split at hk <;> try (cases hk; done)
  obtain ⟨b, b1, g0, g1, x0, rfl, h0, h1, hne, hk0⟩ := withMem_spec hk
  obtain ⟨x1, rfl, hk1⟩ := GState.dec_spec hk0
  obtain ⟨x2, rfl, hk2⟩ := decI_spec hk1
  obtain ⟨x3, rfl, hk3⟩ := decI_spec hk2
  obtain ⟨x4, rfl, hk4⟩ := decI_spec hk3
  obtain ⟨x5, rfl, hk5⟩ := decB_spec hk4
  obtain ⟨x6, rfl, hk6⟩ := decB_spec hk5
  have hkz := hk6
  unfold ad_zy
  dsimp only
  rw [withMem_eq h0 h1 hne]
  exact h x0 x1 x2 x3 x4 x5 x6 _ _ hkz
abbrev Sg_z1 (α : Type) := Int → (Int → R α) → R α
def ad_z1 {α : Type} (F : Sg_z1 α) : FP α := fun args k => match args with
  | [a0] => decI .i64 a0 fun x0 => F x0 (fun r0 => k (.int .u64 r0))
  | _ => none
def dR_ref8_Mask {α : Type} (a0 : SV) (k : Int → R α) : R α := decI .u64 a0 fun x0 => k x0
theorem dR_ref8_Mask_spec {α : Type} {v : SV} {k : Int → R α} {r : α} (h : dR_ref8_Mask v k = some r) : ∃ x0, v = (.int .u64 x0) ∧ k x0 = some r := by
  unfold dR_ref8_Mask at h
  obtain ⟨x0, rfl, h0⟩ := decI_spec h
  exact ⟨x0, rfl, h0⟩
def p_z1 {α : Type}  (x0 : Int) (k : Int → R α) : R α :=
  let b1 : Bool := (x0 == 0)
  cond b1 (
  k 824641853866) (
  let b2 : Bool := (x0 == 1)
  cond b2 (
  k 15775231) (
  let b3 : Bool := (x0 == 2)
  cond b3 (
  k 544) (
  let b4 : Bool := (x0 == 3)
  cond b4 (
  k 1632) (
  let b5 : Bool := (x0 == 4)
  cond b5 (
  k 18446744073709551612) (
  let b6 : Bool := (x0 == 10)
  cond b6 (
  k 18446744073709551612) (
  let b7 : Bool := (x0 == 23)
  cond b7 (
  k 18446744073709551612) (
  let b8 : Bool := (x0 == 6)
  cond b8 (
  k 18446744073709551612) (
  let b9 : Bool := (x0 == 12)
  cond b9 (
  k 18446744073709551612) (
  let b10 : Bool := (x0 == 25)
  cond b10 (
  k 18446744073709551612) (
  let b11 : Bool := (x0 == 15)
  cond b11 (
  k 9223372036871487743) (
  let b12 : Bool := (x0 == 28)
  cond b12 (
  k 9223372036871487743) (
  let b13 : Bool := (x0 == 21)
  cond b13 (
  k 9223372036871487743) (
  let b14 : Bool := (x0 == 16)
  cond b14 (
  k 7340992) (
  let b15 : Bool := (x0 == 17)
  cond b15 (
  k 45567) (
  let b16 : Bool := (x0 == 18)
  cond b16 (
  k 1088) (
  let b17 : Bool := (x0 == 19)
  cond b17 (
  k 1088) (
  let b18 : Bool := (x0 == 22)
  cond b18 (
  k 786722) (
  let b19 : Bool := (ltB x0 0)
  cond b19 (
  k 0) (
  let b20 : Bool := (leB 29 x0)
  cond b20 (
  k 0) (
  k 18446744073709551615))))))))))))))))))))
theorem le_z1 {α : Type} {F F' : Sg_z1 α} (h : ∀ x0 k r, F' x0 k = some r → F x0 k = some r) {args : List SV} {k : SV → R α} {r : α} (hk : ad_z1 F' args k = some r) : ad_z1 F args k = some r := by
  unfold ad_z1 at hk
  split at hk <;> try (cases hk; done)
  obtain ⟨x0, rfl, hk0⟩ := decI_spec hk
  have hkz := hk0
  exact h x0 _ _ hkz
abbrev Sg_z17 (α : Type) := Int → (Int → R α) → R α
def ad_z17 {α : Type} (F : Sg_z17 α) : FP α := fun args k => match args with
  | [a0] => decI .u64 a0 fun x0 => F x0 (fun r0 => k (.int .u64 r0))
  | _ => none
def dR_ref8_Mpp {α : Type} (a0 : SV) (k : Int → R α) : R α := decI .u64 a0 fun x0 => k x0
theorem dR_ref8_Mpp_spec {α : Type} {v : SV} {k : Int → R α} {r : α} (h : dR_ref8_Mpp v k = some r) : ∃ x0, v = (.int .u64 x0) ∧ k x0 = some r := by
  unfold dR_ref8_Mpp at h
  obtain ⟨x0, rfl, h0⟩ := decI_spec h
  exact ⟨x0, rfl, h0⟩
def p_z17 {α : Type}  (x0 : Int) (k : Int → R α) : R α :=
  let t1 : Int := (gshr .u64 x0 11)
  let t2 : Int := (bitop .and .u64 t1 3)
  let b3 : Bool := (t2 == 2)
  cond b3 (
  let t4 : Int := (bitop .andNot .u64 x0 6144)
  k t4) (
  k x0)
theorem le_z17 {α : Type} {F F' : Sg_z17 α} (h : ∀ x0 k r, F' x0 k = some r → F x0 k = some r) {args : List SV} {k : SV → R α} {r : α} (hk : ad_z17 F' args k = some r) : ad_z17 F args k = some r := by
  unfold ad_z17 at hk
  split at hk <;> try (cases hk; done)
  obtain ⟨x0, rfl, hk0⟩ := decI_spec hk
  have hkz := hk0
  exact h x0 _ _ hkz
abbrev Sg_z1h (α : Type) := GState → (GState → R α) → R α
def ad_z1h {α : Type} (F : Sg_z1h α) : FP α := fun args k => match args with
  | [a0] => GState.dec a0 fun x0 => F x0 (fun r0 => k (GState.sv r0))
  | _ => none
def dR_ref18_Clean {α : Type} (a0 : SV) (k : GState → R α) : R α := GState.dec a0 fun x0 => k x0
theorem dR_ref18_Clean_spec {α : Type} {v : SV} {k : GState → R α} {r : α} (h : dR_ref18_Clean v k = some r) : ∃ x0, v = (GState.sv x0) ∧ k x0 = some r := by
  unfold dR_ref18_Clean at h
  obtain ⟨x0, rfl, h0⟩ := GState.dec_spec h
  exact ⟨x0, rfl, h0⟩
def p_z1h {α : Type} (F_z1 : Sg_z1 α) (F_z17 : Sg_z17 α) (x0 : GState) (k : GState → R α) : R α :=
  let b1 : Bool := (x0.Level != 0)
  cond b1 (
  let b2 : Bool := (x0.Level != 1)
  cond b2 (
  let b3 : Bool := (x0.Level != 3)
  cond b3 (
  F_z1 0 (fun r4 =>
  let t5 : Int := (bitop .and .u64 (x0.C 0) r4)
  F_z1 1 (fun r6 =>
  let t7 : Int := (bitop .and .u64 (x0.C 1) r6)
  F_z1 2 (fun r8 =>
  let t9 : Int := (bitop .and .u64 (x0.C 2) r8)
  F_z1 3 (fun r10 =>
  let t11 : Int := (bitop .and .u64 (x0.C 3) r10)
  F_z1 4 (fun r12 =>
  let t13 : Int := (bitop .and .u64 (x0.C 4) r12)
  F_z1 5 (fun r14 =>
  let t15 : Int := (bitop .and .u64 (x0.C 5) r14)
  F_z1 6 (fun r16 =>
  let t17 : Int := (bitop .and .u64 (x0.C 6) r16)
  F_z1 7 (fun r18 =>
  let t19 : Int := (bitop .and .u64 (x0.C 7) r18)
  F_z1 8 (fun r20 =>
  let t21 : Int := (bitop .and .u64 (x0.C 8) r20)
  F_z1 9 (fun r22 =>
  let t23 : Int := (bitop .and .u64 (x0.C 9) r22)
  F_z1 10 (fun r24 =>
  let t25 : Int := (bitop .and .u64 (x0.C 10) r24)
  F_z1 11 (fun r26 =>
  let t27 : Int := (bitop .and .u64 (x0.C 11) r26)
  F_z1 12 (fun r28 =>
  let t29 : Int := (bitop .and .u64 (x0.C 12) r28)
  F_z1 13 (fun r30 =>
  let t31 : Int := (bitop .and .u64 (x0.C 13) r30)
  F_z1 14 (fun r32 =>
  let t33 : Int := (bitop .and .u64 (x0.C 14) r32)
  F_z1 15 (fun r34 =>
  let t35 : Int := (bitop .and .u64 (x0.C 15) r34)
  F_z1 16 (fun r36 =>
  let t37 : Int := (bitop .and .u64 (x0.C 16) r36)
  F_z1 17 (fun r38 =>
  let t39 : Int := (bitop .and .u64 (x0.C 17) r38)
  F_z1 18 (fun r40 =>
  let t41 : Int := (bitop .and .u64 (x0.C 18) r40)
  F_z1 19 (fun r42 =>
  let t43 : Int := (bitop .and .u64 (x0.C 19) r42)
  F_z1 20 (fun r44 =>
  let t45 : Int := (bitop .and .u64 (x0.C 20) r44)
  F_z1 21 (fun r46 =>
  let t47 : Int := (bitop .and .u64 (x0.C 21) r46)
  F_z1 22 (fun r48 =>
  let t49 : Int := (bitop .and .u64 (x0.C 22) r48)
  F_z1 23 (fun r50 =>
  let t51 : Int := (bitop .and .u64 (x0.C 23) r50)
  F_z1 24 (fun r52 =>
  let t53 : Int := (bitop .and .u64 (x0.C 24) r52)
  F_z1 25 (fun r54 =>
  let t55 : Int := (bitop .and .u64 (x0.C 25) r54)
  F_z1 26 (fun r56 =>
  let t57 : Int := (bitop .and .u64 (x0.C 26) r56)
  F_z1 27 (fun r58 =>
  let t59 : Int := (bitop .and .u64 (x0.C 27) r58)
  F_z1 28 (fun r60 =>
  let t61 : Int := (bitop .and .u64 (x0.C 28) r60)
  F_z17 t5 (fun r62 =>
  let t63 : Int := (bitop .andNot .u64 x0.PC 3)
  k (GState.mk (upd x0.X 0 0) t63 3 false (upd (upd (upd (upd (upd (upd (upd (upd (upd (upd (upd (upd (upd (upd (upd (upd (upd (upd (upd (upd (upd (upd (upd (upd (upd (upd (upd (upd (upd (upd x0.C 0 t5) 1 t7) 2 t9) 3 t11) 4 t13) 5 t15) 6 t17) 7 t19) 8 t21) 9 t23) 10 t25) 11 t27) 12 t29) 13 t31) 14 t33) 15 t35) 16 t37) 17 t39) 18 t41) 19 t43) 20 t45) 21 t47) 22 t49) 23 t51) 24 t53) 25 t55) 26 t57) 27 t59) 28 t61) 0 r62) x0.Done)))))))))))))))))))))))))))))))) (
  let b64 : Bool := (x0.Level == 3)
  cond b64 (
  F_z1 0 (fun r65 =>
  let t66 : Int := (bitop .and .u64 (x0.C 0) r65)
  F_z1 1 (fun r67 =>
  let t68 : Int := (bitop .and .u64 (x0.C 1) r67)
  F_z1 2 (fun r69 =>
  let t70 : Int := (bitop .and .u64 (x0.C 2) r69)
  F_z1 3 (fun r71 =>
  let t72 : Int := (bitop .and .u64 (x0.C 3) r71)
  F_z1 4 (fun r73 =>
  let t74 : Int := (bitop .and .u64 (x0.C 4) r73)
  F_z1 5 (fun r75 =>
  let t76 : Int := (bitop .and .u64 (x0.C 5) r75)
  F_z1 6 (fun r77 =>
  let t78 : Int := (bitop .and .u64 (x0.C 6) r77)
  F_z1 7 (fun r79 =>
  let t80 : Int := (bitop .and .u64 (x0.C 7) r79)
  F_z1 8 (fun r81 =>
  let t82 : Int := (bitop .and .u64 (x0.C 8) r81)
  F_z1 9 (fun r83 =>
  let t84 : Int := (bitop .and .u64 (x0.C 9) r83)
  F_z1 10 (fun r85 =>
  let t86 : Int := (bitop .and .u64 (x0.C 10) r85)
  F_z1 11 (fun r87 =>
  let t88 : Int := (bitop .and .u64 (x0.C 11) r87)
  F_z1 12 (fun r89 =>
  let t90 : Int := (bitop .and .u64 (x0.C 12) r89)
  F_z1 13 (fun r91 =>
  let t92 : Int := (bitop .and .u64 (x0.C 13) r91)
  F_z1 14 (fun r93 =>
  let t94 : Int := (bitop .and .u64 (x0.C 14) r93)
  F_z1 15 (fun r95 =>
  let t96 : Int := (bitop .and .u64 (x0.C 15) r95)
  F_z1 16 (fun r97 =>
  let t98 : Int := (bitop .and .u64 (x0.C 16) r97)
  F_z1 17 (fun r99 =>
  let t100 : Int := (bitop .and .u64 (x0.C 17) r99)
  F_z1 18 (fun r101 =>
  let t102 : Int := (bitop .and .u64 (x0.C 18) r101)
  F_z1 19 (fun r103 =>
  let t104 : Int := (bitop .and .u64 (x0.C 19) r103)
  F_z1 20 (fun r105 =>
  let t106 : Int := (bitop .and .u64 (x0.C 20) r105)
  F_z1 21 (fun r107 =>
  let t108 : Int := (bitop .and .u64 (x0.C 21) r107)
  F_z1 22 (fun r109 =>
  let t110 : Int := (bitop .and .u64 (x0.C 22) r109)
  F_z1 23 (fun r111 =>
  let t112 : Int := (bitop .and .u64 (x0.C 23) r111)
  F_z1 24 (fun r113 =>
  let t114 : Int := (bitop .and .u64 (x0.C 24) r113)
  F_z1 25 (fun r115 =>
  let t116 : Int := (bitop .and .u64 (x0.C 25) r115)
  F_z1 26 (fun r117 =>
  let t118 : Int := (bitop .and .u64 (x0.C 26) r117)
  F_z1 27 (fun r119 =>
  let t120 : Int := (bitop .and .u64 (x0.C 27) r119)
  F_z1 28 (fun r121 =>
  let t122 : Int := (bitop .and .u64 (x0.C 28) r121)
  F_z17 t66 (fun r123 =>
  let t124 : Int := (bitop .andNot .u64 x0.PC 3)
  k (GState.mk (upd x0.X 0 0) t124 x0.Level false (upd (upd (upd (upd (upd (upd (upd (upd (upd (upd (upd (upd (upd (upd (upd (upd (upd (upd (upd (upd (upd (upd (upd (upd (upd (upd (upd (upd (upd (upd x0.C 0 t66) 1 t68) 2 t70) 3 t72) 4 t74) 5 t76) 6 t78) 7 t80) 8 t82) 9 t84) 10 t86) 11 t88) 12 t90) 13 t92) 14 t94) 15 t96) 16 t98) 17 t100) 18 t102) 19 t104) 20 t106) 21 t108) 22 t110) 23 t112) 24 t114) 25 t116) 26 t118) 27 t120) 28 t122) 0 r123) x0.Done)))))))))))))))))))))))))))))))) (
  F_z1 0 (fun r125 =>
  let t126 : Int := (bitop .and .u64 (x0.C 0) r125)
  F_z1 1 (fun r127 =>
  let t128 : Int := (bitop .and .u64 (x0.C 1) r127)
  F_z1 2 (fun r129 =>
  let t130 : Int := (bitop .and .u64 (x0.C 2) r129)
  F_z1 3 (fun r131 =>
  let t132 : Int := (bitop .and .u64 (x0.C 3) r131)
  F_z1 4 (fun r133 =>
  let t134 : Int := (bitop .and .u64 (x0.C 4) r133)
  F_z1 5 (fun r135 =>
  let t136 : Int := (bitop .and .u64 (x0.C 5) r135)
  F_z1 6 (fun r137 =>
  let t138 : Int := (bitop .and .u64 (x0.C 6) r137)
  F_z1 7 (fun r139 =>
  let t140 : Int := (bitop .and .u64 (x0.C 7) r139)
  F_z1 8 (fun r141 =>
  let t142 : Int := (bitop .and .u64 (x0.C 8) r141)
  F_z1 9 (fun r143 =>
  let t144 : Int := (bitop .and .u64 (x0.C 9) r143)
  F_z1 10 (fun r145 =>
  let t146 : Int := (bitop .and .u64 (x0.C 10) r145)
  F_z1 11 (fun r147 =>
  let t148 : Int := (bitop .and .u64 (x0.C 11) r147)
  F_z1 12 (fun r149 =>
  let t150 : Int := (bitop .and .u64 (x0.C 12) r149)
  F_z1 13 (fun r151 =>
  let t152 : Int := (bitop .and .u64 (x0.C 13) r151)
  F_z1 14 (fun r153 =>
  let t154 : Int := (bitop .and .u64 (x0.C 14) r153)
  F_z1 15 (fun r155 =>
  let t156 : Int := (bitop .and .u64 (x0.C 15) r155)
  F_z1 16 (fun r157 =>
  let t158 : Int := (bitop .and .u64 (x0.C 16) r157)
  F_z1 17 (fun r159 =>
  let t160 : Int := (bitop .and .u64 (x0.C 17) r159)
  F_z1 18 (fun r161 =>
  let t162 : Int := (bitop .and .u64 (x0.C 18) r161)
  F_z1 19 (fun r163 =>
  let t164 : Int := (bitop .and .u64 (x0.C 19) r163)
  F_z1 20 (fun r165 =>
  let t166 : Int := (bitop .and .u64 (x0.C 20) r165)
  F_z1 21 (fun r167 =>
  let t168 : Int := (bitop .and .u64 (x0.C 21) r167)
  F_z1 22 (fun r169 =>
  let t170 : Int := (bitop .and .u64 (x0.C 22) r169)
  F_z1 23 (fun r171 =>
  let t172 : Int := (bitop .and .u64 (x0.C 23) r171)
  F_z1 24 (fun r173 =>
  let t174 : Int := (bitop .and .u64 (x0.C 24) r173)
  F_z1 25 (fun r175 =>
  let t176 : Int := (bitop .and .u64 (x0.C 25) r175)
  F_z1 26 (fun r177 =>
  let t178 : Int := (bitop .and .u64 (x0.C 26) r177)
  F_z1 27 (fun r179 =>
  let t180 : Int := (bitop .and .u64 (x0.C 27) r179)
  F_z1 28 (fun r181 =>
  let t182 : Int := (bitop .and .u64 (x0.C 28) r181)
  F_z17 t126 (fun r183 =>
  let t184 : Int := (bitop .andNot .u64 x0.PC 3)
  k (GState.mk (upd x0.X 0 0) t184 x0.Level x0.V (upd (upd (upd (upd (upd (upd (upd (upd (upd (upd (upd (upd (upd (upd (upd (upd (upd (upd (upd (upd (upd (upd (upd (upd (upd (upd (upd (upd (upd (upd x0.C 0 t126) 1 t128) 2 t130) 3 t132) 4 t134) 5 t136) 6 t138) 7 t140) 8 t142) 9 t144) 10 t146) 11 t148) 12 t150) 13 t152) 14 t154) 15 t156) 16 t158) 17 t160) 18 t162) 19 t164) 20 t166) 21 t168) 22 t170) 23 t172) 24 t174) 25 t176) 26 t178) 27 t180) 28 t182) 0 r183) x0.Done)))))))))))))))))))))))))))))))))) (
  let b185 : Bool := (x0.Level == 3)
  cond b185 (
  F_z1 0 (fun r186 =>
  let t187 : Int := (bitop .and .u64 (x0.C 0) r186)
  F_z1 1 (fun r188 =>
  let t189 : Int := (bitop .and .u64 (x0.C 1) r188)
  F_z1 2 (fun r190 =>
  let t191 : Int := (bitop .and .u64 (x0.C 2) r190)
  F_z1 3 (fun r192 =>
  let t193 : Int := (bitop .and .u64 (x0.C 3) r192)
  F_z1 4 (fun r194 =>
  let t195 : Int := (bitop .and .u64 (x0.C 4) r194)
  F_z1 5 (fun r196 =>
  let t197 : Int := (bitop .and .u64 (x0.C 5) r196)
  F_z1 6 (fun r198 =>
  let t199 : Int := (bitop .and .u64 (x0.C 6) r198)
  F_z1 7 (fun r200 =>
  let t201 : Int := (bitop .and .u64 (x0.C 7) r200)
  F_z1 8 (fun r202 =>
  let t203 : Int := (bitop .and .u64 (x0.C 8) r202)
  F_z1 9 (fun r204 =>
  let t205 : Int := (bitop .and .u64 (x0.C 9) r204)
  F_z1 10 (fun r206 =>
  let t207 : Int := (bitop .and .u64 (x0.C 10) r206)
  F_z1 11 (fun r208 =>
  let t209 : Int := (bitop .and .u64 (x0.C 11) r208)
  F_z1 12 (fun r210 =>
  let t211 : Int := (bitop .and .u64 (x0.C 12) r210)
  F_z1 13 (fun r212 =>
  let t213 : Int := (bitop .and .u64 (x0.C 13) r212)
  F_z1 14 (fun r214 =>
  let t215 : Int := (bitop .and .u64 (x0.C 14) r214)
  F_z1 15 (fun r216 =>
  let t217 : Int := (bitop .and .u64 (x0.C 15) r216)
  F_z1 16 (fun r218 =>
  let t219 : Int := (bitop .and .u64 (x0.C 16) r218)
  F_z1 17 (fun r220 =>
  let t221 : Int := (bitop .and .u64 (x0.C 17) r220)
  F_z1 18 (fun r222 =>
  let t223 : Int := (bitop .and .u64 (x0.C 18) r222)
  F_z1 19 (fun r224 =>
  let t225 : Int := (bitop .and .u64 (x0.C 19) r224)
  F_z1 20 (fun r226 =>
  let t227 : Int := (bitop .and .u64 (x0.C 20) r226)
  F_z1 21 (fun r228 =>
  let t229 : Int := (bitop .and .u64 (x0.C 21) r228)
  F_z1 22 (fun r230 =>
  let t231 : Int := (bitop .and .u64 (x0.C 22) r230)
  F_z1 23 (fun r232 =>
  let t233 : Int := (bitop .and .u64 (x0.C 23) r232)
  F_z1 24 (fun r234 =>
  let t235 : Int := (bitop .and .u64 (x0.C 24) r234)
  F_z1 25 (fun r236 =>
  let t237 : Int := (bitop .and .u64 (x0.C 25) r236)
  F_z1 26 (fun r238 =>
  let t239 : Int := (bitop .and .u64 (x0.C 26) r238)
  F_z1 27 (fun r240 =>
  let t241 : Int := (bitop .and .u64 (x0.C 27) r240)
  F_z1 28 (fun r242 =>
  let t243 : Int := (bitop .and .u64 (x0.C 28) r242)
  F_z17 t187 (fun r244 =>
  let t245 : Int := (bitop .andNot .u64 x0.PC 3)
  k (GState.mk (upd x0.X 0 0) t245 x0.Level false (upd (upd (upd (upd (upd (upd (upd (upd (upd (upd (upd (upd (upd (upd (upd (upd (upd (upd (upd (upd (upd (upd (upd (upd (upd (upd (upd (upd (upd (upd x0.C 0 t187) 1 t189) 2 t191) 3 t193) 4 t195) 5 t197) 6 t199) 7 t201) 8 t203) 9 t205) 10 t207) 11 t209) 12 t211) 13 t213) 14 t215) 15 t217) 16 t219) 17 t221) 18 t223) 19 t225) 20 t227) 21 t229) 22 t231) 23 t233) 24 t235) 25 t237) 26 t239) 27 t241) 28 t243) 0 r244) x0.Done)))))))))))))))))))))))))))))))) (
  F_z1 0 (fun r246 =>
  let t247 : Int := (bitop .and .u64 (x0.C 0) r246)
  F_z1 1 (fun r248 =>
  let t249 : Int := (bitop .and .u64 (x0.C 1) r248)
  F_z1 2 (fun r250 =>
  let t251 : Int := (bitop .and .u64 (x0.C 2) r250)
  F_z1 3 (fun r252 =>
  let t253 : Int := (bitop .and .u64 (x0.C 3) r252)
  F_z1 4 (fun r254 =>
  let t255 : Int := (bitop .and .u64 (x0.C 4) r254)
  F_z1 5 (fun r256 =>
  let t257 : Int := (bitop .and .u64 (x0.C 5) r256)
  F_z1 6 (fun r258 =>
  let t259 : Int := (bitop .and .u64 (x0.C 6) r258)
  F_z1 7 (fun r260 =>
  let t261 : Int := (bitop .and .u64 (x0.C 7) r260)
  F_z1 8 (fun r262 =>
  let t263 : Int := (bitop .and .u64 (x0.C 8) r262)
  F_z1 9 (fun r264 =>
  let t265 : Int := (bitop .and .u64 (x0.C 9) r264)
  F_z1 10 (fun r266 =>
  let t267 : Int := (bitop .and .u64 (x0.C 10) r266)
  F_z1 11 (fun r268 =>
  let t269 : Int := (bitop .and .u64 (x0.C 11) r268)
  F_z1 12 (fun r270 =>
  let t271 : Int := (bitop .and .u64 (x0.C 12) r270)
  F_z1 13 (fun r272 =>
  let t273 : Int := (bitop .and .u64 (x0.C 13) r272)
  F_z1 14 (fun r274 =>
  let t275 : Int := (bitop .and .u64 (x0.C 14) r274)
  F_z1 15 (fun r276 =>
  let t277 : Int := (bitop .and .u64 (x0.C 15) r276)
  F_z1 16 (fun r278 =>
  let t279 : Int := (bitop .and .u64 (x0.C 16) r278)
  F_z1 17 (fun r280 =>
  let t281 : Int := (bitop .and .u64 (x0.C 17) r280)
  F_z1 18 (fun r282 =>
  let t283 : Int := (bitop .and .u64 (x0.C 18) r282)
  F_z1 19 (fun r284 =>
  let t285 : Int := (bitop .and .u64 (x0.C 19) r284)
  F_z1 20 (fun r286 =>
  let t287 : Int := (bitop .and .u64 (x0.C 20) r286)
  F_z1 21 (fun r288 =>
  let t289 : Int := (bitop .and .u64 (x0.C 21) r288)
  F_z1 22 (fun r290 =>
  let t291 : Int := (bitop .and .u64 (x0.C 22) r290)
  F_z1 23 (fun r292 =>
  let t293 : Int := (bitop .and .u64 (x0.C 23) r292)
  F_z1 24 (fun r294 =>
  let t295 : Int := (bitop .and .u64 (x0.C 24) r294)
  F_z1 25 (fun r296 =>
  let t297 : Int := (bitop .and .u64 (x0.C 25) r296)
  F_z1 26 (fun r298 =>
  let t299 : Int := (bitop .and .u64 (x0.C 26) r298)
  F_z1 27 (fun r300 =>
  let t301 : Int := (bitop .and .u64 (x0.C 27) r300)
  F_z1 28 (fun r302 =>
  let t303 : Int := (bitop .and .u64 (x0.C 28) r302)
  F_z17 t247 (fun r304 =>
  let t305 : Int := (bitop .andNot .u64 x0.PC 3)
  k (GState.mk (upd x0.X 0 0) t305 x0.Level x0.V (upd (upd (upd (upd (upd (upd (upd (upd (upd (upd (upd (upd (upd (upd (upd (upd (upd (upd (upd (upd (upd (upd (upd (upd (upd (upd (upd (upd (upd (upd x0.C 0 t247) 1 t249) 2 t251) 3 t253) 4 t255) 5 t257) 6 t259) 7 t261) 8 t263) 9 t265) 10 t267) 11 t269) 12 t271) 13 t273) 14 t275) 15 t277) 16 t279) 17 t281) 18 t283) 19 t285) 20 t287) 21 t289) 22 t291) 23 t293) 24 t295) 25 t297) 26 t299) 27 t301) 28 t303) 0 r304) x0.Done)))))))))))))))))))))))))))))))))) (
  let b306 : Bool := (x0.Level == 3)
  cond b306 (
  F_z1 0 (fun r307 =>
  let t308 : Int := (bitop .and .u64 (x0.C 0) r307)
  F_z1 1 (fun r309 =>
  let t310 : Int := (bitop .and .u64 (x0.C 1) r309)
  F_z1 2 (fun r311 =>
  let t312 : Int := (bitop .and .u64 (x0.C 2) r311)
  F_z1 3 (fun r313 =>
  let t314 : Int := (bitop .and .u64 (x0.C 3) r313)
  F_z1 4 (fun r315 =>
  let t316 : Int := (bitop .and .u64 (x0.C 4) r315)
  F_z1 5 (fun r317 =>
  let t318 : Int := (bitop .and .u64 (x0.C 5) r317)
  F_z1 6 (fun r319 =>
  let t320 : Int := (bitop .and .u64 (x0.C 6) r319)
  F_z1 7 (fun r321 =>
  let t322 : Int := (bitop .and .u64 (x0.C 7) r321)
  F_z1 8 (fun r323 =>
  let t324 : Int := (bitop .and .u64 (x0.C 8) r323)
  F_z1 9 (fun r325 =>
  let t326 : Int := (bitop .and .u64 (x0.C 9) r325)
  F_z1 10 (fun r327 =>
  let t328 : Int := (bitop .and .u64 (x0.C 10) r327)
  F_z1 11 (fun r329 =>
  let t330 : Int := (bitop .and .u64 (x0.C 11) r329)
  F_z1 12 (fun r331 =>
  let t332 : Int := (bitop .and .u64 (x0.C 12) r331)
  F_z1 13 (fun r333 =>
  let t334 : Int := (bitop .and .u64 (x0.C 13) r333)
  F_z1 14 (fun r335 =>
  let t336 : Int := (bitop .and .u64 (x0.C 14) r335)
  F_z1 15 (fun r337 =>
  let t338 : Int := (bitop .and .u64 (x0.C 15) r337)
  F_z1 16 (fun r339 =>
  let t340 : Int := (bitop .and .u64 (x0.C 16) r339)
  F_z1 17 (fun r341 =>
  let t342 : Int := (bitop .and .u64 (x0.C 17) r341)
  F_z1 18 (fun r343 =>
  let t344 : Int := (bitop .and .u64 (x0.C 18) r343)
  F_z1 19 (fun r345 =>
  let t346 : Int := (bitop .and .u64 (x0.C 19) r345)
  F_z1 20 (fun r347 =>
  let t348 : Int := (bitop .and .u64 (x0.C 20) r347)
  F_z1 21 (fun r349 =>
  let t350 : Int := (bitop .and .u64 (x0.C 21) r349)
  F_z1 22 (fun r351 =>
  let t352 : Int := (bitop .and .u64 (x0.C 22) r351)
  F_z1 23 (fun r353 =>
  let t354 : Int := (bitop .and .u64 (x0.C 23) r353)
  F_z1 24 (fun r355 =>
  let t356 : Int := (bitop .and .u64 (x0.C 24) r355)
  F_z1 25 (fun r357 =>
  let t358 : Int := (bitop .and .u64 (x0.C 25) r357)
  F_z1 26 (fun r359 =>
  let t360 : Int := (bitop .and .u64 (x0.C 26) r359)
  F_z1 27 (fun r361 =>
  let t362 : Int := (bitop .and .u64 (x0.C 27) r361)
  F_z1 28 (fun r363 =>
  let t364 : Int := (bitop .and .u64 (x0.C 28) r363)
  F_z17 t308 (fun r365 =>
  let t366 : Int := (bitop .andNot .u64 x0.PC 3)
  k (GState.mk (upd x0.X 0 0) t366 x0.Level false (upd (upd (upd (upd (upd (upd (upd (upd (upd (upd (upd (upd (upd (upd (upd (upd (upd (upd (upd (upd (upd (upd (upd (upd (upd (upd (upd (upd (upd (upd x0.C 0 t308) 1 t310) 2 t312) 3 t314) 4 t316) 5 t318) 6 t320) 7 t322) 8 t324) 9 t326) 10 t328) 11 t330) 12 t332) 13 t334) 14 t336) 15 t338) 16 t340) 17 t342) 18 t344) 19 t346) 20 t348) 21 t350) 22 t352) 23 t354) 24 t356) 25 t358) 26 t360) 27 t362) 28 t364) 0 r365) x0.Done)))))))))))))))))))))))))))))))) (
  F_z1 0 (fun r367 =>
  let t368 : Int := (bitop .and .u64 (x0.C 0) r367)
  F_z1 1 (fun r369 =>
  let t370 : Int := (bitop .and .u64 (x0.C 1) r369)
  F_z1 2 (fun r371 =>
  let t372 : Int := (bitop .and .u64 (x0.C 2) r371)
  F_z1 3 (fun r373 =>
  let t374 : Int := (bitop .and .u64 (x0.C 3) r373)
  F_z1 4 (fun r375 =>
  let t376 : Int := (bitop .and .u64 (x0.C 4) r375)
  F_z1 5 (fun r377 =>
  let t378 : Int := (bitop .and .u64 (x0.C 5) r377)
  F_z1 6 (fun r379 =>
  let t380 : Int := (bitop .and .u64 (x0.C 6) r379)
  F_z1 7 (fun r381 =>
  let t382 : Int := (bitop .and .u64 (x0.C 7) r381)
  F_z1 8 (fun r383 =>
  let t384 : Int := (bitop .and .u64 (x0.C 8) r383)
  F_z1 9 (fun r385 =>
  let t386 : Int := (bitop .and .u64 (x0.C 9) r385)
  F_z1 10 (fun r387 =>
  let t388 : Int := (bitop .and .u64 (x0.C 10) r387)
  F_z1 11 (fun r389 =>
  let t390 : Int := (bitop .and .u64 (x0.C 11) r389)
  F_z1 12 (fun r391 =>
  let t392 : Int := (bitop .and .u64 (x0.C 12) r391)
  F_z1 13 (fun r393 =>
  let t394 : Int := (bitop .and .u64 (x0.C 13) r393)
  F_z1 14 (fun r395 =>
  let t396 : Int := (bitop .and .u64 (x0.C 14) r395)
  F_z1 15 (fun r397 =>
  let t398 : Int := (bitop .and .u64 (x0.C 15) r397)
  F_z1 16 (fun r399 =>
  let t400 : Int := (bitop .and .u64 (x0.C 16) r399)
  F_z1 17 (fun r401 =>
  let t402 : Int := (bitop .and .u64 (x0.C 17) r401)
  F_z1 18 (fun r403 =>
  let t404 : Int := (bitop .and .u64 (x0.C 18) r403)
  F_z1 19 (fun r405 =>
  let t406 : Int := (bitop .and .u64 (x0.C 19) r405)
  F_z1 20 (fun r407 =>
  let t408 : Int := (bitop .and .u64 (x0.C 20) r407)
  F_z1 21 (fun r409 =>
  let t410 : Int := (bitop .and .u64 (x0.C 21) r409)
  F_z1 22 (fun r411 =>
  let t412 : Int := (bitop .and .u64 (x0.C 22) r411)
  F_z1 23 (fun r413 =>
  let t414 : Int := (bitop .and .u64 (x0.C 23) r413)
  F_z1 24 (fun r415 =>
  let t416 : Int := (bitop .and .u64 (x0.C 24) r415)
  F_z1 25 (fun r417 =>
  let t418 : Int := (bitop .and .u64 (x0.C 25) r417)
  F_z1 26 (fun r419 =>
  let t420 : Int := (bitop .and .u64 (x0.C 26) r419)
  F_z1 27 (fun r421 =>
  let t422 : Int := (bitop .and .u64 (x0.C 27) r421)
  F_z1 28 (fun r423 =>
  let t424 : Int := (bitop .and .u64 (x0.C 28) r423)
  F_z17 t368 (fun r425 =>
  let t426 : Int := (bitop .andNot .u64 x0.PC 3)
  k (GState.mk (upd x0.X 0 0) t426 x0.Level x0.V (upd (upd (upd (upd (upd (upd (upd (upd (upd (upd (upd (upd (upd (upd (upd (upd (upd (upd (upd (upd (upd (upd (upd (upd (upd (upd (upd (upd (upd (upd x0.C 0 t368) 1 t370) 2 t372) 3 t374) 4 t376) 5 t378) 6 t380) 7 t382) 8 t384) 9 t386) 10 t388) 11 t390) 12 t392) 13 t394) 14 t396) 15 t398) 16 t400) 17 t402) 18 t404) 19 t406) 20 t408) 21 t410) 22 t412) 23 t414) 24 t416) 25 t418) 26 t420) 27 t422) 28 t424) 0 r425) x0.Done)))))))))))))))))))))))))))))))))
theorem le_z1h {α : Type} {F F' : Sg_z1h α} (h : ∀ x0 k r, F' x0 k = some r → F x0 k = some r) {args : List SV} {k : SV → R α} {r : α} (hk : ad_z1h F' args k = some r) : ad_z1h F args k = some r := by
  unfold ad_z1h at hk
  split at hk <;> try (cases hk; done)
  obtain ⟨x0, rfl, hk0⟩ := GState.dec_spec hk
  have hkz := hk0
  exact h x0 _ _ hkz
abbrev Sg_zk (α : Type) := (Nat → Int) → Int → Int → Int → ((Nat → Int) → R α) → R α
def ad_zk {α : Type} (F : Sg_zk α) : FF α := fun args σ k => match args with
  | [a0, a1, a2, a3] => withMem σ a0 fun _ b1 _ g1 x0 => decI .u64 a1 fun x1 => decI .i64 a2 fun x2 => decI .u64 a3 fun x3 => F x0 x1 x2 x3 (fun fm => k (.tuple []) ⟨σ.next, [(b1, byO g1 fm)] ++ σ.blocks⟩)
  | _ => none
def dR_ref1_Mem_Write {α : Type} (v : SV) (σ1 : Heap) (k : Option Nat → (Nat → Int) → R α) : R α := bif keptX 2 1 σ1 then nowAt σ1 1 fun g fm => (match v with | .tuple [] =>  k g fm | _ => none) else none
def p_z2t {α : Type}  (x0 : (Nat → Int)) (x1 : Int) (x3 : Int) (k : (Nat → Int) → R α) : R α :=
  let t1 : Int := (IntKind.i64.wrap x1)
  let t2 : Int := (IntKind.i64.wrap (t1 + 0))
  let t3 : Int := (gshr .u64 x3 0)
  let t4 : Int := (IntKind.u8.wrap t3)
  cond (decide (0 ≤ t2) && decide (t2 < 32768)) (
  cond (decide ((0 + (Int.toNat t2)) < 32768)) (
  let t5 : Int := (IntKind.i64.wrap x1)
  let t6 : Int := (IntKind.i64.wrap (t5 + 1))
  let t7 : Int := (gshr .u64 x3 8)
  let t8 : Int := (IntKind.u8.wrap t7)
  cond (decide (0 ≤ t6) && decide (t6 < 32768)) (
  cond (decide ((0 + (Int.toNat t6)) < 32768)) (
  let t9 : Int := (IntKind.i64.wrap x1)
  let t10 : Int := (IntKind.i64.wrap (t9 + 2))
  let t11 : Int := (gshr .u64 x3 16)
  let t12 : Int := (IntKind.u8.wrap t11)
  cond (decide (0 ≤ t10) && decide (t10 < 32768)) (
  cond (decide ((0 + (Int.toNat t10)) < 32768)) (
  let t13 : Int := (IntKind.i64.wrap x1)
  let t14 : Int := (IntKind.i64.wrap (t13 + 3))
  let t15 : Int := (gshr .u64 x3 24)
  let t16 : Int := (IntKind.u8.wrap t15)
  cond (decide (0 ≤ t14) && decide (t14 < 32768)) (
  cond (decide ((0 + (Int.toNat t14)) < 32768)) (
  let t17 : Int := (IntKind.i64.wrap x1)
  let t18 : Int := (IntKind.i64.wrap (t17 + 4))
  let t19 : Int := (gshr .u64 x3 32)
  let t20 : Int := (IntKind.u8.wrap t19)
  cond (decide (0 ≤ t18) && decide (t18 < 32768)) (
  cond (decide ((0 + (Int.toNat t18)) < 32768)) (
  let t21 : Int := (IntKind.i64.wrap x1)
  let t22 : Int := (IntKind.i64.wrap (t21 + 5))
  let t23 : Int := (gshr .u64 x3 40)
  let t24 : Int := (IntKind.u8.wrap t23)
  cond (decide (0 ≤ t22) && decide (t22 < 32768)) (
  cond (decide ((0 + (Int.toNat t22)) < 32768)) (
  let t25 : Int := (IntKind.i64.wrap x1)
  let t26 : Int := (IntKind.i64.wrap (t25 + 6))
  let t27 : Int := (gshr .u64 x3 48)
  let t28 : Int := (IntKind.u8.wrap t27)
  cond (decide (0 ≤ t26) && decide (t26 < 32768)) (
  cond (decide ((0 + (Int.toNat t26)) < 32768)) (
  let t29 : Int := (IntKind.i64.wrap x1)
  let t30 : Int := (IntKind.i64.wrap (t29 + 7))
  let t31 : Int := (gshr .u64 x3 56)
  let t32 : Int := (IntKind.u8.wrap t31)
  cond (decide (0 ≤ t30) && decide (t30 < 32768)) (
  cond (decide ((0 + (Int.toNat t30)) < 32768)) (
  k (upd (upd (upd (upd (upd (upd (upd (upd x0 (0 + (Int.toNat t2)) t4) (0 + (Int.toNat t6)) t8) (0 + (Int.toNat t10)) t12) (0 + (Int.toNat t14)) t16) (0 + (Int.toNat t18)) t20) (0 + (Int.toNat t22)) t24) (0 + (Int.toNat t26)) t28) (0 + (Int.toNat t30)) t32)) none) none) none) none) none) none) none) none) none) none) none) none) none) none) none) none
def p_z2u {α : Type}  (x0 : (Nat → Int)) (x1 : Int) (x3 : Int) (k : (Nat → Int) → R α) : R α :=
  let t1 : Int := (IntKind.i64.wrap x1)
  let t2 : Int := (IntKind.i64.wrap (t1 + 0))
  let t3 : Int := (gshr .u64 x3 0)
  let t4 : Int := (IntKind.u8.wrap t3)
  cond (decide (0 ≤ t2) && decide (t2 < 32768)) (
  cond (decide ((0 + (Int.toNat t2)) < 32768)) (
  let t5 : Int := (IntKind.i64.wrap x1)
  let t6 : Int := (IntKind.i64.wrap (t5 + 1))
  let t7 : Int := (gshr .u64 x3 8)
  let t8 : Int := (IntKind.u8.wrap t7)
  cond (decide (0 ≤ t6) && decide (t6 < 32768)) (
  cond (decide ((0 + (Int.toNat t6)) < 32768)) (
  let t9 : Int := (IntKind.i64.wrap x1)
  let t10 : Int := (IntKind.i64.wrap (t9 + 2))
  let t11 : Int := (gshr .u64 x3 16)
  let t12 : Int := (IntKind.u8.wrap t11)
  cond (decide (0 ≤ t10) && decide (t10 < 32768)) (
  cond (decide ((0 + (Int.toNat t10)) < 32768)) (
  let t13 : Int := (IntKind.i64.wrap x1)
  let t14 : Int := (IntKind.i64.wrap (t13 + 3))
  let t15 : Int := (gshr .u64 x3 24)
  let t16 : Int := (IntKind.u8.wrap t15)
  cond (decide (0 ≤ t14) && decide (t14 < 32768)) (
  cond (decide ((0 + (Int.toNat t14)) < 32768)) (
  k (upd (upd (upd (upd x0 (0 + (Int.toNat t2)) t4) (0 + (Int.toNat t6)) t8) (0 + (Int.toNat t10)) t12) (0 + (Int.toNat t14)) t16)) none) none) none) none) none) none) none) none
def p_z2v {α : Type}  (x0 : (Nat → Int)) (x1 : Int) (x3 : Int) (k : (Nat → Int) → R α) : R α :=
  let t1 : Int := (IntKind.i64.wrap x1)
  let t2 : Int := (IntKind.i64.wrap (t1 + 0))
  let t3 : Int := (gshr .u64 x3 0)
  let t4 : Int := (IntKind.u8.wrap t3)
  cond (decide (0 ≤ t2) && decide (t2 < 32768)) (
  cond (decide ((0 + (Int.toNat t2)) < 32768)) (
  let t5 : Int := (IntKind.i64.wrap x1)
  let t6 : Int := (IntKind.i64.wrap (t5 + 1))
  let t7 : Int := (gshr .u64 x3 8)
  let t8 : Int := (IntKind.u8.wrap t7)
  cond (decide (0 ≤ t6) && decide (t6 < 32768)) (
  cond (decide ((0 + (Int.toNat t6)) < 32768)) (
  k (upd (upd x0 (0 + (Int.toNat t2)) t4) (0 + (Int.toNat t6)) t8)) none) none) none) none
def p_z2w {α : Type}  (x0 : (Nat → Int)) (x1 : Int) (x3 : Int) (k : (Nat → Int) → R α) : R α :=
  let t1 : Int := (IntKind.i64.wrap x1)
  let t2 : Int := (IntKind.i64.wrap (t1 + 0))
  let t3 : Int := (gshr .u64 x3 0)
  let t4 : Int := (IntKind.u8.wrap t3)
  cond (decide (0 ≤ t2) && decide (t2 < 32768)) (
  cond (decide ((0 + (Int.toNat t2)) < 32768)) (
  k (upd x0 (0 + (Int.toNat t2)) t4)) none) none
def p_zk {α : Type}  (x0 : (Nat → Int)) (x1 : Int) (x2 : Int) (x3 : Int) (k : (Nat → Int) → R α) : R α :=
  cond (x2 == 8) (p_z2t  x0 x1 x3 k) ( cond (x2 == 4) (p_z2u  x0 x1 x3 k) ( cond (x2 == 2) (p_z2v  x0 x1 x3 k) ( cond (x2 == 1) (p_z2w  x0 x1 x3 k) ( none))))
theorem le_zk {α : Type} {F F' : Sg_zk α} (h : ∀ x0 x1 x2 x3 k r, F' x0 x1 x2 x3 k = some r → F x0 x1 x2 x3 k = some r) {args : List SV} {σ : Heap} {k : SV → Heap → R α} {r : α} (hk : ad_zk F' args σ k = some r) : ad_zk F args σ k = some r := by
  unfold ad_zk at hk
  split at hk <;> try (cases hk; done)
  obtain ⟨b, b1, g0, g1, x0, rfl, h0, h1, hne, hk0⟩ := withMem_spec hk
  obtain ⟨x1, rfl, hk1⟩ := decI_spec hk0
  obtain ⟨x2, rfl, hk2⟩ := decI_spec hk1
  obtain ⟨x3, rfl, hk3⟩ := decI_spec hk2
  have hkz := hk3
  unfold ad_zk
  dsimp only
  rw [withMem_eq h0 h1 hne]
  exact h x0 x1 x2 x3 _ _ hkz
end Go.Sh
